-- Printed by a program of this session (wip/own_print.py) out of the translation; Lean checks it.
import Derived.Test.YtdmlbgdefapcjaaShort
import Derived.Test.YtdmlbgdefapcjaaNils
import Derived.Test.YtdmlbgdefapcjaaPrint0
import Derived.Test.YtdmlbgdefapcjaaPrint3
import Derived.Test.YtdmlbgdefapcjaaPrint10
namespace Go.Proofs.Ytdmlbgdefapcjaa.Print
open Go.RowKit Go.Proofs.YtdmlbgdefapcjaaW.PrintWords Go.Proofs.YtdmlbgdefapcjaaW.PrintLast Go.Proofs.YtdmlbgdefapcjaaW.PrintMore
attribute [local go_sem] max2_int min2_int max_two min_two max_three min_three max_four min_four   -- for this text's walks alone
set_option linter.unusedVariables false
set_option linter.unusedSimpArgs false

/-! ### awardingbodylaw12_shaped: function 22 -/
mutual
def awardingbodylaw12_shaped.l0 : Nat → Int → Int → List Int → Int → Int → Int → List (S23) → List (List Int) → Option ((List (List Int)) × Int)
  | 0, _, _, _, _, _, _, _, _ => none
  | k + 1, x6, x7, x1000, x1001, x419000, x419001, x419002, x421000 => if x7 < (x419002.length : Int) then (if 0 ≤ x7 then ((awardingbodyref12_Need.f k ((rd_T23 x419002 x7).f0) ((rd_T23 x419002 x7).f1) ((rd_T23 x419002 x7).f2) ((rd_T23 x419002 x7).f3) ((rd_T23 x419002 x7).f4) ((rd_T23 x419002 x7).f5)).bind fun t425 => (if t425 > x6 then (if x421000.length < 5864062014805 then ((some (x421000 ++ [[]] : List (List Int))).bind fun y426 => (if 0 ≤ (wrap64 ((y426.length : Int) - 1)) then (if (wrap64 ((y426.length : Int) - 1)) < (y426.length : Int) then (if (rd_L2 y426 (wrap64 ((y426.length : Int) - 1))).length < 17592186044416 then (awardingbodylaw12_shaped.l0 k (wrap64 (30 - t425)) (wrap64 (x7 + 1)) x1000 x1001 x419000 x419001 x419002 (y426.set ((wrap64 ((y426.length : Int) - 1)) : Int).toNat ((rd_L2 y426 (wrap64 ((y426.length : Int) - 1))) ++ [x7]))) else (none)) else (none)) else (none))) else (none)) else ((awardingbodymake_Tape_One.f x1000 x1001 4).bind fun bt434 => (if bt434.1 = true then (if x421000.length < 5864062014805 then ((some (x421000 ++ [[]] : List (List Int))).bind fun y436 => (if 0 ≤ (wrap64 ((y436.length : Int) - 1)) then (if (wrap64 ((y436.length : Int) - 1)) < (y436.length : Int) then (if (rd_L2 y436 (wrap64 ((y436.length : Int) - 1))).length < 17592186044416 then (awardingbodylaw12_shaped.l0 k (wrap64 (30 - t425)) (wrap64 (x7 + 1)) x1000 bt434.2 x419000 x419001 x419002 (y436.set ((wrap64 ((y436.length : Int) - 1)) : Int).toNat ((rd_L2 y436 (wrap64 ((y436.length : Int) - 1))) ++ [x7]))) else (none)) else (none)) else (none))) else (none)) else (if 0 ≤ (wrap64 ((x421000.length : Int) - 1)) then (if (wrap64 ((x421000.length : Int) - 1)) < (x421000.length : Int) then (if (rd_L2 x421000 (wrap64 ((x421000.length : Int) - 1))).length < 17592186044416 then (awardingbodylaw12_shaped.l0 k (wrap64 (x6 - t425)) (wrap64 (x7 + 1)) x1000 bt434.2 x419000 x419001 x419002 (x421000.set ((wrap64 ((x421000.length : Int) - 1)) : Int).toNat ((rd_L2 x421000 (wrap64 ((x421000.length : Int) - 1))) ++ [x7]))) else (none)) else (none)) else (none)))))) else (none)) else (awardingbodylaw12_shaped.l1 k x1000 x1001 x419000 x419001 x419002 x421000)
def awardingbodylaw12_shaped.l1 : Nat → List Int → Int → Int → Int → List (S23) → List (List Int) → Option ((List (List Int)) × Int)
  | 0, _, _, _, _, _, _ => none
  | k + 1, x1000, x1001, x419000, x419001, x419002, x421000 => if ((x421000.length : Int) % 4) = 0 then ((awardingbodymake_Tape_One.f x1000 x1001 3).bind fun bt452 => (if bt452.1 = true then ((awardingbodymake_Tape_Next.f x1000 bt452.2 (x421000.length : Int)).bind fun bt454 => ((awardingbodymake_Tape_Next.f x1000 bt454.2 4).bind fun bt456 => (if bt456.1 = 0 then (if 0 ≤ bt454.1 then (if bt454.1 < (x421000.length : Int) then ((awardingbodymake_Tape_Range.f x1000 bt456.2 (-1) (x419002.length : Int)).bind fun bt459 => (if (rd_L2 x421000 bt454.1).length < 17592186044416 then (some ((x421000.set (bt454.1 : Int).toNat ((rd_L2 x421000 bt454.1) ++ [bt459.1])), bt459.2)) else (none))) else (none)) else (none)) else (if bt456.1 = 1 then (if 0 ≤ bt454.1 then (if bt454.1 < (x421000.length : Int) then (some ((x421000.set (bt454.1 : Int).toNat ([] : List Int)), bt456.2)) else (none)) else (none)) else (if bt456.1 = 2 then (if 0 ≤ bt454.1 then (if bt454.1 ≤ (x421000.length : Int) then (some ((x421000.take (bt454.1 : Int).toNat), bt456.2)) else (none)) else (none)) else (if x421000.length + 4 < 5864062014805 then (some ((x421000 ++ List.replicate 4 []), bt456.2)) else (none))))))) else (some (x421000, bt452.2)))) else (if x421000.length < 5864062014805 then (awardingbodylaw12_shaped.l1 k x1000 x1001 x419000 x419001 x419002 (x421000 ++ [[]])) else (none))
end
def awardingbodylaw12_shaped.f (k : Nat) (s0_0 : List Int) (s0_1 : Int) (a1_0 : Int) (a1_1 : Int) (l1_2 : List (S23)) : Option ((List (List Int)) × Int) := if ([] : List (List Int)).length + 2 < 5864062014805 then (awardingbodylaw12_shaped.l0 k 30 0 s0_0 s0_1 a1_0 a1_1 l1_2 (([] : List (List Int)) ++ List.replicate 2 [])) else (none)
theorem awardingbodylaw12_shaped.mono_l : ∀ k, (∀ y0 y1 y2 y3 y4 y5 y6 y7, LeO (awardingbodylaw12_shaped.l0 k y0 y1 y2 y3 y4 y5 y6 y7) (awardingbodylaw12_shaped.l0 (k + 1) y0 y1 y2 y3 y4 y5 y6 y7)) ∧ (∀ y0 y1 y2 y3 y4 y5, LeO (awardingbodylaw12_shaped.l1 k y0 y1 y2 y3 y4 y5) (awardingbodylaw12_shaped.l1 (k + 1) y0 y1 y2 y3 y4 y5))
  | 0 => ⟨fun _ _ _ _ _ _ _ _ r h => by simp [awardingbodylaw12_shaped.l0] at h, fun _ _ _ _ _ _ r h => by simp [awardingbodylaw12_shaped.l1] at h⟩
  | k + 1 => by
    obtain ⟨ih0, ih1⟩ := awardingbodylaw12_shaped.mono_l k
    refine ⟨?_, ?_⟩
    · intro y0 y1 y2 y3 y4 y5 y6 y7
      unfold awardingbodylaw12_shaped.l0
      repeat' first
      | (with_reducible exact ih0 _ _ _ _ _ _ _ _)
      | (with_reducible exact ih1 _ _ _ _ _ _)
      | (with_reducible exact awardingbodyref12_Need.mono _ _ _ _ _ _ _)
      | (with_reducible exact LeO.refl _)
      | (with_reducible exact LeO.none _)
      | (with_reducible refine LeO.ite ?_ ?_)
      | (with_reducible refine LeO.bind ?_ (fun _ => ?_))
      | exact ih0 _ _ _ _ _ _ _ _
      | exact ih1 _ _ _ _ _ _
      | exact awardingbodyref12_Need.mono _ _ _ _ _ _ _
      | exact LeO.none _
      | refine LeO.ite ?_ ?_
      | refine LeO.bind ?_ (fun _ => ?_)
    · intro y0 y1 y2 y3 y4 y5
      unfold awardingbodylaw12_shaped.l1
      repeat' first
      | (with_reducible exact ih0 _ _ _ _ _ _ _ _)
      | (with_reducible exact ih1 _ _ _ _ _ _)
      | (with_reducible exact awardingbodyref12_Need.mono _ _ _ _ _ _ _)
      | (with_reducible exact LeO.refl _)
      | (with_reducible exact LeO.none _)
      | (with_reducible refine LeO.ite ?_ ?_)
      | (with_reducible refine LeO.bind ?_ (fun _ => ?_))
      | exact ih0 _ _ _ _ _ _ _ _
      | exact ih1 _ _ _ _ _ _
      | exact awardingbodyref12_Need.mono _ _ _ _ _ _ _
      | exact LeO.none _
      | refine LeO.ite ?_ ?_
      | refine LeO.bind ?_ (fun _ => ?_)
theorem awardingbodylaw12_shaped.mono : ∀ a0 a1 a2 a3 a4 k, LeO (awardingbodylaw12_shaped.f k a0 a1 a2 a3 a4) (awardingbodylaw12_shaped.f (k + 1) a0 a1 a2 a3 a4) := by
  intro a0 a1 a2 a3 a4 k
  obtain ⟨ih0, ih1⟩ := awardingbodylaw12_shaped.mono_l k
  unfold awardingbodylaw12_shaped.f
  repeat' first
      | (with_reducible exact ih0 _ _ _ _ _ _ _ _)
      | (with_reducible exact ih1 _ _ _ _ _ _)
      | (with_reducible exact awardingbodyref12_Need.mono _ _ _ _ _ _ _)
      | (with_reducible exact LeO.refl _)
      | (with_reducible exact LeO.none _)
      | (with_reducible refine LeO.ite ?_ ?_)
      | (with_reducible refine LeO.bind ?_ (fun _ => ?_))
      | exact ih0 _ _ _ _ _ _ _ _
      | exact ih1 _ _ _ _ _ _
      | exact awardingbodyref12_Need.mono _ _ _ _ _ _ _
      | exact LeO.none _
      | refine LeO.ite ?_ ?_
      | refine LeO.bind ?_ (fun _ => ?_)
def awardingbodylaw12_shaped.T12 : Bool × List (List Nat × List Nat) := (true, [([], []), ([0], [0]), ([], []), ([], []), ([3], [3]), ([], []), ([4, 5], [4, 5]), ([6], [6]), ([], []), ([8], [8]), ([7, 9], [7, 9]), ([1, 2, 0, 1, 2, 3, 4, 5, 6, 7, 8, 9, 10], [1, 2]), ([11, 10, 10, 0, 1, 2, 3, 4, 5, 6, 7, 8, 9, 10], [10, 11])])
def awardingbodylaw12_shaped.B12 : List Nat := [0, 1, 0, 0, 8, 0, 56, 120, 0, 256, 1016, 2047, 4095]
theorem awardingbodylaw12_shaped.tab12 : rtab .any (opsOf Try.f22 12) = awardingbodylaw12_shaped.T12 := by kernel_rfl
theorem awardingbodylaw12_shaped.bits12 : waitsOk awardingbodylaw12_shaped.T12.2 awardingbodylaw12_shaped.B12 = true := by kernel_rfl
def awardingbodylaw12_shaped.T21 : Bool × List (List Nat × List Nat) := (true, [([], []), ([0], [0]), ([], []), ([], []), ([3], [3]), ([], []), ([4, 5], [4, 5]), ([6], [6]), ([], []), ([], []), ([9], [9]), ([10], [10]), ([8, 11], [8, 11]), ([12], [12]), ([7, 13, 12], [7, 13]), ([1, 2, 0, 1, 2, 3, 4, 5, 6, 7, 8, 9, 10, 11, 12, 13, 14], [1, 2]), ([15, 14, 14, 0, 1, 2, 3, 4, 5, 6, 7, 8, 9, 10, 11, 12, 13, 14], [14, 15])])
def awardingbodylaw12_shaped.B21 : List Nat := [0, 1, 0, 0, 8, 0, 56, 120, 0, 0, 512, 1536, 3840, 7936, 16376, 32767, 65535]
theorem awardingbodylaw12_shaped.tab21 : rtab .any (opsOf Try.f22 21) = awardingbodylaw12_shaped.T21 := by kernel_rfl
theorem awardingbodylaw12_shaped.bits21 : waitsOk awardingbodylaw12_shaped.T21.2 awardingbodylaw12_shaped.B21 = true := by kernel_rfl
set_option maxHeartbeats 8000000 in
set_option maxRecDepth 100000 in
theorem awardingbodylaw12_shaped.calls (k : Nat) (g : Nat) (s0_0 : List Int) (s0_1 : Int) (a1_0 : Int) (a1_1 : Int) (A1_2 : Option Addr) (c1_2 : Nat) (l1_2 : List (S23)) (r1 : List (List Int)) (r2 : Int) (w0 w : World) (hI : IsS61 w0 w g s0_0 s0_1) (hB : Below w0.heap.size w0 w) (hr1_2 : ∀ W_, KeepBut w W_ g none → Kd.C k23 W_ A1_2 l1_2.length l1_2) (hc1_2 : l1_2.length ≤ c1_2) (h : awardingbodylaw12_shaped.f k s0_0 s0_1 a1_0 a1_1 l1_2 = some (r1, r2)) :
    Calls Try.prog 22 #[.pointer (some ⟨g, 0, none⟩), .agg #[.int .i64 a1_0, .int .i64 a1_1, .slice A1_2 l1_2.length c1_2]] w fun e w' => ∃ v0_ : Value, e = .returned (.agg #[v0_]) ∧ Kd.S (Kd.slice 3 (Kd.int .i64)) 28 w' w.heap.size (fun _ => True) v0_ r1 ∧ IsS61 w0 w' g s0_0 r2 ∧ Below w0.heap.size w0 w' ∧ KeepBut w w' g none := by
 have hu33 := Try.underlying33
 have hu38 := Try.underlying38
 have hu23 := Try.underlying23
 have HR1_2 := za hr1_2
 have HC1_2 := za hc1_2
 clear hr1_2 hc1_2
 have HI0 := za hI
 have HK := za (KeepBut.refl w g none)
 have HL := za hB.size
 clear hI
 have HW0 := za hB.size
 have HB := za hB
 clear hB
 have H : (if ([] : List (List Int)).length + 2 < 5864062014805 then (awardingbodylaw12_shaped.l0 k 30 0 s0_0 s0_1 a1_0 a1_1 l1_2 (([] : List (List Int)) ++ List.replicate 2 [])) else (none)) = some (r1, r2) := h
 clear h
 by_cases c3 : ([] : List (List Int)).length + 2 < 5864062014805
 ·rw [if_pos c3] at H
  have LMc3 := za c3
  clear c3
  obtain ⟨y421, hy421⟩ : ∃ y_ : List (List Int), y_ = (([] : List (List Int)) ++ List.replicate 2 []) := ⟨_, rfl⟩
  replace H : (awardingbodylaw12_shaped.l0 k 30 0 s0_0 s0_1 a1_0 a1_1 l1_2 y421) = some (r1, r2) := by first | (rw [hy421]; with_reducible exact H) | (have H2_ := (Option.bind_some _ _).symm.trans H; rw [hy421]; with_reducible exact H2_) | (have H2_ := (Option.bind_some _ _).symm.trans H; with_reducible exact H2_) | with_reducible exact H | (rw [hy421]; exact H) | exact H
  have Ny421 := za hy421
  clear hy421
  have H' := za H
  clear H
  go_enter Try.func22, Try.ntmps22
  go_wp2_with (first | ((with_reducible refine gate_dst (N := 3) rfl ?_); refine zE 3 #[.int .i64 a1_0, .int .i64 a1_1, .slice A1_2 l1_2.length c1_2] 33 ?_; intro gb418 hg w4 hbox hb; have BK418 := za (hbox); have GW418 := za ((by rw [hg]; exact (keep_size (w := w) (g := g) (row := none) (by repeat (first | (with_reducible first | exact HK.out | apply KeepBut.set_ | apply keep_drewN | apply keep_drew | apply keep_alloc) | exact HK.out))) : w.heap.size ≤ gb418)); have GE418 := za ((Nat.le_trans HW0.out (by rw [hg]; exact (keep_size (w := w) (g := g) (row := none) (by repeat (first | (with_reducible first | exact HK.out | apply KeepBut.set_ | apply keep_drewN | apply keep_drew | apply keep_alloc) | exact HK.out))) : w.heap.size ≤ gb418) : w0.heap.size ≤ gb418)); have NB0_418 := za ((by rw [hg]; exact Nat.ne_of_lt (IsS61.lt (show IsS61 w0 _ g s0_0 s0_1 from by repeat (first | (with_reducible first | exact HI0.out | apply IsS61.alloc | apply IsS61.drewN | apply IsS61.drew | apply IsS61.set_1) | exact HI0.out))) : g ≠ gb418)); have NB418_0 := za ((by rw [hg]; exact Nat.ne_of_gt (IsS61.lt (show IsS61 w0 _ g s0_0 s0_1 from by repeat (first | (with_reducible first | exact HI0.out | apply IsS61.alloc | apply IsS61.drewN | apply IsS61.drew | apply IsS61.set_1) | exact HI0.out))) : gb418 ≠ g)); replace HI0 := za (IsS61.below (by repeat (first | (with_reducible first | exact HI0.out | apply IsS61.alloc | apply IsS61.drewN | apply IsS61.drew | apply IsS61.set_1) | exact HI0.out)) hb); replace HK := zu HK hb; replace HB := zs HB hb; clear hb hbox hg) | ((with_reducible refine gate_dst (N := 4) rfl ?_); refine zE 4 #[.slice none 0 0] 38 ?_; intro gb419 hg w5 hbox hb; have BK419 := za (hbox); have GW419 := za ((by rw [hg]; exact (keep_size (w := w) (g := g) (row := none) (by repeat (first | (with_reducible first | exact HK.out | apply KeepBut.set_ | apply keep_drewN | apply keep_drew | apply keep_alloc | refine keep_far ?_ GW418.out _) | exact HK.out))) : w.heap.size ≤ gb419)); have GE419 := za ((Nat.le_trans HW0.out (by rw [hg]; exact (keep_size (w := w) (g := g) (row := none) (by repeat (first | (with_reducible first | exact HK.out | apply KeepBut.set_ | apply keep_drewN | apply keep_drew | apply keep_alloc | refine keep_far ?_ GW418.out _) | exact HK.out))) : w.heap.size ≤ gb419) : w0.heap.size ≤ gb419)); have NB418_419 := zl BK418 hg; have NB419_418 := zr BK418 hg; have NB0_419 := za ((by rw [hg]; exact Nat.ne_of_lt (IsS61.lt (show IsS61 w0 _ g s0_0 s0_1 from by repeat (first | (with_reducible first | exact HI0.out | apply IsS61.alloc | apply IsS61.drewN | apply IsS61.drew | apply IsS61.set_1 | refine IsS61.far ?_ NB0_418.out _) | exact HI0.out))) : g ≠ gb419)); have NB419_0 := za ((by rw [hg]; exact Nat.ne_of_gt (IsS61.lt (show IsS61 w0 _ g s0_0 s0_1 from by repeat (first | (with_reducible first | exact HI0.out | apply IsS61.alloc | apply IsS61.drewN | apply IsS61.drew | apply IsS61.set_1 | refine IsS61.far ?_ NB0_418.out _) | exact HI0.out))) : gb419 ≠ g)); replace HI0 := za (IsS61.below (by repeat (first | (with_reducible first | exact HI0.out | apply IsS61.alloc | apply IsS61.drewN | apply IsS61.drew | apply IsS61.set_1 | refine IsS61.far ?_ NB0_418.out _) | exact HI0.out)) hb); replace BK418 := zb BK418 hb; replace HK := zu HK hb; replace HB := zs HB hb; clear hb hbox hg) | ((with_reducible refine gate_dst (N := 5) rfl ?_); refine zE 5 #[.slice none 0 0] 38 ?_; intro gb420 hg w6 hbox hb; have BK420 := za (hbox); have GW420 := za ((by rw [hg]; exact (keep_size (w := w) (g := g) (row := none) (by repeat (first | (with_reducible first | exact HK.out | apply KeepBut.set_ | apply keep_drewN | apply keep_drew | apply keep_alloc | refine keep_far ?_ GW418.out _ | refine keep_far ?_ GW419.out _) | exact HK.out))) : w.heap.size ≤ gb420)); have GE420 := za ((Nat.le_trans HW0.out (by rw [hg]; exact (keep_size (w := w) (g := g) (row := none) (by repeat (first | (with_reducible first | exact HK.out | apply KeepBut.set_ | apply keep_drewN | apply keep_drew | apply keep_alloc | refine keep_far ?_ GW418.out _ | refine keep_far ?_ GW419.out _) | exact HK.out))) : w.heap.size ≤ gb420) : w0.heap.size ≤ gb420)); have NB418_420 := zl BK418 hg; have NB420_418 := zr BK418 hg; have NB419_420 := zl BK419 hg; have NB420_419 := zr BK419 hg; have NB0_420 := za ((by rw [hg]; exact Nat.ne_of_lt (IsS61.lt (show IsS61 w0 _ g s0_0 s0_1 from by repeat (first | (with_reducible first | exact HI0.out | apply IsS61.alloc | apply IsS61.drewN | apply IsS61.drew | apply IsS61.set_1 | refine IsS61.far ?_ NB0_418.out _ | refine IsS61.far ?_ NB0_419.out _) | exact HI0.out))) : g ≠ gb420)); have NB420_0 := za ((by rw [hg]; exact Nat.ne_of_gt (IsS61.lt (show IsS61 w0 _ g s0_0 s0_1 from by repeat (first | (with_reducible first | exact HI0.out | apply IsS61.alloc | apply IsS61.drewN | apply IsS61.drew | apply IsS61.set_1 | refine IsS61.far ?_ NB0_418.out _ | refine IsS61.far ?_ NB0_419.out _) | exact HI0.out))) : gb420 ≠ g)); replace HI0 := za (IsS61.below (by repeat (first | (with_reducible first | exact HI0.out | apply IsS61.alloc | apply IsS61.drewN | apply IsS61.drew | apply IsS61.set_1 | refine IsS61.far ?_ NB0_418.out _ | refine IsS61.far ?_ NB0_419.out _) | exact HI0.out)) hb); replace BK418 := zb BK418 hb; replace BK419 := zb BK419 hb; replace HK := zu HK hb; replace HB := zs HB hb; clear hb hbox hg; have hnb7 := NB420_418.out; have hnc7 := NB418_420.out; have hnb8 := NB420_419.out; have hnc8 := NB419_420.out; have hnb9 := NB420_0.out; have hnc9 := NB0_420.out; obtain ⟨hcz10_0, hfz10_0⟩ := z1 BK420) | ((with_reducible refine gate_builtin (b := .append) (xs := #[.tmp 12, .tmp 13]) rfl ?_); at_builtin; refine Kd.S_append_nils (Kd.slice 3 (Kd.int .i64)) w.heap.size rfl (.tmp 12) (.tmp 13) 36 28 (.slice none 0 0) 24 rfl Try.underlying36 info28 rfl (by decide) (by omega) (.slice none 0 0) ([] : List (List Int)) 2 [.slice none 0 0, .slice none 0 0] [] (fun _ => True) rfl rfl rfl ?aP ?aF ?aO (Below.refl _ _) ?aS ?aL ?_; (case aP => exact (Kd.M_row (Kd.R_nil _ _ _ _ _))); (case aF => exact (fun _ _ => trivial)); (case aO => exact ((Kd.S_nil _ _ _ _ _))); (case aS => exact (keep_size (w := w) (g := g) (row := none) (by repeat (first | (with_reducible first | exact HK.out | apply KeepBut.set_ | apply keep_drewN | apply keep_drew | apply keep_alloc | refine keep_far ?_ GW418.out _ | refine keep_far ?_ GW419.out _ | refine keep_far ?_ GW420.out _) | exact HK.out)))); (case aL => have := LMc3.out; omega); intro v422 w11 ho hb hg hat; rw [← Ny421.out] at ho; have HO423 := za (ho); replace HI0 := za (IsS61.grown (show IsS61 w0 _ g s0_0 s0_1 from by repeat (first | (with_reducible first | exact HI0.out | apply IsS61.alloc | apply IsS61.drewN | apply IsS61.drew | apply IsS61.set_1 | refine IsS61.far ?_ NB0_418.out _ | refine IsS61.far ?_ NB0_419.out _ | refine IsS61.far ?_ NB0_420.out _) | exact HI0.out)) hg (by simp [Value.ownBlock])); replace BK418 := (zw BK418 hg (by simp [Value.ownBlock])); replace BK419 := (zw BK419 hg (by simp [Value.ownBlock])); replace BK420 := (zw BK420 hg (by simp [Value.ownBlock])); replace HB := za (below_weaken (zm HB) HL.out hb); replace HK := za (KeepBut.trans (by repeat (first | (with_reducible first | exact HK.out | apply KeepBut.set_ | apply keep_drewN | apply keep_drew | apply keep_alloc | refine keep_far ?_ GW418.out _ | refine keep_far ?_ GW419.out _ | refine keep_far ?_ GW420.out _) | exact HK.out)) (KeepBut.of_grown hg g) (.inl (by simp [Value.ownBlock]))); clear ho hb hg hat; obtain ⟨Ao12, co12, eo12⟩ := Kd.S_slice HO423.out; subst eo12; obtain ⟨hcz13_0, hfz13_0⟩ := z1 BK420))
  go_loopg [6, 7] k (fun kq v6 v7 w' => ∃ (x6_1 : Int) (x7_1 : Int) (x1001_1 : Int) (x421000_1 : List (List Int)) (u421000 : Value), v6 = .int .i64 x6_1 ∧ v7 = .int .i64 x7_1 ∧ Aside0 (awardingbodylaw12_shaped.l0 kq x6_1 x7_1 s0_0 x1001_1 a1_0 a1_1 l1_2 x421000_1 = some (r1, r2)) ∧ Aside0 (kq ≤ k) ∧ Aside0 (Kd.S (Kd.slice 3 (Kd.int .i64)) 28 w' w.heap.size (fun _ => True) u421000 x421000_1) ∧ Aside0 (w'.heap[gb418]? = some (.cells #[.int .i64 a1_0, .int .i64 a1_1, (.slice A1_2 l1_2.length c1_2)] 33 (0, 0))) ∧ Aside0 (w'.heap[gb419]? = some (.cells #[(.slice none 0 0)] 38 (0, 0))) ∧ Aside0 (w'.heap[gb420]? = some (.cells #[u421000] 38 (0, 0))) ∧ Aside0 (IsS61 w0 w' g s0_0 x1001_1) ∧ Aside0 (KeepBut w w' g none) ∧ Aside0 (Below w0.heap.size w0 w'))
  case atStart => exact ⟨(30), (0), (s0_1), (y421), (.slice Ao12 y421.length co12), (by first | rfl | (simp; done) | (simp [*]; done)), (by first | rfl | (simp; done) | (simp [*]; done)), H', ⟨Nat.le_refl _⟩, ⟨by (with_reducible repeat (first | apply Kd.S_alloc | apply Kd.S_drewN | apply Kd.S_drew)); exact Kd.S_mono (Kd.S_far (p := ⟨gb420, 0, none⟩) (Kd.S_types HO423.out BK420.out (by decide)) (fun _ hk => hk.2) (.slice Ao12 y421.length co12)) (fun _ hk => trivial)⟩, ⟨by (with_reducible repeat (first | refine blk_drewN ?_ _ | refine blk_drew ?_ | refine blk_alloc ?_ _)); refine blk_far ?_ NB418_420.out _; (with_reducible repeat (first | refine blk_drewN ?_ _ | refine blk_drew ?_ | refine blk_alloc ?_ _)); exact BK418.out⟩, ⟨by (with_reducible repeat (first | refine blk_drewN ?_ _ | refine blk_drew ?_ | refine blk_alloc ?_ _)); refine blk_far ?_ NB419_420.out _; (with_reducible repeat (first | refine blk_drewN ?_ _ | refine blk_drew ?_ | refine blk_alloc ?_ _)); exact BK419.out⟩, ⟨by (with_reducible repeat (first | refine blk_drewN ?_ _ | refine blk_drew ?_ | refine blk_alloc ?_ _)); refine blk_put (cs := #[.slice none 0 0]) ?_ 0 _ rfl; (with_reducible repeat (first | refine blk_drewN ?_ _ | refine blk_drew ?_ | refine blk_alloc ?_ _)); exact BK420.out⟩, ⟨by repeat (first | (with_reducible first | exact HI0.out | apply IsS61.alloc | apply IsS61.drewN | apply IsS61.drew | apply IsS61.set_1 | refine IsS61.far ?_ NB0_418.out _ | refine IsS61.far ?_ NB0_419.out _ | refine IsS61.far ?_ NB0_420.out _) | exact HI0.out)⟩, ⟨by repeat (first | (with_reducible first | exact HK.out | apply KeepBut.set_ | apply keep_drewN | apply keep_drew | apply keep_alloc | refine keep_far ?_ GW418.out _ | refine keep_far ?_ GW419.out _ | refine keep_far ?_ GW420.out _) | exact HK.out)⟩, ⟨zm HB⟩⟩
  case round =>
   clear H'
   try clear c1
   try clear c2
   try clear p2
   try clear c3
   try clear c7
   try clear c8
   try clear c9
   try clear hcz10_0
   try clear hcz13_0
   try clear hfz10_0
   try clear hfz13_0
   obtain ⟨x6_1, x7_1, x1001_1, x421000_1, u421000, rfl, rfl, HA, HK1, HO_421000, BK418, BK419, BK420, HI0, HK, HB⟩ := hrel
   cases gk with
   | zero => exact absurd HA.out (by simp [awardingbodylaw12_shaped.l0])
   | succ k1 =>
    have H := HA.out
    clear HA
    simp only [awardingbodylaw12_shaped.l0] at H
    by_cases c14 : x7_1 < (l1_2.length : Int)
    ·rw [if_pos c14] at H
     have c14b0 : decide (x7_1 < (l1_2.length : Int)) = true := decide_eq_true c14
     clear c14
     by_cases c15 : 0 ≤ x7_1
     ·rw [if_pos c15] at H
      have c15b0 : decide (0 ≤ x7_1) = true := decide_eq_true c15
      clear c15
      replace H := Option.bind_eq_some_iff.mp H
      obtain ⟨t425, A160, H⟩ := H
      replace H : (if t425 > x6_1 then (if x421000_1.length < 5864062014805 then ((some (x421000_1 ++ [[]] : List (List Int))).bind fun y426 => (if 0 ≤ (wrap64 ((y426.length : Int) - 1)) then (if (wrap64 ((y426.length : Int) - 1)) < (y426.length : Int) then (if (rd_L2 y426 (wrap64 ((y426.length : Int) - 1))).length < 17592186044416 then (awardingbodylaw12_shaped.l0 k1 (wrap64 (30 - t425)) (wrap64 (x7_1 + 1)) s0_0 x1001_1 a1_0 a1_1 l1_2 (y426.set ((wrap64 ((y426.length : Int) - 1)) : Int).toNat ((rd_L2 y426 (wrap64 ((y426.length : Int) - 1))) ++ [x7_1]))) else (none)) else (none)) else (none))) else (none)) else ((awardingbodymake_Tape_One.f s0_0 x1001_1 4).bind fun bt434 => (if bt434.1 = true then (if x421000_1.length < 5864062014805 then ((some (x421000_1 ++ [[]] : List (List Int))).bind fun y436 => (if 0 ≤ (wrap64 ((y436.length : Int) - 1)) then (if (wrap64 ((y436.length : Int) - 1)) < (y436.length : Int) then (if (rd_L2 y436 (wrap64 ((y436.length : Int) - 1))).length < 17592186044416 then (awardingbodylaw12_shaped.l0 k1 (wrap64 (30 - t425)) (wrap64 (x7_1 + 1)) s0_0 bt434.2 a1_0 a1_1 l1_2 (y436.set ((wrap64 ((y436.length : Int) - 1)) : Int).toNat ((rd_L2 y436 (wrap64 ((y436.length : Int) - 1))) ++ [x7_1]))) else (none)) else (none)) else (none))) else (none)) else (if 0 ≤ (wrap64 ((x421000_1.length : Int) - 1)) then (if (wrap64 ((x421000_1.length : Int) - 1)) < (x421000_1.length : Int) then (if (rd_L2 x421000_1 (wrap64 ((x421000_1.length : Int) - 1))).length < 17592186044416 then (awardingbodylaw12_shaped.l0 k1 (wrap64 (x6_1 - t425)) (wrap64 (x7_1 + 1)) s0_0 bt434.2 a1_0 a1_1 l1_2 (x421000_1.set ((wrap64 ((x421000_1.length : Int) - 1)) : Int).toNat ((rd_L2 x421000_1 (wrap64 ((x421000_1.length : Int) - 1))) ++ [x7_1]))) else (none)) else (none)) else (none))))) = some (r1, r2) := H
      have A16 := za A160
      clear A160
      by_cases c17 : t425 > x6_1
      ·rw [if_pos c17] at H
       have c17b0 : decide (x6_1 < t425) = true := decide_eq_true c17
       clear c17
       by_cases c18 : x421000_1.length < 5864062014805
       ·rw [if_pos c18] at H
        have LMc18 := za c18
        clear c18
        obtain ⟨y426, hy426⟩ : ∃ y_ : List (List Int), y_ = (x421000_1 ++ [[]]) := ⟨_, rfl⟩
        replace H : (if 0 ≤ (wrap64 ((y426.length : Int) - 1)) then (if (wrap64 ((y426.length : Int) - 1)) < (y426.length : Int) then (if (rd_L2 y426 (wrap64 ((y426.length : Int) - 1))).length < 17592186044416 then (awardingbodylaw12_shaped.l0 k1 (wrap64 (30 - t425)) (wrap64 (x7_1 + 1)) s0_0 x1001_1 a1_0 a1_1 l1_2 (y426.set ((wrap64 ((y426.length : Int) - 1)) : Int).toNat ((rd_L2 y426 (wrap64 ((y426.length : Int) - 1))) ++ [x7_1]))) else (none)) else (none)) else (none)) = some (r1, r2) := by first | (rw [hy426]; with_reducible exact H) | (have H2_ := (Option.bind_some _ _).symm.trans H; rw [hy426]; with_reducible exact H2_) | (have H2_ := (Option.bind_some _ _).symm.trans H; with_reducible exact H2_) | with_reducible exact H | (rw [hy426]; exact H) | exact H
        have Ny426 := za hy426
        clear hy426
        obtain ⟨ji19, hji19⟩ : ∃ j_ : Int, (wrap64 ((y426.length : Int) - 1)) = j_ := ⟨_, rfl⟩
        replace H : (if 0 ≤ (ji19) then (if (ji19) < (y426.length : Int) then (if (rd_L2 y426 (ji19)).length < 17592186044416 then (awardingbodylaw12_shaped.l0 k1 (wrap64 (30 - t425)) (wrap64 (x7_1 + 1)) s0_0 x1001_1 a1_0 a1_1 l1_2 (y426.set ((ji19) : Int).toNat ((rd_L2 y426 (ji19)) ++ [x7_1]))) else (none)) else (none)) else (none)) = some (r1, r2) := by first | (rw [hji19] at H; exact H) | (simp only [hji19] at H ⊢; exact H)
        (try rw [hji19] at A16)
        have hji19w : (IntKind.i64.wrap ((y426.length : Int) - 1)) = ji19 := (i64_w _).trans hji19
        by_cases c20 : 0 ≤ (ji19)
        ·rw [if_pos c20] at H
         have c20b0 : decide (0 ≤ (ji19)) = true := decide_eq_true c20
         clear c20
         by_cases c21 : (ji19) < (y426.length : Int)
         ·rw [if_pos c21] at H
          have c21b0 : decide ((ji19) < (y426.length : Int)) = true := decide_eq_true c21
          clear c21
          by_cases c22 : (rd_L2 y426 (ji19)).length < 17592186044416
          ·rw [if_pos c22] at H
           have LMc22 := za c22
           clear c22
           obtain ⟨y430, hy430⟩ : ∃ y_ : List Int, y_ = ((rd_L2 y426 (ji19)) ++ [x7_1]) := ⟨_, rfl⟩
           replace H : (awardingbodylaw12_shaped.l0 k1 (wrap64 (30 - t425)) (wrap64 (x7_1 + 1)) s0_0 x1001_1 a1_0 a1_1 l1_2 (y426.set ((ji19) : Int).toNat y430)) = some (r1, r2) := by first | (rw [hy430]; with_reducible exact H) | (have H2_ := (Option.bind_some _ _).symm.trans H; rw [hy430]; with_reducible exact H2_) | (have H2_ := (Option.bind_some _ _).symm.trans H; with_reducible exact H2_) | with_reducible exact H | (rw [hy430]; exact H) | exact H
           have Ny430 := za hy430
           clear hy430
           obtain ⟨y433, hy433⟩ : ∃ y_ : List (List Int), y_ = (y426.set ((ji19) : Int).toNat y430) := ⟨_, rfl⟩
           replace H : (awardingbodylaw12_shaped.l0 k1 (wrap64 (30 - t425)) (wrap64 (x7_1 + 1)) s0_0 x1001_1 a1_0 a1_1 l1_2 y433) = some (r1, r2) := by first | (rw [hy433]; with_reducible exact H) | (have H2_ := (Option.bind_some _ _).symm.trans H; rw [hy433]; with_reducible exact H2_) | (have H2_ := (Option.bind_some _ _).symm.trans H; with_reducible exact H2_) | with_reducible exact H | (rw [hy433]; exact H) | exact H
           have Ny433 := za hy433
           clear hy433
           have H' := za H
           clear H
           have hnb24 := NB418_419.out
           have hnc24 := NB419_418.out
           have hnb25 := NB418_420.out
           have hnc25 := NB420_418.out
           have hnb26 := NB418_0.out
           have hnc26 := NB0_418.out
           obtain ⟨hcz27_0, hcz27_1, hcz27_2, hfz27_0, hfz27_1, hfz27_2⟩ := z3 BK418
           have p424 : 0 ≤ (x7_1 : Int) := of_decide_eq_true (by first | (with_reducible assumption) | assumption)
           have q424 : x7_1 < (l1_2.length : Int) := of_decide_eq_true (by first | (with_reducible assumption) | assumption)
           obtain ⟨ad424, e424, hx424_0, hx424_1, hx424_2, hx424_3, hx424_4, hx424_5⟩ := at_T23 (Kd.C_foot_now HR1_2.out HK.out) x7_1 p424 q424
           cases e424
           replace p424 := eq_true p424
           replace q424 := eq_true q424
           try go_wp2_with (first | ((with_reducible refine gate_callee (f := 13) rfl ?_); refine zL (some 28) Try.func13 #[.agg #[.int .i64 ((rd_T23 l1_2 x7_1).f0), .int .i64 ((rd_T23 l1_2 x7_1).f1), .int .i64 ((rd_T23 l1_2 x7_1).f2), .int .i64 ((rd_T23 l1_2 x7_1).f3), .int .i64 ((rd_T23 l1_2 x7_1).f4), .int .i64 ((rd_T23 l1_2 x7_1).f5)]] ?_; (with_reducible refine (awardingbodyref12_Need.calls k1 ((rd_T23 l1_2 x7_1).f0) ((rd_T23 l1_2 x7_1).f1) ((rd_T23 l1_2 x7_1).f2) ((rd_T23 l1_2 x7_1).f3) ((rd_T23 l1_2 x7_1).f4) ((rd_T23 l1_2 x7_1).f5) t425 _ A16.out).mono ?_); rintro e w28 ⟨rfl, hb⟩; refine ⟨_, rfl, ?_⟩; replace HO_421000 := zS HO_421000 hb; replace BK418 := zb BK418 hb; replace BK419 := zb BK419 hb; replace BK420 := zb BK420 hb; replace HI0 := za (IsS61.below (by repeat (first | (with_reducible first | exact HI0.out | apply IsS61.alloc | apply IsS61.drewN | apply IsS61.drew | apply IsS61.set_1 | refine IsS61.far ?_ NB0_418.out _ | refine IsS61.far ?_ NB0_419.out _ | refine IsS61.far ?_ NB0_420.out _) | exact HI0.out)) hb); replace HK := zu HK hb; replace HB := zs HB hb; (try clear hb); (try clear hb2); (try clear hk); (try clear hi); have hnb29 := NB420_419.out; have hnc29 := NB419_420.out; have hnb30 := NB420_0.out; have hnc30 := NB0_420.out; obtain ⟨hcz31_0, hfz31_0⟩ := z1 BK420) | ((with_reducible refine gate_builtin (b := .append) (xs := #[.tmp 37, .tmp 38]) rfl ?_); at_builtin; refine Kd.S_append (Kd.slice 3 (Kd.int .i64)) w.heap.size rfl (.tmp 37) (.tmp 38) 36 28 (.slice none 0 0) 24 rfl Try.underlying36 info28 rfl (by decide) (by omega) u421000 x421000_1 ([] : List Int) [.slice none 0 0] (fun _ => True) (fun _ => False) rfl rfl ?aP (fun k_ hk_ => hk_.elim) ?aF ?aO (Below.refl _ _) ?aS ?aL ?_; (case aP => exact Kd.M_row (Kd.R_nil _ _ _ _ _)); (case aF => exact (fun _ _ => trivial)); (case aO => exact (by (with_reducible repeat (first | apply Kd.S_alloc | apply Kd.S_drewN | apply Kd.S_drew)); exact Kd.S_mono HO_421000.out (fun k_ hk => ⟨trivial, fun e_ => e_⟩))); (case aS => exact (keep_size (w := w) (g := g) (row := none) (by repeat (first | (with_reducible first | exact HK.out | apply KeepBut.set_ | apply keep_drewN | apply keep_drew | apply keep_alloc | refine keep_far ?_ GW418.out _ | refine keep_far ?_ GW419.out _ | refine keep_far ?_ GW420.out _) | exact HK.out)))); (case aL => have := LMc18.out; omega); intro v427 w32 ho hb hg hat; rw [← Ny426.out] at ho; have HO428 := za (ho); replace BK418 := (zw BK418 hg (Kd.S_ne HO_421000.out BK418.out (by decide))); replace BK419 := (zw BK419 hg (Kd.S_ne HO_421000.out BK419.out (by decide))); replace BK420 := (zw BK420 hg (Kd.S_ne HO_421000.out BK420.out (by decide))); replace HI0 := za (IsS61.grown (by repeat (first | (with_reducible first | exact HI0.out | apply IsS61.alloc | apply IsS61.drewN | apply IsS61.drew | apply IsS61.set_1 | refine IsS61.far ?_ NB0_418.out _ | refine IsS61.far ?_ NB0_419.out _ | refine IsS61.far ?_ NB0_420.out _) | exact HI0.out)) hg (IsS61.own_neS HI0.out HO_421000.out (by decide))); replace HB := za (below_weaken (zm HB) HL.out hb); replace HK := za (KeepBut.trans (by repeat (first | (with_reducible first | exact HK.out | apply KeepBut.set_ | apply keep_drewN | apply keep_drew | apply keep_alloc | refine keep_far ?_ GW418.out _ | refine keep_far ?_ GW419.out _ | refine keep_far ?_ GW420.out _) | exact HK.out)) (KeepBut.of_grown hg g) (Kd.S_base2 HO_421000.out)); clear HO_421000 ho hb hg hat; obtain ⟨Ao33, co33, eo33⟩ := Kd.S_slice HO428.out; subst eo33; obtain ⟨hcz34_0, hfz34_0⟩ := z1 BK420))
           have n0_ : Aside0 (Kd.S (Kd.slice 3 (Kd.int .i64)) 28 (w32.setCell ⟨gb420, 0, none⟩ (.slice Ao33 y426.length co33)) w.heap.size (fun _ => True) (.slice Ao33 y426.length co33) y426) := ⟨by (with_reducible repeat (first | apply Kd.S_alloc | apply Kd.S_drewN | apply Kd.S_drew)); exact Kd.S_mono (Kd.S_far (p := ⟨gb420, 0, none⟩) (Kd.S_types HO428.out BK420.out (by decide)) (fun _ hk => hk.2) (.slice Ao33 y426.length co33)) (fun _ hk => trivial)⟩
           have n1_ : Aside0 ((w32.setCell ⟨gb420, 0, none⟩ (.slice Ao33 y426.length co33)).heap[gb418]? = some (.cells #[.int .i64 a1_0, .int .i64 a1_1, .slice (some ad424) l1_2.length c1_2] 33 (0, 0))) := ⟨by (with_reducible repeat (first | refine blk_drewN ?_ _ | refine blk_drew ?_ | refine blk_alloc ?_ _)); refine blk_far ?_ NB418_420.out _; (with_reducible repeat (first | refine blk_drewN ?_ _ | refine blk_drew ?_ | refine blk_alloc ?_ _)); exact BK418.out⟩
           have n2_ : Aside0 ((w32.setCell ⟨gb420, 0, none⟩ (.slice Ao33 y426.length co33)).heap[gb419]? = some (.cells #[.slice none 0 0] 38 (0, 0))) := ⟨by (with_reducible repeat (first | refine blk_drewN ?_ _ | refine blk_drew ?_ | refine blk_alloc ?_ _)); refine blk_far ?_ NB419_420.out _; (with_reducible repeat (first | refine blk_drewN ?_ _ | refine blk_drew ?_ | refine blk_alloc ?_ _)); exact BK419.out⟩
           have n3_ : Aside0 ((w32.setCell ⟨gb420, 0, none⟩ (.slice Ao33 y426.length co33)).heap[gb420]? = some (.cells #[.slice Ao33 y426.length co33] 38 (0, 0))) := ⟨by (with_reducible repeat (first | refine blk_drewN ?_ _ | refine blk_drew ?_ | refine blk_alloc ?_ _)); refine blk_put (cs := #[u421000]) ?_ 0 _ rfl; (with_reducible repeat (first | refine blk_drewN ?_ _ | refine blk_drew ?_ | refine blk_alloc ?_ _)); exact BK420.out⟩
           have n4_ : Aside0 (IsS61 w0 (w32.setCell ⟨gb420, 0, none⟩ (.slice Ao33 y426.length co33)) g s0_0 x1001_1) := ⟨by repeat (first | (with_reducible first | exact HI0.out | apply IsS61.alloc | apply IsS61.drewN | apply IsS61.drew | apply IsS61.set_1 | refine IsS61.far ?_ NB0_418.out _ | refine IsS61.far ?_ NB0_419.out _ | refine IsS61.far ?_ NB0_420.out _) | exact HI0.out)⟩
           have n5_ : Aside0 (KeepBut w (w32.setCell ⟨gb420, 0, none⟩ (.slice Ao33 y426.length co33)) g none) := ⟨by repeat (first | (with_reducible first | exact HK.out | apply KeepBut.set_ | apply keep_drewN | apply keep_drew | apply keep_alloc | refine keep_far ?_ GW418.out _ | refine keep_far ?_ GW419.out _ | refine keep_far ?_ GW420.out _) | exact HK.out)⟩
           have n6_ : Aside0 (Below w0.heap.size w0 (w32.setCell ⟨gb420, 0, none⟩ (.slice Ao33 y426.length co33))) := ⟨zm HB⟩
           (try clear HO428)
           (try clear BK418)
           (try clear BK419)
           (try clear BK420)
           (try clear HI0)
           (try clear HK)
           (try clear HB)
           generalize (w32.setCell ⟨gb420, 0, none⟩ (.slice Ao33 y426.length co33)) = w35 at n0_ n1_ n2_ n3_ n4_ n5_ n6_ ⊢
           have HO428 := n0_
           have BK418 := n1_
           have BK419 := n2_
           have BK420 := n3_
           have HI0 := n4_
           have HK := n5_
           have HB := n6_
           clear n0_ n1_ n2_ n3_ n4_ n5_ n6_
           replace HO428 := za (Kd.S_drew HO428.out)
           replace BK418 := za (blk_drew BK418.out)
           replace BK419 := za (blk_drew BK419.out)
           replace BK420 := za (blk_drew BK420.out)
           replace HI0 := za (IsS61.drew HI0.out)
           replace HK := za (keep_drew HK.out)
           replace HB := za (below_drew1 HB.out)
           have p429 : 0 ≤ ((ji19) : Int) := of_decide_eq_true (by first | (with_reducible assumption) | assumption)
           have q429 : (ji19) < (y426.length : Int) := of_decide_eq_true (by first | (with_reducible assumption) | assumption)
           obtain ⟨ad429, A429_0, c429_0, e429, hx429_0, hl429_0, hi429_0⟩ := at_L2 (Kd.S_reads' HO428.out).2.2 (ji19) p429 q429
           cases e429
           obtain ⟨ce429, hce429, hMe429, hcc429⟩ := Kd.S_get HO428.out [] (ji19) p429 (by first | exact q429 | exact of_decide_eq_true (by first | (with_reducible assumption) | assumption) | (have e_ := (Kd.S_reads' HO428.out).1; omega))
           obtain ⟨ve429_0, rfl, ge429_0⟩ := hMe429
           have hv429_0 := hcc429 0 _ rfl
           rw [Nat.add_zero, show ((Kd.slice 3 (Kd.int .i64))).sz = 1 from rfl, Nat.mul_one] at hv429_0
           replace hv429_0 := Option.some.inj (hv429_0.symm.trans hx429_0)
           rw [hv429_0] at ge429_0
           have HL429_0 := za (show Kd.R (Kd.int .i64) 3 _ _ _ _ (rd_L2 y426 (ji19)) from ge429_0)
           clear hv429_0 ge429_0
           have HX429_0 := za hx429_0
           clear hcc429 hce429
           have HR429_0 := za hi429_0
           have HC429_0 := za hl429_0
           clear hi429_0 hl429_0
           replace p429 := eq_true p429
           replace q429 := eq_true q429
           obtain ⟨go37, co37, eo37, gb37, gl37, cl37, HG37⟩ := Kd.S_form HO428.out (by have h_ : ((ji19) : Int) < ((y426.length : Int) : Int) := of_decide_eq_true (by first | (with_reducible assumption) | assumption); have h2_ : 0 ≤ ((ji19) : Int) := (of_decide_eq_true (by first | (with_reducible assumption) | assumption)); omega)
           (first | cases eo37 | (injection eo37 with ea_ en_ ec_; (first | subst ea_ | (injection ea_ with ea_; subst ea_)); subst ec_; clear en_))
           have GB37 := za gb37
           have GG37 := za HG37
           clear gb37 gl37 HG37
           (first | simp only [add_plain] at hx429_0 | skip)
           obtain ⟨oki37, ce37, hcl37, hM37, hcc37, _, _, hH37⟩ := Kd.S_elem HO428.out [] ((ji19) : Int) (of_decide_eq_true (by first | (with_reducible assumption) | assumption)) (by have h_ : ((ji19) : Int) < ((y426.length : Int) : Int) := of_decide_eq_true (by first | (with_reducible assumption) | assumption); first | exact h_ | (have e_ := (Kd.S_reads' HO428.out).1; omega) | simpa using h_)
           obtain ⟨ve37_0, rfl, ge37_0⟩ := hM37
           have hv37 := hcc37 0 _ rfl
           have hX37 := HX429_0.out
           (try simp only [add_plain] at hX37)
           (try simp only [Nat.add_zero] at hv37)
           (try rw [show ((Kd.slice 3 (Kd.int .i64))).sz = 1 from rfl, Nat.mul_one] at hv37)
           replace hv37 := Option.some.inj (hv37.symm.trans hX37)
           subst hv37
           clear hX37 hcc37 hcl37
           have UU37 := za (show Kd.R (Kd.int .i64) 3 _ w.heap.size oki37 (.slice A429_0 (rd_L2 y426 (ji19)).length c429_0) (rd_L2 y426 (ji19)) from ge37_0)
           have HH37 := za hH37
           have HN37 := za (Kd.S_reads' HO428.out).1
           clear hH37 ge37_0
           refine start_ (n := 13) (S := fun w' => w'.cell? ⟨gb420, 0, none⟩ = some (.slice (some ⟨go37, 0, none⟩) y426.length co33) ∧ w'.cell? ⟨go37, ((ji19)).toNat, none⟩ = some (.slice A429_0 (rd_L2 y426 (ji19)).length c429_0)) (ds := [12]) #[false, false, false, false, false, false, false, false, false, false, false, false, false] (by kernel_rfl) rfl rfl ⟨(blk_cell BK420.out 0).trans rfl, hx429_0⟩ (fun hHeld => ?_); refine with_tabW awardingbodylaw12_shaped.tab12 awardingbodylaw12_shaped.bits12 (fun HT_ HW_ => ?_)
           generalize w35.drew = w36 at HO428 BK418 BK419 BK420 HI0 HK HB GG37 HH37 HL429_0 HR429_0 HX429_0 UU37 hx429_0 hHeld ⊢
           refine pure_ (i := 0) (N := some 45) (v := ?_) (a' := ?_) #[true, false, false, false, false, false, false, false, false, false, false, false, false] rfl rfl (any_of HT_.out (by kernel_rfl)) (fun _ _ _ h => h) (Or.inl ⟨by rfl, ?_⟩) ?_ ?_
           rotate_left
           ·intro w'
            go_simp
            with_reducible rfl
           rotate_left
           ·simp only [Act.put, List.setIfInBounds_toArray, List.set_cons_zero, List.set_cons_succ, i64_w, i32_w]
            rfl
           refine pure_ (i := 2) (N := some 47) (v := ?_) (a' := ?_) #[true, false, true, false, false, false, false, false, false, false, false, false, false] rfl rfl (any_of HT_.out (by kernel_rfl)) (fun _ _ _ h => h) (Or.inl ⟨by rfl, ?_⟩) ?_ ?_
           rotate_left
           ·intro w'
            go_simp
            with_reducible rfl
           rotate_left
           ·simp only [Act.put, List.setIfInBounds_toArray, List.set_cons_zero, List.set_cons_succ, i64_w, i32_w]
            rfl
           refine pure_ (i := 3) (N := some 48) (v := ?_) (a' := ?_) #[true, false, true, true, false, false, false, false, false, false, false, false, false] rfl rfl (any_of HT_.out (by kernel_rfl)) (fun _ _ _ h => h) (Or.inl ⟨by rfl, ?_⟩) ?_ ?_
           rotate_left
           ·intro w'
            go_simp
            with_reducible rfl
           rotate_left
           ·simp only [Act.put, List.setIfInBounds_toArray, List.set_cons_zero, List.set_cons_succ, i64_w, i32_w]
            rfl
           refine pure_ (i := 5) (N := some 50) (v := ?_) (a' := ?_) #[true, false, true, true, false, true, false, false, false, false, false, false, false] rfl rfl (any_of HT_.out (by kernel_rfl)) (fun _ _ _ h => h) (Or.inl ⟨by rfl, ?_⟩) ?_ ?_
           rotate_left
           ·intro w'
            go_simp
            with_reducible rfl
           rotate_left
           ·simp only [Act.put, List.setIfInBounds_toArray, List.set_cons_zero, List.set_cons_succ, i64_w, i32_w]
            rfl
           refine pure_ (i := 8) (N := some 53) (v := ?_) (a' := ?_) #[true, false, true, true, false, true, false, false, true, false, false, false, false] rfl rfl (any_of HT_.out (by kernel_rfl)) (fun _ _ _ h => h) (Or.inl ⟨by rfl, ?_⟩) ?_ ?_
           rotate_left
           ·intro w'
            go_simp
            with_reducible rfl
           rotate_left
           ·simp only [Act.put, List.setIfInBounds_toArray, List.set_cons_zero, List.set_cons_succ, i64_w, i32_w]
            rfl
           refine take_ (i := 1) (N := some 46) (v := ?_) (a' := ?_) #[true, true, true, true, false, true, false, false, true, false, false, false, false] rfl rfl (take_ofW HT_.out HW_.out (by kernel_rfl)) (fun _ _ _ h => h) (Or.inl ⟨by rfl, ?_⟩) hHeld ?_ ?_
           rotate_left
           ·rintro w' ⟨s0, s1⟩
            go_simp
            with_reducible rfl
           rotate_left
           ·simp only [Act.put, List.setIfInBounds_toArray, List.set_cons_zero, List.set_cons_succ, i64_w, i32_w]
            rfl
           refine take_ (i := 4) (N := some 49) (v := ?_) (a' := ?_) #[true, true, true, true, true, true, false, false, true, false, false, false, false] rfl rfl (take_ofW HT_.out HW_.out (by kernel_rfl)) (fun _ _ _ h => h) (Or.inl ⟨by rfl, ?_⟩) hHeld ?_ ?_
           rotate_left
           ·rintro w' ⟨s0, s1⟩
            go_simp
            with_reducible rfl
           rotate_left
           ·simp only [Act.put, List.setIfInBounds_toArray, List.set_cons_zero, List.set_cons_succ, i64_w, i32_w]
            rfl
           refine pure_ (i := 6) (N := some 51) (v := ?_) (a' := ?_) #[true, true, true, true, true, true, true, false, true, false, false, false, false] rfl rfl (any_of HT_.out (by kernel_rfl)) (fun _ _ _ h => h) (Or.inl ⟨by rfl, ?_⟩) ?_ ?_
           rotate_left
           ·intro w'
            go_simp
            with_reducible rfl
           rotate_left
           ·simp only [Act.put, List.setIfInBounds_toArray, List.set_cons_zero, List.set_cons_succ, i64_w, i32_w]
            rfl
           refine take_ (i := 7) (N := some 52) (v := ?_) (a' := ?_) #[true, true, true, true, true, true, true, true, true, false, false, false, false] rfl rfl (take_ofW HT_.out HW_.out (by kernel_rfl)) (fun _ _ _ h => h) (Or.inl ⟨by rfl, ?_⟩) hHeld ?_ ?_
           rotate_left
           ·rintro w' ⟨s0, s1⟩
            go_simp
            with_reducible rfl
           rotate_left
           ·simp only [Act.put, List.setIfInBounds_toArray, List.set_cons_zero, List.set_cons_succ, i64_w, i32_w]
            rfl
           refine one_ (i := 9) (N := some 54) #[true, true, true, true, true, true, true, true, true, true, false, false, false] rfl rfl (one_of HT_.out (by kernel_rfl)) (by decide) (fun K hK => ?_)
           refine value_ (w1 := ?_) (v := ?_) (by rfl) rfl ?_ ?_
           rotate_left 2
           ·go_simp
            constructor
            ·rfl
            ·rfl
           refine hK.out _ _ ⟨(blk_cell (blk_alloc BK420.out _) 0).trans rfl, (World.cell?_alloc_lt _ _ _ (World.block_lt_of_cell? _ _ (hHeld.2))).trans (hHeld.2)⟩ (fun hHeld => ?_)
           clear hK K
           refine norm_ (a' := ?_) ?_ ?_
           rotate_left
           ·show Act.put _ (some 54) _ = _
            simp only [Act.put, List.setIfInBounds_toArray, List.set_cons_zero, List.set_cons_succ, i64_w, i32_w]
            rfl
           refine one_ (i := 10) (N := some 55) #[true, true, true, true, true, true, true, true, true, true, true, false, false] rfl rfl (one_of HT_.out (by kernel_rfl)) (by decide) (fun K hK => ?_)
           refine Kd.R_append_step (Kd.int .i64) w.heap.size (by rfl) (.tmp 52) (.tmp 54) 28 3 (.int .i64 0) 8 rfl Try.underlying28 info3 rfl (by decide) (by omega) (.slice A429_0 (rd_L2 y426 (ji19)).length c429_0) (rd_L2 y426 (ji19)) x7_1 [.int .i64 x7_1] (fun k_ => oki37 k_ ∨ ((fun _ => True)) k_ ∧ w36.heap.size ≤ k_) (fun _ => False) rfl rfl ?aP (fun _ hk => hk.elim) ?aF ?aO (Below.refl _ _) ?aS ?aL ?_
           (case aP => exact rfl)
           (case aF => exact (fun k_ hk => .inr ⟨trivial, hk⟩))
           (case aO => exact (by (with_reducible repeat (first | apply Kd.R_alloc | apply Kd.R_drewN | apply Kd.R_drew)); exact Kd.R_mono UU37.out (fun _ hk => .inl hk)))
           (case aS => exact (keep_size (w := w) (g := g) (row := none) (by repeat (first | (with_reducible first | exact HK.out | apply KeepBut.set_ | apply keep_drewN | apply keep_drew | apply keep_alloc | refine keep_far ?_ GW418.out _ | refine keep_far ?_ GW419.out _ | refine keep_far ?_ GW420.out _) | exact HK.out))))
           (case aL => have := LMc22.out; omega)
           intro v431 w38 ho hb hg hat
           (first | have HS1_ := cell_grown hg (hHeld.2) (by first | (rw [add_block]; exact (fun e_ => ((HL429_0.out.1 _ e_.symm).2) rfl)) | (show some (Addr.add _ _).block ≠ _; rw [add_block]; exact (fun e_ => ((HL429_0.out.1 _ e_.symm).2) rfl)) | exact (fun e_ => ((HL429_0.out.1 _ e_.symm).2) rfl)) | have HS1_ := cell_grown hg (cell_unalloc (hHeld.2) (by first | (rw [add_block]; exact Kd.S_lt HO428.out _ rfl) | (show (Addr.add _ _).block < _; rw [add_block]; exact Kd.S_lt HO428.out _ rfl) | exact Kd.S_lt HO428.out _ rfl)) (by first | (rw [add_block]; exact (fun e_ => ((HL429_0.out.1 _ e_.symm).2) rfl)) | (show some (Addr.add _ _).block ≠ _; rw [add_block]; exact (fun e_ => ((HL429_0.out.1 _ e_.symm).2) rfl)) | exact (fun e_ => ((HL429_0.out.1 _ e_.symm).2) rfl)))
           rw [← Ny430.out] at ho
           have HO432 := za (ho)
           replace BK418 := (zw BK418 hg (Kd.R_ne HL429_0.out BK418.out (by decide)))
           replace BK419 := (zw BK419 hg (Kd.R_ne HL429_0.out BK419.out (by decide)))
           replace BK420 := (zw BK420 hg (Kd.R_ne HL429_0.out BK420.out (by decide)))
           replace HI0 := za (IsS61.grown (by repeat (first | (with_reducible first | exact HI0.out | apply IsS61.alloc | apply IsS61.drewN | apply IsS61.drew | apply IsS61.set_1 | refine IsS61.far ?_ NB0_418.out _ | refine IsS61.far ?_ NB0_419.out _ | refine IsS61.far ?_ NB0_420.out _) | exact HI0.out)) hg (IsS61.own_ne HI0.out HL429_0.out (by decide)))
           replace HB := za (below_weaken (zm HB) HL.out hb)
           replace HK := za (KeepBut.trans (by repeat (first | (with_reducible first | exact HK.out | apply KeepBut.set_ | apply keep_drewN | apply keep_drew | apply keep_alloc | refine keep_far ?_ GW418.out _ | refine keep_far ?_ GW419.out _ | refine keep_far ?_ GW420.out _) | exact HK.out)) (KeepBut.of_grown hg g) (Kd.R_base2 HL429_0.out))
           replace HH37 := za (Kd.H_grown (Kd.H_widen (by repeat (first | exact HH37.out | refine Kd.H_alloc ?_ _ | refine Kd.H_drewN ?_ _ | refine Kd.H_drew ?_))) hg (fun k_ e_ => .inl (UU37.out.1 k_ e_)))
           clear HO428 UU37 HL429_0 ho hb hg hat
           have p23 : 0 ≤ ((ji19) : Int) := of_decide_eq_true (by first | (with_reducible assumption) | assumption)
           have q23 : ((ji19) : Int) < ((y426.length : Int) : Int) := of_decide_eq_true (by first | (with_reducible assumption) | assumption)
           replace p23 := eq_true p23
           replace q23 := eq_true q23
           obtain ⟨Ao41, co41, eo41⟩ := Kd.R_slice HO432.out
           (first | subst eo41 | (injection eo41 with f1_ f2_ f3_; have f4_ := f1_.symm; have f5_ := f3_.symm; clear f1_ f2_ f3_; subst f4_; subst f5_))
           obtain ⟨_, _, hraw39, _, _, hcc39, _⟩ := Kd.H_raw HH37.out (of_decide_eq_true (by first | (with_reducible assumption) | assumption)) (by have h_ : ((ji19) : Int) < ((y426.length : Int) : Int) := of_decide_eq_true (by first | (with_reducible assumption) | assumption); first | exact h_ | (have e_ := (HN37.out); omega) | simpa using h_)
           obtain ⟨_, hfr39⟩ := Kd.H_at HH37.out (of_decide_eq_true (by first | (with_reducible assumption) | assumption)) (by have h_ : ((ji19) : Int) < ((y426.length : Int) : Int) := of_decide_eq_true (by first | (with_reducible assumption) | assumption); first | exact h_ | (have e_ := (HN37.out); omega) | simpa using h_)
           have hx39_0 := hcc39 0 _ rfl
           have hf39_0 := hfr39 0
           (try simp only [Nat.add_zero] at hx39_0 hf39_0)
           (try rw [show ((Kd.slice 3 (Kd.int .i64))).sz = 1 from rfl, Nat.mul_one] at hx39_0)
           (try rw [show ((Kd.slice 3 (Kd.int .i64))).sz = 1 from rfl, Nat.mul_one] at hf39_0)
           have HP39 := Kd.S_seg0 HH37.out (of_decide_eq_true (by first | (with_reducible assumption) | assumption)) (by have h_ : ((ji19) : Int) < ((y426.length : Int) : Int) := of_decide_eq_true (by first | (with_reducible assumption) | assumption); first | exact h_ | (have e_ := (HN37.out); omega) | simpa using h_) (seg := [.slice Ao41 y430.length co41]) (j := 0) (show 1 ≤ 1 from by decide) (x' := y430) (Kd.M_row HO432.out) (fun _ hk => hk)
           (try simp only [show ((Kd.slice 3 (Kd.int .i64))).sz = 1 from rfl, Nat.mul_one, Nat.add_zero] at HP39)
           clear hcc39 hfr39
           have HN0_go37 := za (show g ≠ go37 from by have h_ := IsS61.own_ne HI0.out hraw39 (by decide); intro e_; exact h_ (by rw [e_]; rfl))
           have HNB418_go37 := za (show gb418 ≠ go37 from by have h_ := Kd.R_ne hraw39 BK418.out (by decide); intro e_; exact h_ (by rw [e_]; rfl))
           have HNB419_go37 := za (show gb419 ≠ go37 from by have h_ := Kd.R_ne hraw39 BK419.out (by decide); intro e_; exact h_ (by rw [e_]; rfl))
           have HNB420_go37 := za (show gb420 ≠ go37 from by have h_ := Kd.R_ne hraw39 BK420.out (by decide); intro e_; exact h_ (by rw [e_]; rfl))
           have HS39 := HP39.1
           rw [← Ny433.out] at HS39
           have HQ39 := za HS39
           obtain ⟨_, hgg39⟩ := Kd.R_typed hraw39 go37 rfl
           have GG39_ := za hgg39
           clear HP39 HS39 hgg39
           refine hK.out _ _ ⟨(blk_cell BK420.out 0).trans rfl, HS1_⟩ (fun hHeld => ?_)
           clear hK K
           refine norm_ (a' := ?_) ?_ ?_
           rotate_left
           ·show Act.put _ (some 55) _ = _
            simp only [Act.put, List.setIfInBounds_toArray, List.set_cons_zero, List.set_cons_succ, i64_w, i32_w]
            rfl
           refine pure_ (i := 11) (N := some 56) (v := ?_) (a' := ?_) #[true, true, true, true, true, true, true, true, true, true, true, true, false] rfl rfl (any_of HT_.out (by kernel_rfl)) (fun _ _ _ h => h) (Or.inl ⟨by rfl, ?_⟩) ?_ ?_
           rotate_left
           ·intro w'
            go_simp
            with_reducible rfl
           rotate_left
           ·simp only [Act.put, List.setIfInBounds_toArray, List.set_cons_zero, List.set_cons_succ, i64_w, i32_w]
            rfl
           refine last_ (i := 12) (N := none) #[true, true, true, true, true, true, true, true, true, true, true, true, true] rfl rfl (one_of HT_.out (by kernel_rfl)) (by decide) (fun K hK => ?_)
           refine skip_ (w1 := ?_) (by rfl) rfl ?_ ?_
           rotate_left
           ·go_simp
            rfl
           refine hK.out _ _ ?_
           clear hK K
           refine done_ (done_of HT_.out (by kernel_rfl)) ?_
           try go_wp2
           go_roundg k1
           case measure => have := HK1.out; omega
           case rel => exact ⟨(wrap64 (30 - t425)), (wrap64 (x7_1 + 1)), (x1001_1), (y433), (.slice (some ⟨go37, 0, none⟩) y426.length co33), (by first | rfl | (simp; done) | (simp [*]; done)), (by first | rfl | (simp; done) | (simp [*]; done)), H', ⟨by have := HK1.out; omega⟩, ⟨by (with_reducible repeat (first | apply Kd.S_alloc | apply Kd.S_drewN | apply Kd.S_drew)); exact HQ39.out⟩, ⟨by (with_reducible repeat (first | refine blk_drewN ?_ _ | refine blk_drew ?_ | refine blk_alloc ?_ _)); refine blk_far ?_ HNB418_go37.out _; (with_reducible repeat (first | refine blk_drewN ?_ _ | refine blk_drew ?_ | refine blk_alloc ?_ _)); exact BK418.out⟩, ⟨by (with_reducible repeat (first | refine blk_drewN ?_ _ | refine blk_drew ?_ | refine blk_alloc ?_ _)); refine blk_far ?_ HNB419_go37.out _; (with_reducible repeat (first | refine blk_drewN ?_ _ | refine blk_drew ?_ | refine blk_alloc ?_ _)); exact BK419.out⟩, ⟨by (with_reducible repeat (first | refine blk_drewN ?_ _ | refine blk_drew ?_ | refine blk_alloc ?_ _)); refine blk_far ?_ HNB420_go37.out _; (with_reducible repeat (first | refine blk_drewN ?_ _ | refine blk_drew ?_ | refine blk_alloc ?_ _)); exact BK420.out⟩, ⟨by repeat (first | (with_reducible first | exact HI0.out | apply IsS61.alloc | apply IsS61.drewN | apply IsS61.drew | apply IsS61.set_1 | refine IsS61.far ?_ HN0_go37.out _ | refine IsS61.far ?_ NB0_418.out _ | refine IsS61.far ?_ NB0_419.out _ | refine IsS61.far ?_ NB0_420.out _) | exact HI0.out)⟩, ⟨by repeat (first | (with_reducible first | exact HK.out | apply KeepBut.set_ | apply keep_drewN | apply keep_drew | apply keep_alloc | refine keep_far ?_ GB37.out _ | refine keep_far ?_ GW418.out _ | refine keep_far ?_ GW419.out _ | refine keep_far ?_ GW420.out _) | exact HK.out)⟩, ⟨by repeat (first | (with_reducible first | exact HB.out | apply below_alloc | apply pw_below_drewN | apply below_drew1 | refine below_set ?_ (Nat.le_trans HL.out GB37.out) | refine below_set ?_ (IsS61.ge HI0.out) | refine below_set ?_ GE418.out | refine below_set ?_ GE419.out | refine below_set ?_ GE420.out) | exact HB.out)⟩⟩
          ·rw [if_neg c22] at H
           exact absurd H (by simp)
         ·rw [if_neg c21] at H
          exact absurd H (by simp)
        ·rw [if_neg c20] at H
         exact absurd H (by simp)
       ·rw [if_neg c18] at H
        exact absurd H (by simp)
      ·rw [if_neg c17] at H
       have c17b0 : decide (x6_1 < t425) = false := decide_eq_false c17
       clear c17
       replace H := Option.bind_eq_some_iff.mp H
       obtain ⟨⟨t434, t435⟩, A420, H⟩ := H
       replace H : (if t434 = true then (if x421000_1.length < 5864062014805 then ((some (x421000_1 ++ [[]] : List (List Int))).bind fun y436 => (if 0 ≤ (wrap64 ((y436.length : Int) - 1)) then (if (wrap64 ((y436.length : Int) - 1)) < (y436.length : Int) then (if (rd_L2 y436 (wrap64 ((y436.length : Int) - 1))).length < 17592186044416 then (awardingbodylaw12_shaped.l0 k1 (wrap64 (30 - t425)) (wrap64 (x7_1 + 1)) s0_0 t435 a1_0 a1_1 l1_2 (y436.set ((wrap64 ((y436.length : Int) - 1)) : Int).toNat ((rd_L2 y436 (wrap64 ((y436.length : Int) - 1))) ++ [x7_1]))) else (none)) else (none)) else (none))) else (none)) else (if 0 ≤ (wrap64 ((x421000_1.length : Int) - 1)) then (if (wrap64 ((x421000_1.length : Int) - 1)) < (x421000_1.length : Int) then (if (rd_L2 x421000_1 (wrap64 ((x421000_1.length : Int) - 1))).length < 17592186044416 then (awardingbodylaw12_shaped.l0 k1 (wrap64 (x6_1 - t425)) (wrap64 (x7_1 + 1)) s0_0 t435 a1_0 a1_1 l1_2 (x421000_1.set ((wrap64 ((x421000_1.length : Int) - 1)) : Int).toNat ((rd_L2 x421000_1 (wrap64 ((x421000_1.length : Int) - 1))) ++ [x7_1]))) else (none)) else (none)) else (none))) = some (r1, r2) := H
       have A42 := za A420
       clear A420
       by_cases c43 : t434 = true
       ·subst c43
        have H1 : (if x421000_1.length < 5864062014805 then ((some (x421000_1 ++ [[]] : List (List Int))).bind fun y436 => (if 0 ≤ (wrap64 ((y436.length : Int) - 1)) then (if (wrap64 ((y436.length : Int) - 1)) < (y436.length : Int) then (if (rd_L2 y436 (wrap64 ((y436.length : Int) - 1))).length < 17592186044416 then (awardingbodylaw12_shaped.l0 k1 (wrap64 (30 - t425)) (wrap64 (x7_1 + 1)) s0_0 t435 a1_0 a1_1 l1_2 (y436.set ((wrap64 ((y436.length : Int) - 1)) : Int).toNat ((rd_L2 y436 (wrap64 ((y436.length : Int) - 1))) ++ [x7_1]))) else (none)) else (none)) else (none))) else (none)) = some (r1, r2) := by rw [if_pos rfl] at H; exact H
        clear H
        have H := H1
        clear H1
        by_cases c44 : x421000_1.length < 5864062014805
        ·rw [if_pos c44] at H
         have LMc44 := za c44
         clear c44
         obtain ⟨y436, hy436⟩ : ∃ y_ : List (List Int), y_ = (x421000_1 ++ [[]]) := ⟨_, rfl⟩
         replace H : (if 0 ≤ (wrap64 ((y436.length : Int) - 1)) then (if (wrap64 ((y436.length : Int) - 1)) < (y436.length : Int) then (if (rd_L2 y436 (wrap64 ((y436.length : Int) - 1))).length < 17592186044416 then (awardingbodylaw12_shaped.l0 k1 (wrap64 (30 - t425)) (wrap64 (x7_1 + 1)) s0_0 t435 a1_0 a1_1 l1_2 (y436.set ((wrap64 ((y436.length : Int) - 1)) : Int).toNat ((rd_L2 y436 (wrap64 ((y436.length : Int) - 1))) ++ [x7_1]))) else (none)) else (none)) else (none)) = some (r1, r2) := by first | (rw [hy436]; with_reducible exact H) | (have H2_ := (Option.bind_some _ _).symm.trans H; rw [hy436]; with_reducible exact H2_) | (have H2_ := (Option.bind_some _ _).symm.trans H; with_reducible exact H2_) | with_reducible exact H | (rw [hy436]; exact H) | exact H
         have Ny436 := za hy436
         clear hy436
         obtain ⟨ji45, hji45⟩ : ∃ j_ : Int, (wrap64 ((y436.length : Int) - 1)) = j_ := ⟨_, rfl⟩
         replace H : (if 0 ≤ (ji45) then (if (ji45) < (y436.length : Int) then (if (rd_L2 y436 (ji45)).length < 17592186044416 then (awardingbodylaw12_shaped.l0 k1 (wrap64 (30 - t425)) (wrap64 (x7_1 + 1)) s0_0 t435 a1_0 a1_1 l1_2 (y436.set ((ji45) : Int).toNat ((rd_L2 y436 (ji45)) ++ [x7_1]))) else (none)) else (none)) else (none)) = some (r1, r2) := by first | (rw [hji45] at H; exact H) | (simp only [hji45] at H ⊢; exact H)
         (try rw [hji45] at A16)
         (try rw [hji45] at A42)
         have hji45w : (IntKind.i64.wrap ((y436.length : Int) - 1)) = ji45 := (i64_w _).trans hji45
         by_cases c46 : 0 ≤ (ji45)
         ·rw [if_pos c46] at H
          have c46b0 : decide (0 ≤ (ji45)) = true := decide_eq_true c46
          clear c46
          by_cases c47 : (ji45) < (y436.length : Int)
          ·rw [if_pos c47] at H
           have c47b0 : decide ((ji45) < (y436.length : Int)) = true := decide_eq_true c47
           clear c47
           by_cases c48 : (rd_L2 y436 (ji45)).length < 17592186044416
           ·rw [if_pos c48] at H
            have LMc48 := za c48
            clear c48
            obtain ⟨y440, hy440⟩ : ∃ y_ : List Int, y_ = ((rd_L2 y436 (ji45)) ++ [x7_1]) := ⟨_, rfl⟩
            replace H : (awardingbodylaw12_shaped.l0 k1 (wrap64 (30 - t425)) (wrap64 (x7_1 + 1)) s0_0 t435 a1_0 a1_1 l1_2 (y436.set ((ji45) : Int).toNat y440)) = some (r1, r2) := by first | (rw [hy440]; with_reducible exact H) | (have H2_ := (Option.bind_some _ _).symm.trans H; rw [hy440]; with_reducible exact H2_) | (have H2_ := (Option.bind_some _ _).symm.trans H; with_reducible exact H2_) | with_reducible exact H | (rw [hy440]; exact H) | exact H
            have Ny440 := za hy440
            clear hy440
            obtain ⟨y443, hy443⟩ : ∃ y_ : List (List Int), y_ = (y436.set ((ji45) : Int).toNat y440) := ⟨_, rfl⟩
            replace H : (awardingbodylaw12_shaped.l0 k1 (wrap64 (30 - t425)) (wrap64 (x7_1 + 1)) s0_0 t435 a1_0 a1_1 l1_2 y443) = some (r1, r2) := by first | (rw [hy443]; with_reducible exact H) | (have H2_ := (Option.bind_some _ _).symm.trans H; rw [hy443]; with_reducible exact H2_) | (have H2_ := (Option.bind_some _ _).symm.trans H; with_reducible exact H2_) | with_reducible exact H | (rw [hy443]; exact H) | exact H
            have Ny443 := za hy443
            clear hy443
            have H' := za H
            clear H
            have hnb50 := NB418_419.out
            have hnc50 := NB419_418.out
            have hnb51 := NB418_420.out
            have hnc51 := NB420_418.out
            have hnb52 := NB418_0.out
            have hnc52 := NB0_418.out
            obtain ⟨hcz53_0, hcz53_1, hcz53_2, hfz53_0, hfz53_1, hfz53_2⟩ := z3 BK418
            have p424 : 0 ≤ (x7_1 : Int) := of_decide_eq_true (by first | (with_reducible assumption) | assumption)
            have q424 : x7_1 < (l1_2.length : Int) := of_decide_eq_true (by first | (with_reducible assumption) | assumption)
            obtain ⟨ad424, e424, hx424_0, hx424_1, hx424_2, hx424_3, hx424_4, hx424_5⟩ := at_T23 (Kd.C_foot_now HR1_2.out HK.out) x7_1 p424 q424
            cases e424
            replace p424 := eq_true p424
            replace q424 := eq_true q424
            try go_wp2_with (first | ((with_reducible refine gate_callee (f := 13) rfl ?_); refine zL (some 28) Try.func13 #[.agg #[.int .i64 ((rd_T23 l1_2 x7_1).f0), .int .i64 ((rd_T23 l1_2 x7_1).f1), .int .i64 ((rd_T23 l1_2 x7_1).f2), .int .i64 ((rd_T23 l1_2 x7_1).f3), .int .i64 ((rd_T23 l1_2 x7_1).f4), .int .i64 ((rd_T23 l1_2 x7_1).f5)]] ?_; (with_reducible refine (awardingbodyref12_Need.calls k1 ((rd_T23 l1_2 x7_1).f0) ((rd_T23 l1_2 x7_1).f1) ((rd_T23 l1_2 x7_1).f2) ((rd_T23 l1_2 x7_1).f3) ((rd_T23 l1_2 x7_1).f4) ((rd_T23 l1_2 x7_1).f5) t425 _ A16.out).mono ?_); rintro e w54 ⟨rfl, hb⟩; refine ⟨_, rfl, ?_⟩; replace HO_421000 := zS HO_421000 hb; replace BK418 := zb BK418 hb; replace BK419 := zb BK419 hb; replace BK420 := zb BK420 hb; replace HI0 := za (IsS61.below (by repeat (first | (with_reducible first | exact HI0.out | apply IsS61.alloc | apply IsS61.drewN | apply IsS61.drew | apply IsS61.set_1 | refine IsS61.far ?_ NB0_418.out _ | refine IsS61.far ?_ NB0_419.out _ | refine IsS61.far ?_ NB0_420.out _) | exact HI0.out)) hb); replace HK := zu HK hb; replace HB := zs HB hb; (try clear hb); (try clear hb2); (try clear hk); (try clear hi)) | (go_at_call 35; (with_reducible refine (awardingbodymake_Tape_One.calls g s0_0 x1001_1 4 true t435 w0 _ ?side1 ?side2 A42.out).mono ?_); (case side1 => exact (by repeat (first | (with_reducible first | exact HI0.out | apply IsS61.alloc | apply IsS61.drewN | apply IsS61.drew | apply IsS61.set_1 | refine IsS61.far ?_ NB0_418.out _ | refine IsS61.far ?_ NB0_419.out _ | refine IsS61.far ?_ NB0_420.out _) | exact HI0.out))); (case side2 => exact (by repeat (first | (with_reducible first | exact HB.out | apply below_alloc | apply pw_below_drewN | apply below_drew1 | refine below_set ?_ (IsS61.ge HI0.out) | refine below_set ?_ GE418.out | refine below_set ?_ GE419.out | refine below_set ?_ GE420.out) | exact HB.out))); rintro e w55 ⟨rfl, hi, hb, hk⟩; replace HO_421000 := za (Kd.S_mono (Kd.S_keep (IsS61.apartS (show IsS61 w0 _ g s0_0 x1001_1 from by repeat (first | (with_reducible first | exact HI0.out | apply IsS61.alloc | apply IsS61.drewN | apply IsS61.drew | apply IsS61.set_1 | refine IsS61.far ?_ NB0_418.out _ | refine IsS61.far ?_ NB0_419.out _ | refine IsS61.far ?_ NB0_420.out _) | exact HI0.out)) (by (with_reducible repeat (first | apply Kd.S_alloc | apply Kd.S_drewN | apply Kd.S_drew)); exact HO_421000.out) (by decide)) hk (fun _ h => h.2)) (fun _ h => h.1)); replace BK418 := zk hk BK418 NB418_0; replace BK419 := zk hk BK419 NB419_0; replace BK420 := zk hk BK420 NB420_0; replace HK := zt HK hk; replace HB := za (hb); replace HI0 := za (hi); (try clear hb); (try clear hb2); (try clear hk); (try clear hi); have hnb56 := NB420_419.out; have hnc56 := NB419_420.out; have hnb57 := NB420_0.out; have hnc57 := NB0_420.out; obtain ⟨hcz58_0, hfz58_0⟩ := z1 BK420) | ((with_reducible refine gate_builtin (b := .append) (xs := #[.tmp 37, .tmp 38]) rfl ?_); at_builtin; refine Kd.S_append (Kd.slice 3 (Kd.int .i64)) w.heap.size rfl (.tmp 37) (.tmp 38) 36 28 (.slice none 0 0) 24 rfl Try.underlying36 info28 rfl (by decide) (by omega) u421000 x421000_1 ([] : List Int) [.slice none 0 0] (fun _ => True) (fun _ => False) rfl rfl ?aP (fun k_ hk_ => hk_.elim) ?aF ?aO (Below.refl _ _) ?aS ?aL ?_; (case aP => exact Kd.M_row (Kd.R_nil _ _ _ _ _)); (case aF => exact (fun _ _ => trivial)); (case aO => exact (by (with_reducible repeat (first | apply Kd.S_alloc | apply Kd.S_drewN | apply Kd.S_drew)); exact Kd.S_mono HO_421000.out (fun k_ hk => ⟨trivial, fun e_ => e_⟩))); (case aS => exact (keep_size (w := w) (g := g) (row := none) (by repeat (first | (with_reducible first | exact HK.out | apply KeepBut.set_ | apply keep_drewN | apply keep_drew | apply keep_alloc | refine keep_far ?_ GW418.out _ | refine keep_far ?_ GW419.out _ | refine keep_far ?_ GW420.out _) | exact HK.out)))); (case aL => have := LMc44.out; omega); intro v437 w59 ho hb hg hat; rw [← Ny436.out] at ho; have HO438 := za (ho); replace BK418 := (zw BK418 hg (Kd.S_ne HO_421000.out BK418.out (by decide))); replace BK419 := (zw BK419 hg (Kd.S_ne HO_421000.out BK419.out (by decide))); replace BK420 := (zw BK420 hg (Kd.S_ne HO_421000.out BK420.out (by decide))); replace HI0 := za (IsS61.grown (by repeat (first | (with_reducible first | exact HI0.out | apply IsS61.alloc | apply IsS61.drewN | apply IsS61.drew | apply IsS61.set_1 | refine IsS61.far ?_ NB0_418.out _ | refine IsS61.far ?_ NB0_419.out _ | refine IsS61.far ?_ NB0_420.out _) | exact HI0.out)) hg (IsS61.own_neS HI0.out HO_421000.out (by decide))); replace HB := za (below_weaken (zm HB) HL.out hb); replace HK := za (KeepBut.trans (by repeat (first | (with_reducible first | exact HK.out | apply KeepBut.set_ | apply keep_drewN | apply keep_drew | apply keep_alloc | refine keep_far ?_ GW418.out _ | refine keep_far ?_ GW419.out _ | refine keep_far ?_ GW420.out _) | exact HK.out)) (KeepBut.of_grown hg g) (Kd.S_base2 HO_421000.out)); clear HO_421000 ho hb hg hat; obtain ⟨Ao60, co60, eo60⟩ := Kd.S_slice HO438.out; subst eo60; obtain ⟨hcz61_0, hfz61_0⟩ := z1 BK420))
            have n0_ : Aside0 (Kd.S (Kd.slice 3 (Kd.int .i64)) 28 (w59.setCell ⟨gb420, 0, none⟩ (.slice Ao60 y436.length co60)) w.heap.size (fun _ => True) (.slice Ao60 y436.length co60) y436) := ⟨by (with_reducible repeat (first | apply Kd.S_alloc | apply Kd.S_drewN | apply Kd.S_drew)); exact Kd.S_mono (Kd.S_far (p := ⟨gb420, 0, none⟩) (Kd.S_types HO438.out BK420.out (by decide)) (fun _ hk => hk.2) (.slice Ao60 y436.length co60)) (fun _ hk => trivial)⟩
            have n1_ : Aside0 ((w59.setCell ⟨gb420, 0, none⟩ (.slice Ao60 y436.length co60)).heap[gb418]? = some (.cells #[.int .i64 a1_0, .int .i64 a1_1, .slice (some ad424) l1_2.length c1_2] 33 (0, 0))) := ⟨by (with_reducible repeat (first | refine blk_drewN ?_ _ | refine blk_drew ?_ | refine blk_alloc ?_ _)); refine blk_far ?_ NB418_420.out _; (with_reducible repeat (first | refine blk_drewN ?_ _ | refine blk_drew ?_ | refine blk_alloc ?_ _)); exact BK418.out⟩
            have n2_ : Aside0 ((w59.setCell ⟨gb420, 0, none⟩ (.slice Ao60 y436.length co60)).heap[gb419]? = some (.cells #[.slice none 0 0] 38 (0, 0))) := ⟨by (with_reducible repeat (first | refine blk_drewN ?_ _ | refine blk_drew ?_ | refine blk_alloc ?_ _)); refine blk_far ?_ NB419_420.out _; (with_reducible repeat (first | refine blk_drewN ?_ _ | refine blk_drew ?_ | refine blk_alloc ?_ _)); exact BK419.out⟩
            have n3_ : Aside0 ((w59.setCell ⟨gb420, 0, none⟩ (.slice Ao60 y436.length co60)).heap[gb420]? = some (.cells #[.slice Ao60 y436.length co60] 38 (0, 0))) := ⟨by (with_reducible repeat (first | refine blk_drewN ?_ _ | refine blk_drew ?_ | refine blk_alloc ?_ _)); refine blk_put (cs := #[u421000]) ?_ 0 _ rfl; (with_reducible repeat (first | refine blk_drewN ?_ _ | refine blk_drew ?_ | refine blk_alloc ?_ _)); exact BK420.out⟩
            have n4_ : Aside0 (IsS61 w0 (w59.setCell ⟨gb420, 0, none⟩ (.slice Ao60 y436.length co60)) g s0_0 t435) := ⟨by repeat (first | (with_reducible first | exact HI0.out | apply IsS61.alloc | apply IsS61.drewN | apply IsS61.drew | apply IsS61.set_1 | refine IsS61.far ?_ NB0_418.out _ | refine IsS61.far ?_ NB0_419.out _ | refine IsS61.far ?_ NB0_420.out _) | exact HI0.out)⟩
            have n5_ : Aside0 (KeepBut w (w59.setCell ⟨gb420, 0, none⟩ (.slice Ao60 y436.length co60)) g none) := ⟨by repeat (first | (with_reducible first | exact HK.out | apply KeepBut.set_ | apply keep_drewN | apply keep_drew | apply keep_alloc | refine keep_far ?_ GW418.out _ | refine keep_far ?_ GW419.out _ | refine keep_far ?_ GW420.out _) | exact HK.out)⟩
            have n6_ : Aside0 (Below w0.heap.size w0 (w59.setCell ⟨gb420, 0, none⟩ (.slice Ao60 y436.length co60))) := ⟨zm HB⟩
            (try clear HO438)
            (try clear BK418)
            (try clear BK419)
            (try clear BK420)
            (try clear HI0)
            (try clear HK)
            (try clear HB)
            generalize (w59.setCell ⟨gb420, 0, none⟩ (.slice Ao60 y436.length co60)) = w62 at n0_ n1_ n2_ n3_ n4_ n5_ n6_ ⊢
            have HO438 := n0_
            have BK418 := n1_
            have BK419 := n2_
            have BK420 := n3_
            have HI0 := n4_
            have HK := n5_
            have HB := n6_
            clear n0_ n1_ n2_ n3_ n4_ n5_ n6_
            replace HO438 := za (Kd.S_drew HO438.out)
            replace BK418 := za (blk_drew BK418.out)
            replace BK419 := za (blk_drew BK419.out)
            replace BK420 := za (blk_drew BK420.out)
            replace HI0 := za (IsS61.drew HI0.out)
            replace HK := za (keep_drew HK.out)
            replace HB := za (below_drew1 HB.out)
            have p439 : 0 ≤ ((ji45) : Int) := of_decide_eq_true (by first | (with_reducible assumption) | assumption)
            have q439 : (ji45) < (y436.length : Int) := of_decide_eq_true (by first | (with_reducible assumption) | assumption)
            obtain ⟨ad439, A439_0, c439_0, e439, hx439_0, hl439_0, hi439_0⟩ := at_L2 (Kd.S_reads' HO438.out).2.2 (ji45) p439 q439
            cases e439
            obtain ⟨ce439, hce439, hMe439, hcc439⟩ := Kd.S_get HO438.out [] (ji45) p439 (by first | exact q439 | exact of_decide_eq_true (by first | (with_reducible assumption) | assumption) | (have e_ := (Kd.S_reads' HO438.out).1; omega))
            obtain ⟨ve439_0, rfl, ge439_0⟩ := hMe439
            have hv439_0 := hcc439 0 _ rfl
            rw [Nat.add_zero, show ((Kd.slice 3 (Kd.int .i64))).sz = 1 from rfl, Nat.mul_one] at hv439_0
            replace hv439_0 := Option.some.inj (hv439_0.symm.trans hx439_0)
            rw [hv439_0] at ge439_0
            have HL439_0 := za (show Kd.R (Kd.int .i64) 3 _ _ _ _ (rd_L2 y436 (ji45)) from ge439_0)
            clear hv439_0 ge439_0
            have HX439_0 := za hx439_0
            clear hcc439 hce439
            have HR439_0 := za hi439_0
            have HC439_0 := za hl439_0
            clear hi439_0 hl439_0
            replace p439 := eq_true p439
            replace q439 := eq_true q439
            obtain ⟨go64, co64, eo64, gb64, gl64, cl64, HG64⟩ := Kd.S_form HO438.out (by have h_ : ((ji45) : Int) < ((y436.length : Int) : Int) := of_decide_eq_true (by first | (with_reducible assumption) | assumption); have h2_ : 0 ≤ ((ji45) : Int) := (of_decide_eq_true (by first | (with_reducible assumption) | assumption)); omega)
            (first | cases eo64 | (injection eo64 with ea_ en_ ec_; (first | subst ea_ | (injection ea_ with ea_; subst ea_)); subst ec_; clear en_))
            have GB64 := za gb64
            have GG64 := za HG64
            clear gb64 gl64 HG64
            (first | simp only [add_plain] at hx439_0 | skip)
            obtain ⟨oki64, ce64, hcl64, hM64, hcc64, _, _, hH64⟩ := Kd.S_elem HO438.out [] ((ji45) : Int) (of_decide_eq_true (by first | (with_reducible assumption) | assumption)) (by have h_ : ((ji45) : Int) < ((y436.length : Int) : Int) := of_decide_eq_true (by first | (with_reducible assumption) | assumption); first | exact h_ | (have e_ := (Kd.S_reads' HO438.out).1; omega) | simpa using h_)
            obtain ⟨ve64_0, rfl, ge64_0⟩ := hM64
            have hv64 := hcc64 0 _ rfl
            have hX64 := HX439_0.out
            (try simp only [add_plain] at hX64)
            (try simp only [Nat.add_zero] at hv64)
            (try rw [show ((Kd.slice 3 (Kd.int .i64))).sz = 1 from rfl, Nat.mul_one] at hv64)
            replace hv64 := Option.some.inj (hv64.symm.trans hX64)
            subst hv64
            clear hX64 hcc64 hcl64
            have UU64 := za (show Kd.R (Kd.int .i64) 3 _ w.heap.size oki64 (.slice A439_0 (rd_L2 y436 (ji45)).length c439_0) (rd_L2 y436 (ji45)) from ge64_0)
            have HH64 := za hH64
            have HN64 := za (Kd.S_reads' HO438.out).1
            clear hH64 ge64_0
            refine start_ (n := 13) (S := fun w' => w'.cell? ⟨gb420, 0, none⟩ = some (.slice (some ⟨go64, 0, none⟩) y436.length co60) ∧ w'.cell? ⟨go64, ((ji45)).toNat, none⟩ = some (.slice A439_0 (rd_L2 y436 (ji45)).length c439_0)) (ds := [12]) #[false, false, false, false, false, false, false, false, false, false, false, false, false] (by kernel_rfl) rfl rfl ⟨(blk_cell BK420.out 0).trans rfl, hx439_0⟩ (fun hHeld => ?_); refine with_tabW awardingbodylaw12_shaped.tab12 awardingbodylaw12_shaped.bits12 (fun HT_ HW_ => ?_)
            generalize w62.drew = w63 at HO438 BK418 BK419 BK420 HI0 HK HB GG64 HH64 HL439_0 HR439_0 HX439_0 UU64 hx439_0 hHeld ⊢
            refine pure_ (i := 0) (N := some 45) (v := ?_) (a' := ?_) #[true, false, false, false, false, false, false, false, false, false, false, false, false] rfl rfl (any_of HT_.out (by kernel_rfl)) (fun _ _ _ h => h) (Or.inl ⟨by rfl, ?_⟩) ?_ ?_
            rotate_left
            ·intro w'
             go_simp
             with_reducible rfl
            rotate_left
            ·simp only [Act.put, List.setIfInBounds_toArray, List.set_cons_zero, List.set_cons_succ, i64_w, i32_w]
             rfl
            refine pure_ (i := 2) (N := some 47) (v := ?_) (a' := ?_) #[true, false, true, false, false, false, false, false, false, false, false, false, false] rfl rfl (any_of HT_.out (by kernel_rfl)) (fun _ _ _ h => h) (Or.inl ⟨by rfl, ?_⟩) ?_ ?_
            rotate_left
            ·intro w'
             go_simp
             with_reducible rfl
            rotate_left
            ·simp only [Act.put, List.setIfInBounds_toArray, List.set_cons_zero, List.set_cons_succ, i64_w, i32_w]
             rfl
            refine pure_ (i := 3) (N := some 48) (v := ?_) (a' := ?_) #[true, false, true, true, false, false, false, false, false, false, false, false, false] rfl rfl (any_of HT_.out (by kernel_rfl)) (fun _ _ _ h => h) (Or.inl ⟨by rfl, ?_⟩) ?_ ?_
            rotate_left
            ·intro w'
             go_simp
             with_reducible rfl
            rotate_left
            ·simp only [Act.put, List.setIfInBounds_toArray, List.set_cons_zero, List.set_cons_succ, i64_w, i32_w]
             rfl
            refine pure_ (i := 5) (N := some 50) (v := ?_) (a' := ?_) #[true, false, true, true, false, true, false, false, false, false, false, false, false] rfl rfl (any_of HT_.out (by kernel_rfl)) (fun _ _ _ h => h) (Or.inl ⟨by rfl, ?_⟩) ?_ ?_
            rotate_left
            ·intro w'
             go_simp
             with_reducible rfl
            rotate_left
            ·simp only [Act.put, List.setIfInBounds_toArray, List.set_cons_zero, List.set_cons_succ, i64_w, i32_w]
             rfl
            refine pure_ (i := 8) (N := some 53) (v := ?_) (a' := ?_) #[true, false, true, true, false, true, false, false, true, false, false, false, false] rfl rfl (any_of HT_.out (by kernel_rfl)) (fun _ _ _ h => h) (Or.inl ⟨by rfl, ?_⟩) ?_ ?_
            rotate_left
            ·intro w'
             go_simp
             with_reducible rfl
            rotate_left
            ·simp only [Act.put, List.setIfInBounds_toArray, List.set_cons_zero, List.set_cons_succ, i64_w, i32_w]
             rfl
            refine take_ (i := 1) (N := some 46) (v := ?_) (a' := ?_) #[true, true, true, true, false, true, false, false, true, false, false, false, false] rfl rfl (take_ofW HT_.out HW_.out (by kernel_rfl)) (fun _ _ _ h => h) (Or.inl ⟨by rfl, ?_⟩) hHeld ?_ ?_
            rotate_left
            ·rintro w' ⟨s0, s1⟩
             go_simp
             with_reducible rfl
            rotate_left
            ·simp only [Act.put, List.setIfInBounds_toArray, List.set_cons_zero, List.set_cons_succ, i64_w, i32_w]
             rfl
            refine take_ (i := 4) (N := some 49) (v := ?_) (a' := ?_) #[true, true, true, true, true, true, false, false, true, false, false, false, false] rfl rfl (take_ofW HT_.out HW_.out (by kernel_rfl)) (fun _ _ _ h => h) (Or.inl ⟨by rfl, ?_⟩) hHeld ?_ ?_
            rotate_left
            ·rintro w' ⟨s0, s1⟩
             go_simp
             with_reducible rfl
            rotate_left
            ·simp only [Act.put, List.setIfInBounds_toArray, List.set_cons_zero, List.set_cons_succ, i64_w, i32_w]
             rfl
            refine pure_ (i := 6) (N := some 51) (v := ?_) (a' := ?_) #[true, true, true, true, true, true, true, false, true, false, false, false, false] rfl rfl (any_of HT_.out (by kernel_rfl)) (fun _ _ _ h => h) (Or.inl ⟨by rfl, ?_⟩) ?_ ?_
            rotate_left
            ·intro w'
             go_simp
             with_reducible rfl
            rotate_left
            ·simp only [Act.put, List.setIfInBounds_toArray, List.set_cons_zero, List.set_cons_succ, i64_w, i32_w]
             rfl
            refine take_ (i := 7) (N := some 52) (v := ?_) (a' := ?_) #[true, true, true, true, true, true, true, true, true, false, false, false, false] rfl rfl (take_ofW HT_.out HW_.out (by kernel_rfl)) (fun _ _ _ h => h) (Or.inl ⟨by rfl, ?_⟩) hHeld ?_ ?_
            rotate_left
            ·rintro w' ⟨s0, s1⟩
             go_simp
             with_reducible rfl
            rotate_left
            ·simp only [Act.put, List.setIfInBounds_toArray, List.set_cons_zero, List.set_cons_succ, i64_w, i32_w]
             rfl
            refine one_ (i := 9) (N := some 54) #[true, true, true, true, true, true, true, true, true, true, false, false, false] rfl rfl (one_of HT_.out (by kernel_rfl)) (by decide) (fun K hK => ?_)
            refine value_ (w1 := ?_) (v := ?_) (by rfl) rfl ?_ ?_
            rotate_left 2
            ·go_simp
             constructor
             ·rfl
             ·rfl
            refine hK.out _ _ ⟨(blk_cell (blk_alloc BK420.out _) 0).trans rfl, (World.cell?_alloc_lt _ _ _ (World.block_lt_of_cell? _ _ (hHeld.2))).trans (hHeld.2)⟩ (fun hHeld => ?_)
            clear hK K
            refine norm_ (a' := ?_) ?_ ?_
            rotate_left
            ·show Act.put _ (some 54) _ = _
             simp only [Act.put, List.setIfInBounds_toArray, List.set_cons_zero, List.set_cons_succ, i64_w, i32_w]
             rfl
            refine one_ (i := 10) (N := some 55) #[true, true, true, true, true, true, true, true, true, true, true, false, false] rfl rfl (one_of HT_.out (by kernel_rfl)) (by decide) (fun K hK => ?_)
            refine Kd.R_append_step (Kd.int .i64) w.heap.size (by rfl) (.tmp 52) (.tmp 54) 28 3 (.int .i64 0) 8 rfl Try.underlying28 info3 rfl (by decide) (by omega) (.slice A439_0 (rd_L2 y436 (ji45)).length c439_0) (rd_L2 y436 (ji45)) x7_1 [.int .i64 x7_1] (fun k_ => oki64 k_ ∨ ((fun _ => True)) k_ ∧ w63.heap.size ≤ k_) (fun _ => False) rfl rfl ?aP (fun _ hk => hk.elim) ?aF ?aO (Below.refl _ _) ?aS ?aL ?_
            (case aP => exact rfl)
            (case aF => exact (fun k_ hk => .inr ⟨trivial, hk⟩))
            (case aO => exact (by (with_reducible repeat (first | apply Kd.R_alloc | apply Kd.R_drewN | apply Kd.R_drew)); exact Kd.R_mono UU64.out (fun _ hk => .inl hk)))
            (case aS => exact (keep_size (w := w) (g := g) (row := none) (by repeat (first | (with_reducible first | exact HK.out | apply KeepBut.set_ | apply keep_drewN | apply keep_drew | apply keep_alloc | refine keep_far ?_ GW418.out _ | refine keep_far ?_ GW419.out _ | refine keep_far ?_ GW420.out _) | exact HK.out))))
            (case aL => have := LMc48.out; omega)
            intro v441 w65 ho hb hg hat
            (first | have HS1_ := cell_grown hg (hHeld.2) (by first | (rw [add_block]; exact (fun e_ => ((HL439_0.out.1 _ e_.symm).2) rfl)) | (show some (Addr.add _ _).block ≠ _; rw [add_block]; exact (fun e_ => ((HL439_0.out.1 _ e_.symm).2) rfl)) | exact (fun e_ => ((HL439_0.out.1 _ e_.symm).2) rfl)) | have HS1_ := cell_grown hg (cell_unalloc (hHeld.2) (by first | (rw [add_block]; exact Kd.S_lt HO438.out _ rfl) | (show (Addr.add _ _).block < _; rw [add_block]; exact Kd.S_lt HO438.out _ rfl) | exact Kd.S_lt HO438.out _ rfl)) (by first | (rw [add_block]; exact (fun e_ => ((HL439_0.out.1 _ e_.symm).2) rfl)) | (show some (Addr.add _ _).block ≠ _; rw [add_block]; exact (fun e_ => ((HL439_0.out.1 _ e_.symm).2) rfl)) | exact (fun e_ => ((HL439_0.out.1 _ e_.symm).2) rfl)))
            rw [← Ny440.out] at ho
            have HO442 := za (ho)
            replace BK418 := (zw BK418 hg (Kd.R_ne HL439_0.out BK418.out (by decide)))
            replace BK419 := (zw BK419 hg (Kd.R_ne HL439_0.out BK419.out (by decide)))
            replace BK420 := (zw BK420 hg (Kd.R_ne HL439_0.out BK420.out (by decide)))
            replace HI0 := za (IsS61.grown (by repeat (first | (with_reducible first | exact HI0.out | apply IsS61.alloc | apply IsS61.drewN | apply IsS61.drew | apply IsS61.set_1 | refine IsS61.far ?_ NB0_418.out _ | refine IsS61.far ?_ NB0_419.out _ | refine IsS61.far ?_ NB0_420.out _) | exact HI0.out)) hg (IsS61.own_ne HI0.out HL439_0.out (by decide)))
            replace HB := za (below_weaken (zm HB) HL.out hb)
            replace HK := za (KeepBut.trans (by repeat (first | (with_reducible first | exact HK.out | apply KeepBut.set_ | apply keep_drewN | apply keep_drew | apply keep_alloc | refine keep_far ?_ GW418.out _ | refine keep_far ?_ GW419.out _ | refine keep_far ?_ GW420.out _) | exact HK.out)) (KeepBut.of_grown hg g) (Kd.R_base2 HL439_0.out))
            replace HH64 := za (Kd.H_grown (Kd.H_widen (by repeat (first | exact HH64.out | refine Kd.H_alloc ?_ _ | refine Kd.H_drewN ?_ _ | refine Kd.H_drew ?_))) hg (fun k_ e_ => .inl (UU64.out.1 k_ e_)))
            clear HO438 UU64 HL439_0 ho hb hg hat
            have p49 : 0 ≤ ((ji45) : Int) := of_decide_eq_true (by first | (with_reducible assumption) | assumption)
            have q49 : ((ji45) : Int) < ((y436.length : Int) : Int) := of_decide_eq_true (by first | (with_reducible assumption) | assumption)
            replace p49 := eq_true p49
            replace q49 := eq_true q49
            obtain ⟨Ao68, co68, eo68⟩ := Kd.R_slice HO442.out
            (first | subst eo68 | (injection eo68 with f1_ f2_ f3_; have f4_ := f1_.symm; have f5_ := f3_.symm; clear f1_ f2_ f3_; subst f4_; subst f5_))
            obtain ⟨_, _, hraw66, _, _, hcc66, _⟩ := Kd.H_raw HH64.out (of_decide_eq_true (by first | (with_reducible assumption) | assumption)) (by have h_ : ((ji45) : Int) < ((y436.length : Int) : Int) := of_decide_eq_true (by first | (with_reducible assumption) | assumption); first | exact h_ | (have e_ := (HN64.out); omega) | simpa using h_)
            obtain ⟨_, hfr66⟩ := Kd.H_at HH64.out (of_decide_eq_true (by first | (with_reducible assumption) | assumption)) (by have h_ : ((ji45) : Int) < ((y436.length : Int) : Int) := of_decide_eq_true (by first | (with_reducible assumption) | assumption); first | exact h_ | (have e_ := (HN64.out); omega) | simpa using h_)
            have hx66_0 := hcc66 0 _ rfl
            have hf66_0 := hfr66 0
            (try simp only [Nat.add_zero] at hx66_0 hf66_0)
            (try rw [show ((Kd.slice 3 (Kd.int .i64))).sz = 1 from rfl, Nat.mul_one] at hx66_0)
            (try rw [show ((Kd.slice 3 (Kd.int .i64))).sz = 1 from rfl, Nat.mul_one] at hf66_0)
            have HP66 := Kd.S_seg0 HH64.out (of_decide_eq_true (by first | (with_reducible assumption) | assumption)) (by have h_ : ((ji45) : Int) < ((y436.length : Int) : Int) := of_decide_eq_true (by first | (with_reducible assumption) | assumption); first | exact h_ | (have e_ := (HN64.out); omega) | simpa using h_) (seg := [.slice Ao68 y440.length co68]) (j := 0) (show 1 ≤ 1 from by decide) (x' := y440) (Kd.M_row HO442.out) (fun _ hk => hk)
            (try simp only [show ((Kd.slice 3 (Kd.int .i64))).sz = 1 from rfl, Nat.mul_one, Nat.add_zero] at HP66)
            clear hcc66 hfr66
            have HN0_go64 := za (show g ≠ go64 from by have h_ := IsS61.own_ne HI0.out hraw66 (by decide); intro e_; exact h_ (by rw [e_]; rfl))
            have HNB418_go64 := za (show gb418 ≠ go64 from by have h_ := Kd.R_ne hraw66 BK418.out (by decide); intro e_; exact h_ (by rw [e_]; rfl))
            have HNB419_go64 := za (show gb419 ≠ go64 from by have h_ := Kd.R_ne hraw66 BK419.out (by decide); intro e_; exact h_ (by rw [e_]; rfl))
            have HNB420_go64 := za (show gb420 ≠ go64 from by have h_ := Kd.R_ne hraw66 BK420.out (by decide); intro e_; exact h_ (by rw [e_]; rfl))
            have HS66 := HP66.1
            rw [← Ny443.out] at HS66
            have HQ66 := za HS66
            obtain ⟨_, hgg66⟩ := Kd.R_typed hraw66 go64 rfl
            have GG66_ := za hgg66
            clear HP66 HS66 hgg66
            refine hK.out _ _ ⟨(blk_cell BK420.out 0).trans rfl, HS1_⟩ (fun hHeld => ?_)
            clear hK K
            refine norm_ (a' := ?_) ?_ ?_
            rotate_left
            ·show Act.put _ (some 55) _ = _
             simp only [Act.put, List.setIfInBounds_toArray, List.set_cons_zero, List.set_cons_succ, i64_w, i32_w]
             rfl
            refine pure_ (i := 11) (N := some 56) (v := ?_) (a' := ?_) #[true, true, true, true, true, true, true, true, true, true, true, true, false] rfl rfl (any_of HT_.out (by kernel_rfl)) (fun _ _ _ h => h) (Or.inl ⟨by rfl, ?_⟩) ?_ ?_
            rotate_left
            ·intro w'
             go_simp
             with_reducible rfl
            rotate_left
            ·simp only [Act.put, List.setIfInBounds_toArray, List.set_cons_zero, List.set_cons_succ, i64_w, i32_w]
             rfl
            refine last_ (i := 12) (N := none) #[true, true, true, true, true, true, true, true, true, true, true, true, true] rfl rfl (one_of HT_.out (by kernel_rfl)) (by decide) (fun K hK => ?_)
            refine skip_ (w1 := ?_) (by rfl) rfl ?_ ?_
            rotate_left
            ·go_simp
             rfl
            refine hK.out _ _ ?_
            clear hK K
            refine done_ (done_of HT_.out (by kernel_rfl)) ?_
            try go_wp2
            go_roundg k1
            case measure => have := HK1.out; omega
            case rel => exact ⟨(wrap64 (30 - t425)), (wrap64 (x7_1 + 1)), (t435), (y443), (.slice (some ⟨go64, 0, none⟩) y436.length co60), (by first | rfl | (simp; done) | (simp [*]; done)), (by first | rfl | (simp; done) | (simp [*]; done)), H', ⟨by have := HK1.out; omega⟩, ⟨by (with_reducible repeat (first | apply Kd.S_alloc | apply Kd.S_drewN | apply Kd.S_drew)); exact HQ66.out⟩, ⟨by (with_reducible repeat (first | refine blk_drewN ?_ _ | refine blk_drew ?_ | refine blk_alloc ?_ _)); refine blk_far ?_ HNB418_go64.out _; (with_reducible repeat (first | refine blk_drewN ?_ _ | refine blk_drew ?_ | refine blk_alloc ?_ _)); exact BK418.out⟩, ⟨by (with_reducible repeat (first | refine blk_drewN ?_ _ | refine blk_drew ?_ | refine blk_alloc ?_ _)); refine blk_far ?_ HNB419_go64.out _; (with_reducible repeat (first | refine blk_drewN ?_ _ | refine blk_drew ?_ | refine blk_alloc ?_ _)); exact BK419.out⟩, ⟨by (with_reducible repeat (first | refine blk_drewN ?_ _ | refine blk_drew ?_ | refine blk_alloc ?_ _)); refine blk_far ?_ HNB420_go64.out _; (with_reducible repeat (first | refine blk_drewN ?_ _ | refine blk_drew ?_ | refine blk_alloc ?_ _)); exact BK420.out⟩, ⟨by repeat (first | (with_reducible first | exact HI0.out | apply IsS61.alloc | apply IsS61.drewN | apply IsS61.drew | apply IsS61.set_1 | refine IsS61.far ?_ HN0_go64.out _ | refine IsS61.far ?_ NB0_418.out _ | refine IsS61.far ?_ NB0_419.out _ | refine IsS61.far ?_ NB0_420.out _) | exact HI0.out)⟩, ⟨by repeat (first | (with_reducible first | exact HK.out | apply KeepBut.set_ | apply keep_drewN | apply keep_drew | apply keep_alloc | refine keep_far ?_ GB64.out _ | refine keep_far ?_ GW418.out _ | refine keep_far ?_ GW419.out _ | refine keep_far ?_ GW420.out _) | exact HK.out)⟩, ⟨by repeat (first | (with_reducible first | exact HB.out | apply below_alloc | apply pw_below_drewN | apply below_drew1 | refine below_set ?_ (Nat.le_trans HL.out GB64.out) | refine below_set ?_ (IsS61.ge HI0.out) | refine below_set ?_ GE418.out | refine below_set ?_ GE419.out | refine below_set ?_ GE420.out) | exact HB.out)⟩⟩
           ·rw [if_neg c48] at H
            exact absurd H (by simp)
          ·rw [if_neg c47] at H
           exact absurd H (by simp)
         ·rw [if_neg c46] at H
          exact absurd H (by simp)
        ·rw [if_neg c44] at H
         exact absurd H (by simp)
       ·replace c43 := Bool.eq_false_iff.mpr c43
        subst c43
        have H1 : (if 0 ≤ (wrap64 ((x421000_1.length : Int) - 1)) then (if (wrap64 ((x421000_1.length : Int) - 1)) < (x421000_1.length : Int) then (if (rd_L2 x421000_1 (wrap64 ((x421000_1.length : Int) - 1))).length < 17592186044416 then (awardingbodylaw12_shaped.l0 k1 (wrap64 (x6_1 - t425)) (wrap64 (x7_1 + 1)) s0_0 t435 a1_0 a1_1 l1_2 (x421000_1.set ((wrap64 ((x421000_1.length : Int) - 1)) : Int).toNat ((rd_L2 x421000_1 (wrap64 ((x421000_1.length : Int) - 1))) ++ [x7_1]))) else (none)) else (none)) else (none)) = some (r1, r2) := by rw [if_neg (show ¬ (false = true) by decide)] at H; exact H
        clear H
        have H := H1
        clear H1
        obtain ⟨ji69, hji69⟩ : ∃ j_ : Int, (wrap64 ((x421000_1.length : Int) - 1)) = j_ := ⟨_, rfl⟩
        replace H : (if 0 ≤ (ji69) then (if (ji69) < (x421000_1.length : Int) then (if (rd_L2 x421000_1 (ji69)).length < 17592186044416 then (awardingbodylaw12_shaped.l0 k1 (wrap64 (x6_1 - t425)) (wrap64 (x7_1 + 1)) s0_0 t435 a1_0 a1_1 l1_2 (x421000_1.set ((ji69) : Int).toNat ((rd_L2 x421000_1 (ji69)) ++ [x7_1]))) else (none)) else (none)) else (none)) = some (r1, r2) := by first | (rw [hji69] at H; exact H) | (simp only [hji69] at H ⊢; exact H)
        (try rw [hji69] at A16)
        (try rw [hji69] at A42)
        have hji69w : (IntKind.i64.wrap ((x421000_1.length : Int) - 1)) = ji69 := (i64_w _).trans hji69
        by_cases c70 : 0 ≤ (ji69)
        ·rw [if_pos c70] at H
         have c70b0 : decide (0 ≤ (ji69)) = true := decide_eq_true c70
         clear c70
         by_cases c71 : (ji69) < (x421000_1.length : Int)
         ·rw [if_pos c71] at H
          have c71b0 : decide ((ji69) < (x421000_1.length : Int)) = true := decide_eq_true c71
          clear c71
          by_cases c72 : (rd_L2 x421000_1 (ji69)).length < 17592186044416
          ·rw [if_pos c72] at H
           have LMc72 := za c72
           clear c72
           obtain ⟨y445, hy445⟩ : ∃ y_ : List Int, y_ = ((rd_L2 x421000_1 (ji69)) ++ [x7_1]) := ⟨_, rfl⟩
           replace H : (awardingbodylaw12_shaped.l0 k1 (wrap64 (x6_1 - t425)) (wrap64 (x7_1 + 1)) s0_0 t435 a1_0 a1_1 l1_2 (x421000_1.set ((ji69) : Int).toNat y445)) = some (r1, r2) := by first | (rw [hy445]; with_reducible exact H) | (have H2_ := (Option.bind_some _ _).symm.trans H; rw [hy445]; with_reducible exact H2_) | (have H2_ := (Option.bind_some _ _).symm.trans H; with_reducible exact H2_) | with_reducible exact H | (rw [hy445]; exact H) | exact H
           have Ny445 := za hy445
           clear hy445
           obtain ⟨y448, hy448⟩ : ∃ y_ : List (List Int), y_ = (x421000_1.set ((ji69) : Int).toNat y445) := ⟨_, rfl⟩
           replace H : (awardingbodylaw12_shaped.l0 k1 (wrap64 (x6_1 - t425)) (wrap64 (x7_1 + 1)) s0_0 t435 a1_0 a1_1 l1_2 y448) = some (r1, r2) := by first | (rw [hy448]; with_reducible exact H) | (have H2_ := (Option.bind_some _ _).symm.trans H; rw [hy448]; with_reducible exact H2_) | (have H2_ := (Option.bind_some _ _).symm.trans H; with_reducible exact H2_) | with_reducible exact H | (rw [hy448]; exact H) | exact H
           have Ny448 := za hy448
           clear hy448
           have H' := za H
           clear H
           have hnb74 := NB418_419.out
           have hnc74 := NB419_418.out
           have hnb75 := NB418_420.out
           have hnc75 := NB420_418.out
           have hnb76 := NB418_0.out
           have hnc76 := NB0_418.out
           obtain ⟨hcz77_0, hcz77_1, hcz77_2, hfz77_0, hfz77_1, hfz77_2⟩ := z3 BK418
           have p424 : 0 ≤ (x7_1 : Int) := of_decide_eq_true (by first | (with_reducible assumption) | assumption)
           have q424 : x7_1 < (l1_2.length : Int) := of_decide_eq_true (by first | (with_reducible assumption) | assumption)
           obtain ⟨ad424, e424, hx424_0, hx424_1, hx424_2, hx424_3, hx424_4, hx424_5⟩ := at_T23 (Kd.C_foot_now HR1_2.out HK.out) x7_1 p424 q424
           cases e424
           replace p424 := eq_true p424
           replace q424 := eq_true q424
           try go_wp2_with (first | ((with_reducible refine gate_callee (f := 13) rfl ?_); refine zL (some 28) Try.func13 #[.agg #[.int .i64 ((rd_T23 l1_2 x7_1).f0), .int .i64 ((rd_T23 l1_2 x7_1).f1), .int .i64 ((rd_T23 l1_2 x7_1).f2), .int .i64 ((rd_T23 l1_2 x7_1).f3), .int .i64 ((rd_T23 l1_2 x7_1).f4), .int .i64 ((rd_T23 l1_2 x7_1).f5)]] ?_; (with_reducible refine (awardingbodyref12_Need.calls k1 ((rd_T23 l1_2 x7_1).f0) ((rd_T23 l1_2 x7_1).f1) ((rd_T23 l1_2 x7_1).f2) ((rd_T23 l1_2 x7_1).f3) ((rd_T23 l1_2 x7_1).f4) ((rd_T23 l1_2 x7_1).f5) t425 _ A16.out).mono ?_); rintro e w78 ⟨rfl, hb⟩; refine ⟨_, rfl, ?_⟩; replace HO_421000 := zS HO_421000 hb; replace BK418 := zb BK418 hb; replace BK419 := zb BK419 hb; replace BK420 := zb BK420 hb; replace HI0 := za (IsS61.below (by repeat (first | (with_reducible first | exact HI0.out | apply IsS61.alloc | apply IsS61.drewN | apply IsS61.drew | apply IsS61.set_1 | refine IsS61.far ?_ NB0_418.out _ | refine IsS61.far ?_ NB0_419.out _ | refine IsS61.far ?_ NB0_420.out _) | exact HI0.out)) hb); replace HK := zu HK hb; replace HB := zs HB hb; (try clear hb); (try clear hb2); (try clear hk); (try clear hi)) | (go_at_call 35; (with_reducible refine (awardingbodymake_Tape_One.calls g s0_0 x1001_1 4 false t435 w0 _ ?side1 ?side2 A42.out).mono ?_); (case side1 => exact (by repeat (first | (with_reducible first | exact HI0.out | apply IsS61.alloc | apply IsS61.drewN | apply IsS61.drew | apply IsS61.set_1 | refine IsS61.far ?_ NB0_418.out _ | refine IsS61.far ?_ NB0_419.out _ | refine IsS61.far ?_ NB0_420.out _) | exact HI0.out))); (case side2 => exact (by repeat (first | (with_reducible first | exact HB.out | apply below_alloc | apply pw_below_drewN | apply below_drew1 | refine below_set ?_ (IsS61.ge HI0.out) | refine below_set ?_ GE418.out | refine below_set ?_ GE419.out | refine below_set ?_ GE420.out) | exact HB.out))); rintro e w79 ⟨rfl, hi, hb, hk⟩; replace HO_421000 := za (Kd.S_mono (Kd.S_keep (IsS61.apartS (show IsS61 w0 _ g s0_0 x1001_1 from by repeat (first | (with_reducible first | exact HI0.out | apply IsS61.alloc | apply IsS61.drewN | apply IsS61.drew | apply IsS61.set_1 | refine IsS61.far ?_ NB0_418.out _ | refine IsS61.far ?_ NB0_419.out _ | refine IsS61.far ?_ NB0_420.out _) | exact HI0.out)) (by (with_reducible repeat (first | apply Kd.S_alloc | apply Kd.S_drewN | apply Kd.S_drew)); exact HO_421000.out) (by decide)) hk (fun _ h => h.2)) (fun _ h => h.1)); replace BK418 := zk hk BK418 NB418_0; replace BK419 := zk hk BK419 NB419_0; replace BK420 := zk hk BK420 NB420_0; replace HK := zt HK hk; replace HB := za (hb); replace HI0 := za (hi); (try clear hb); (try clear hb2); (try clear hk); (try clear hi); have hnb80 := NB420_419.out; have hnc80 := NB419_420.out; have hnb81 := NB420_0.out; have hnc81 := NB0_420.out; obtain ⟨hcz82_0, hfz82_0⟩ := z1 BK420; obtain ⟨Ao83, co83, eo83⟩ := Kd.S_slice HO_421000.out; subst eo83))
           replace HO_421000 := za (Kd.S_drew HO_421000.out)
           replace BK418 := za (blk_drew BK418.out)
           replace BK419 := za (blk_drew BK419.out)
           replace BK420 := za (blk_drew BK420.out)
           replace HI0 := za (IsS61.drew HI0.out)
           replace HK := za (keep_drew HK.out)
           replace HB := za (below_drew1 HB.out)
           have p444 : 0 ≤ ((ji69) : Int) := of_decide_eq_true (by first | (with_reducible assumption) | assumption)
           have q444 : (ji69) < (x421000_1.length : Int) := of_decide_eq_true (by first | (with_reducible assumption) | assumption)
           obtain ⟨ad444, A444_0, c444_0, e444, hx444_0, hl444_0, hi444_0⟩ := at_L2 (Kd.S_reads' HO_421000.out).2.2 (ji69) p444 q444
           cases e444
           obtain ⟨ce444, hce444, hMe444, hcc444⟩ := Kd.S_get HO_421000.out [] (ji69) p444 (by first | exact q444 | exact of_decide_eq_true (by first | (with_reducible assumption) | assumption) | (have e_ := (Kd.S_reads' HO_421000.out).1; omega))
           obtain ⟨ve444_0, rfl, ge444_0⟩ := hMe444
           have hv444_0 := hcc444 0 _ rfl
           rw [Nat.add_zero, show ((Kd.slice 3 (Kd.int .i64))).sz = 1 from rfl, Nat.mul_one] at hv444_0
           replace hv444_0 := Option.some.inj (hv444_0.symm.trans hx444_0)
           rw [hv444_0] at ge444_0
           have HL444_0 := za (show Kd.R (Kd.int .i64) 3 _ _ _ _ (rd_L2 x421000_1 (ji69)) from ge444_0)
           clear hv444_0 ge444_0
           have HX444_0 := za hx444_0
           clear hcc444 hce444
           have HR444_0 := za hi444_0
           have HC444_0 := za hl444_0
           clear hi444_0 hl444_0
           replace p444 := eq_true p444
           replace q444 := eq_true q444
           obtain ⟨go85, co85, eo85, gb85, gl85, cl85, HG85⟩ := Kd.S_form HO_421000.out (by have h_ : ((ji69) : Int) < ((x421000_1.length : Int) : Int) := of_decide_eq_true (by first | (with_reducible assumption) | assumption); have h2_ : 0 ≤ ((ji69) : Int) := (of_decide_eq_true (by first | (with_reducible assumption) | assumption)); omega)
           (first | cases eo85 | (injection eo85 with ea_ en_ ec_; (first | subst ea_ | (injection ea_ with ea_; subst ea_)); subst ec_; clear en_))
           have GB85 := za gb85
           have GG85 := za HG85
           clear gb85 gl85 HG85
           (first | simp only [add_plain] at hx444_0 | skip)
           obtain ⟨oki85, ce85, hcl85, hM85, hcc85, _, _, hH85⟩ := Kd.S_elem HO_421000.out [] ((ji69) : Int) (of_decide_eq_true (by first | (with_reducible assumption) | assumption)) (by have h_ : ((ji69) : Int) < ((x421000_1.length : Int) : Int) := of_decide_eq_true (by first | (with_reducible assumption) | assumption); first | exact h_ | (have e_ := (Kd.S_reads' HO_421000.out).1; omega) | simpa using h_)
           obtain ⟨ve85_0, rfl, ge85_0⟩ := hM85
           have hv85 := hcc85 0 _ rfl
           have hX85 := HX444_0.out
           (try simp only [add_plain] at hX85)
           (try simp only [Nat.add_zero] at hv85)
           (try rw [show ((Kd.slice 3 (Kd.int .i64))).sz = 1 from rfl, Nat.mul_one] at hv85)
           replace hv85 := Option.some.inj (hv85.symm.trans hX85)
           subst hv85
           clear hX85 hcc85 hcl85
           have UU85 := za (show Kd.R (Kd.int .i64) 3 _ w.heap.size oki85 (.slice A444_0 (rd_L2 x421000_1 (ji69)).length c444_0) (rd_L2 x421000_1 (ji69)) from ge85_0)
           have HH85 := za hH85
           have HN85 := za (Kd.S_reads' HO_421000.out).1
           clear hH85 ge85_0
           refine start_ (n := 13) (S := fun w' => w'.cell? ⟨gb420, 0, none⟩ = some (.slice (some ⟨go85, 0, none⟩) x421000_1.length co83) ∧ w'.cell? ⟨go85, ((ji69)).toNat, none⟩ = some (.slice A444_0 (rd_L2 x421000_1 (ji69)).length c444_0)) (ds := [12]) #[false, false, false, false, false, false, false, false, false, false, false, false, false] (by kernel_rfl) rfl rfl ⟨(blk_cell BK420.out 0).trans rfl, hx444_0⟩ (fun hHeld => ?_); refine with_tabW awardingbodylaw12_shaped.tab12 awardingbodylaw12_shaped.bits12 (fun HT_ HW_ => ?_)
           generalize w79.drew = w84 at HO_421000 BK418 BK419 BK420 HI0 HK HB GG85 HH85 HL444_0 HR444_0 HX444_0 UU85 hx444_0 hHeld ⊢
           refine pure_ (i := 0) (N := some 45) (v := ?_) (a' := ?_) #[true, false, false, false, false, false, false, false, false, false, false, false, false] rfl rfl (any_of HT_.out (by kernel_rfl)) (fun _ _ _ h => h) (Or.inl ⟨by rfl, ?_⟩) ?_ ?_
           rotate_left
           ·intro w'
            go_simp
            with_reducible rfl
           rotate_left
           ·simp only [Act.put, List.setIfInBounds_toArray, List.set_cons_zero, List.set_cons_succ, i64_w, i32_w]
            rfl
           refine pure_ (i := 2) (N := some 47) (v := ?_) (a' := ?_) #[true, false, true, false, false, false, false, false, false, false, false, false, false] rfl rfl (any_of HT_.out (by kernel_rfl)) (fun _ _ _ h => h) (Or.inl ⟨by rfl, ?_⟩) ?_ ?_
           rotate_left
           ·intro w'
            go_simp
            with_reducible rfl
           rotate_left
           ·simp only [Act.put, List.setIfInBounds_toArray, List.set_cons_zero, List.set_cons_succ, i64_w, i32_w]
            rfl
           refine pure_ (i := 3) (N := some 48) (v := ?_) (a' := ?_) #[true, false, true, true, false, false, false, false, false, false, false, false, false] rfl rfl (any_of HT_.out (by kernel_rfl)) (fun _ _ _ h => h) (Or.inl ⟨by rfl, ?_⟩) ?_ ?_
           rotate_left
           ·intro w'
            go_simp
            with_reducible rfl
           rotate_left
           ·simp only [Act.put, List.setIfInBounds_toArray, List.set_cons_zero, List.set_cons_succ, i64_w, i32_w]
            rfl
           refine pure_ (i := 5) (N := some 50) (v := ?_) (a' := ?_) #[true, false, true, true, false, true, false, false, false, false, false, false, false] rfl rfl (any_of HT_.out (by kernel_rfl)) (fun _ _ _ h => h) (Or.inl ⟨by rfl, ?_⟩) ?_ ?_
           rotate_left
           ·intro w'
            go_simp
            with_reducible rfl
           rotate_left
           ·simp only [Act.put, List.setIfInBounds_toArray, List.set_cons_zero, List.set_cons_succ, i64_w, i32_w]
            rfl
           refine pure_ (i := 8) (N := some 53) (v := ?_) (a' := ?_) #[true, false, true, true, false, true, false, false, true, false, false, false, false] rfl rfl (any_of HT_.out (by kernel_rfl)) (fun _ _ _ h => h) (Or.inl ⟨by rfl, ?_⟩) ?_ ?_
           rotate_left
           ·intro w'
            go_simp
            with_reducible rfl
           rotate_left
           ·simp only [Act.put, List.setIfInBounds_toArray, List.set_cons_zero, List.set_cons_succ, i64_w, i32_w]
            rfl
           refine take_ (i := 1) (N := some 46) (v := ?_) (a' := ?_) #[true, true, true, true, false, true, false, false, true, false, false, false, false] rfl rfl (take_ofW HT_.out HW_.out (by kernel_rfl)) (fun _ _ _ h => h) (Or.inl ⟨by rfl, ?_⟩) hHeld ?_ ?_
           rotate_left
           ·rintro w' ⟨s0, s1⟩
            go_simp
            with_reducible rfl
           rotate_left
           ·simp only [Act.put, List.setIfInBounds_toArray, List.set_cons_zero, List.set_cons_succ, i64_w, i32_w]
            rfl
           refine take_ (i := 4) (N := some 49) (v := ?_) (a' := ?_) #[true, true, true, true, true, true, false, false, true, false, false, false, false] rfl rfl (take_ofW HT_.out HW_.out (by kernel_rfl)) (fun _ _ _ h => h) (Or.inl ⟨by rfl, ?_⟩) hHeld ?_ ?_
           rotate_left
           ·rintro w' ⟨s0, s1⟩
            go_simp
            with_reducible rfl
           rotate_left
           ·simp only [Act.put, List.setIfInBounds_toArray, List.set_cons_zero, List.set_cons_succ, i64_w, i32_w]
            rfl
           refine pure_ (i := 6) (N := some 51) (v := ?_) (a' := ?_) #[true, true, true, true, true, true, true, false, true, false, false, false, false] rfl rfl (any_of HT_.out (by kernel_rfl)) (fun _ _ _ h => h) (Or.inl ⟨by rfl, ?_⟩) ?_ ?_
           rotate_left
           ·intro w'
            go_simp
            with_reducible rfl
           rotate_left
           ·simp only [Act.put, List.setIfInBounds_toArray, List.set_cons_zero, List.set_cons_succ, i64_w, i32_w]
            rfl
           refine take_ (i := 7) (N := some 52) (v := ?_) (a' := ?_) #[true, true, true, true, true, true, true, true, true, false, false, false, false] rfl rfl (take_ofW HT_.out HW_.out (by kernel_rfl)) (fun _ _ _ h => h) (Or.inl ⟨by rfl, ?_⟩) hHeld ?_ ?_
           rotate_left
           ·rintro w' ⟨s0, s1⟩
            go_simp
            with_reducible rfl
           rotate_left
           ·simp only [Act.put, List.setIfInBounds_toArray, List.set_cons_zero, List.set_cons_succ, i64_w, i32_w]
            rfl
           refine one_ (i := 9) (N := some 54) #[true, true, true, true, true, true, true, true, true, true, false, false, false] rfl rfl (one_of HT_.out (by kernel_rfl)) (by decide) (fun K hK => ?_)
           refine value_ (w1 := ?_) (v := ?_) (by rfl) rfl ?_ ?_
           rotate_left 2
           ·go_simp
            constructor
            ·rfl
            ·rfl
           refine hK.out _ _ ⟨(blk_cell (blk_alloc BK420.out _) 0).trans rfl, (World.cell?_alloc_lt _ _ _ (World.block_lt_of_cell? _ _ (hHeld.2))).trans (hHeld.2)⟩ (fun hHeld => ?_)
           clear hK K
           refine norm_ (a' := ?_) ?_ ?_
           rotate_left
           ·show Act.put _ (some 54) _ = _
            simp only [Act.put, List.setIfInBounds_toArray, List.set_cons_zero, List.set_cons_succ, i64_w, i32_w]
            rfl
           refine one_ (i := 10) (N := some 55) #[true, true, true, true, true, true, true, true, true, true, true, false, false] rfl rfl (one_of HT_.out (by kernel_rfl)) (by decide) (fun K hK => ?_)
           refine Kd.R_append_step (Kd.int .i64) w.heap.size (by rfl) (.tmp 52) (.tmp 54) 28 3 (.int .i64 0) 8 rfl Try.underlying28 info3 rfl (by decide) (by omega) (.slice A444_0 (rd_L2 x421000_1 (ji69)).length c444_0) (rd_L2 x421000_1 (ji69)) x7_1 [.int .i64 x7_1] (fun k_ => oki85 k_ ∨ ((fun _ => True)) k_ ∧ w84.heap.size ≤ k_) (fun _ => False) rfl rfl ?aP (fun _ hk => hk.elim) ?aF ?aO (Below.refl _ _) ?aS ?aL ?_
           (case aP => exact rfl)
           (case aF => exact (fun k_ hk => .inr ⟨trivial, hk⟩))
           (case aO => exact (by (with_reducible repeat (first | apply Kd.R_alloc | apply Kd.R_drewN | apply Kd.R_drew)); exact Kd.R_mono UU85.out (fun _ hk => .inl hk)))
           (case aS => exact (keep_size (w := w) (g := g) (row := none) (by repeat (first | (with_reducible first | exact HK.out | apply KeepBut.set_ | apply keep_drewN | apply keep_drew | apply keep_alloc | refine keep_far ?_ GW418.out _ | refine keep_far ?_ GW419.out _ | refine keep_far ?_ GW420.out _) | exact HK.out))))
           (case aL => have := LMc72.out; omega)
           intro v446 w86 ho hb hg hat
           (first | have HS1_ := cell_grown hg (hHeld.2) (by first | (rw [add_block]; exact (fun e_ => ((HL444_0.out.1 _ e_.symm).2) rfl)) | (show some (Addr.add _ _).block ≠ _; rw [add_block]; exact (fun e_ => ((HL444_0.out.1 _ e_.symm).2) rfl)) | exact (fun e_ => ((HL444_0.out.1 _ e_.symm).2) rfl)) | have HS1_ := cell_grown hg (cell_unalloc (hHeld.2) (by first | (rw [add_block]; exact Kd.S_lt HO_421000.out _ rfl) | (show (Addr.add _ _).block < _; rw [add_block]; exact Kd.S_lt HO_421000.out _ rfl) | exact Kd.S_lt HO_421000.out _ rfl)) (by first | (rw [add_block]; exact (fun e_ => ((HL444_0.out.1 _ e_.symm).2) rfl)) | (show some (Addr.add _ _).block ≠ _; rw [add_block]; exact (fun e_ => ((HL444_0.out.1 _ e_.symm).2) rfl)) | exact (fun e_ => ((HL444_0.out.1 _ e_.symm).2) rfl)))
           rw [← Ny445.out] at ho
           have HO447 := za (ho)
           replace BK418 := (zw BK418 hg (Kd.R_ne HL444_0.out BK418.out (by decide)))
           replace BK419 := (zw BK419 hg (Kd.R_ne HL444_0.out BK419.out (by decide)))
           replace BK420 := (zw BK420 hg (Kd.R_ne HL444_0.out BK420.out (by decide)))
           replace HI0 := za (IsS61.grown (by repeat (first | (with_reducible first | exact HI0.out | apply IsS61.alloc | apply IsS61.drewN | apply IsS61.drew | apply IsS61.set_1 | refine IsS61.far ?_ NB0_418.out _ | refine IsS61.far ?_ NB0_419.out _ | refine IsS61.far ?_ NB0_420.out _) | exact HI0.out)) hg (IsS61.own_ne HI0.out HL444_0.out (by decide)))
           replace HB := za (below_weaken (zm HB) HL.out hb)
           replace HK := za (KeepBut.trans (by repeat (first | (with_reducible first | exact HK.out | apply KeepBut.set_ | apply keep_drewN | apply keep_drew | apply keep_alloc | refine keep_far ?_ GW418.out _ | refine keep_far ?_ GW419.out _ | refine keep_far ?_ GW420.out _) | exact HK.out)) (KeepBut.of_grown hg g) (Kd.R_base2 HL444_0.out))
           replace HH85 := za (Kd.H_grown (Kd.H_widen (by repeat (first | exact HH85.out | refine Kd.H_alloc ?_ _ | refine Kd.H_drewN ?_ _ | refine Kd.H_drew ?_))) hg (fun k_ e_ => .inl (UU85.out.1 k_ e_)))
           clear HO_421000 UU85 HL444_0 ho hb hg hat
           have p73 : 0 ≤ ((ji69) : Int) := of_decide_eq_true (by first | (with_reducible assumption) | assumption)
           have q73 : ((ji69) : Int) < ((x421000_1.length : Int) : Int) := of_decide_eq_true (by first | (with_reducible assumption) | assumption)
           replace p73 := eq_true p73
           replace q73 := eq_true q73
           obtain ⟨Ao89, co89, eo89⟩ := Kd.R_slice HO447.out
           (first | subst eo89 | (injection eo89 with f1_ f2_ f3_; have f4_ := f1_.symm; have f5_ := f3_.symm; clear f1_ f2_ f3_; subst f4_; subst f5_))
           obtain ⟨_, _, hraw87, _, _, hcc87, _⟩ := Kd.H_raw HH85.out (of_decide_eq_true (by first | (with_reducible assumption) | assumption)) (by have h_ : ((ji69) : Int) < ((x421000_1.length : Int) : Int) := of_decide_eq_true (by first | (with_reducible assumption) | assumption); first | exact h_ | (have e_ := (HN85.out); omega) | simpa using h_)
           obtain ⟨_, hfr87⟩ := Kd.H_at HH85.out (of_decide_eq_true (by first | (with_reducible assumption) | assumption)) (by have h_ : ((ji69) : Int) < ((x421000_1.length : Int) : Int) := of_decide_eq_true (by first | (with_reducible assumption) | assumption); first | exact h_ | (have e_ := (HN85.out); omega) | simpa using h_)
           have hx87_0 := hcc87 0 _ rfl
           have hf87_0 := hfr87 0
           (try simp only [Nat.add_zero] at hx87_0 hf87_0)
           (try rw [show ((Kd.slice 3 (Kd.int .i64))).sz = 1 from rfl, Nat.mul_one] at hx87_0)
           (try rw [show ((Kd.slice 3 (Kd.int .i64))).sz = 1 from rfl, Nat.mul_one] at hf87_0)
           have HP87 := Kd.S_seg0 HH85.out (of_decide_eq_true (by first | (with_reducible assumption) | assumption)) (by have h_ : ((ji69) : Int) < ((x421000_1.length : Int) : Int) := of_decide_eq_true (by first | (with_reducible assumption) | assumption); first | exact h_ | (have e_ := (HN85.out); omega) | simpa using h_) (seg := [.slice Ao89 y445.length co89]) (j := 0) (show 1 ≤ 1 from by decide) (x' := y445) (Kd.M_row HO447.out) (fun _ hk => hk)
           (try simp only [show ((Kd.slice 3 (Kd.int .i64))).sz = 1 from rfl, Nat.mul_one, Nat.add_zero] at HP87)
           clear hcc87 hfr87
           have HN0_go85 := za (show g ≠ go85 from by have h_ := IsS61.own_ne HI0.out hraw87 (by decide); intro e_; exact h_ (by rw [e_]; rfl))
           have HNB418_go85 := za (show gb418 ≠ go85 from by have h_ := Kd.R_ne hraw87 BK418.out (by decide); intro e_; exact h_ (by rw [e_]; rfl))
           have HNB419_go85 := za (show gb419 ≠ go85 from by have h_ := Kd.R_ne hraw87 BK419.out (by decide); intro e_; exact h_ (by rw [e_]; rfl))
           have HNB420_go85 := za (show gb420 ≠ go85 from by have h_ := Kd.R_ne hraw87 BK420.out (by decide); intro e_; exact h_ (by rw [e_]; rfl))
           have HS87 := HP87.1
           rw [← Ny448.out] at HS87
           have HQ87 := za HS87
           obtain ⟨_, hgg87⟩ := Kd.R_typed hraw87 go85 rfl
           have GG87_ := za hgg87
           clear HP87 HS87 hgg87
           refine hK.out _ _ ⟨(blk_cell BK420.out 0).trans rfl, HS1_⟩ (fun hHeld => ?_)
           clear hK K
           refine norm_ (a' := ?_) ?_ ?_
           rotate_left
           ·show Act.put _ (some 55) _ = _
            simp only [Act.put, List.setIfInBounds_toArray, List.set_cons_zero, List.set_cons_succ, i64_w, i32_w]
            rfl
           refine pure_ (i := 11) (N := some 56) (v := ?_) (a' := ?_) #[true, true, true, true, true, true, true, true, true, true, true, true, false] rfl rfl (any_of HT_.out (by kernel_rfl)) (fun _ _ _ h => h) (Or.inl ⟨by rfl, ?_⟩) ?_ ?_
           rotate_left
           ·intro w'
            go_simp
            with_reducible rfl
           rotate_left
           ·simp only [Act.put, List.setIfInBounds_toArray, List.set_cons_zero, List.set_cons_succ, i64_w, i32_w]
            rfl
           refine last_ (i := 12) (N := none) #[true, true, true, true, true, true, true, true, true, true, true, true, true] rfl rfl (one_of HT_.out (by kernel_rfl)) (by decide) (fun K hK => ?_)
           refine skip_ (w1 := ?_) (by rfl) rfl ?_ ?_
           rotate_left
           ·go_simp
            rfl
           refine hK.out _ _ ?_
           clear hK K
           refine done_ (done_of HT_.out (by kernel_rfl)) ?_
           try go_wp2
           go_roundg k1
           case measure => have := HK1.out; omega
           case rel => exact ⟨(wrap64 (x6_1 - t425)), (wrap64 (x7_1 + 1)), (t435), (y448), (.slice (some ⟨go85, 0, none⟩) x421000_1.length co83), (by first | rfl | (simp; done) | (simp [*]; done)), (by first | rfl | (simp; done) | (simp [*]; done)), H', ⟨by have := HK1.out; omega⟩, ⟨by (with_reducible repeat (first | apply Kd.S_alloc | apply Kd.S_drewN | apply Kd.S_drew)); exact HQ87.out⟩, ⟨by (with_reducible repeat (first | refine blk_drewN ?_ _ | refine blk_drew ?_ | refine blk_alloc ?_ _)); refine blk_far ?_ HNB418_go85.out _; (with_reducible repeat (first | refine blk_drewN ?_ _ | refine blk_drew ?_ | refine blk_alloc ?_ _)); exact BK418.out⟩, ⟨by (with_reducible repeat (first | refine blk_drewN ?_ _ | refine blk_drew ?_ | refine blk_alloc ?_ _)); refine blk_far ?_ HNB419_go85.out _; (with_reducible repeat (first | refine blk_drewN ?_ _ | refine blk_drew ?_ | refine blk_alloc ?_ _)); exact BK419.out⟩, ⟨by (with_reducible repeat (first | refine blk_drewN ?_ _ | refine blk_drew ?_ | refine blk_alloc ?_ _)); refine blk_far ?_ HNB420_go85.out _; (with_reducible repeat (first | refine blk_drewN ?_ _ | refine blk_drew ?_ | refine blk_alloc ?_ _)); exact BK420.out⟩, ⟨by repeat (first | (with_reducible first | exact HI0.out | apply IsS61.alloc | apply IsS61.drewN | apply IsS61.drew | apply IsS61.set_1 | refine IsS61.far ?_ HN0_go85.out _ | refine IsS61.far ?_ NB0_418.out _ | refine IsS61.far ?_ NB0_419.out _ | refine IsS61.far ?_ NB0_420.out _) | exact HI0.out)⟩, ⟨by repeat (first | (with_reducible first | exact HK.out | apply KeepBut.set_ | apply keep_drewN | apply keep_drew | apply keep_alloc | refine keep_far ?_ GB85.out _ | refine keep_far ?_ GW418.out _ | refine keep_far ?_ GW419.out _ | refine keep_far ?_ GW420.out _) | exact HK.out)⟩, ⟨by repeat (first | (with_reducible first | exact HB.out | apply below_alloc | apply pw_below_drewN | apply below_drew1 | refine below_set ?_ (Nat.le_trans HL.out GB85.out) | refine below_set ?_ (IsS61.ge HI0.out) | refine below_set ?_ GE418.out | refine below_set ?_ GE419.out | refine below_set ?_ GE420.out) | exact HB.out)⟩⟩
          ·rw [if_neg c72] at H
           exact absurd H (by simp)
         ·rw [if_neg c71] at H
          exact absurd H (by simp)
        ·rw [if_neg c70] at H
         exact absurd H (by simp)
     ·rw [if_neg c15] at H
      exact absurd H (by simp)
    ·rw [if_neg c14] at H
     have c14b0 : decide (x7_1 < (l1_2.length : Int)) = false := decide_eq_false c14
     clear c14
     have H' := za H
     clear H
     have hnb90 := NB418_419.out
     have hnc90 := NB419_418.out
     have hnb91 := NB418_420.out
     have hnc91 := NB420_418.out
     have hnb92 := NB418_0.out
     have hnc92 := NB0_418.out
     obtain ⟨hcz93_0, hcz93_1, hcz93_2, hfz93_0, hfz93_1, hfz93_2⟩ := z3 BK418
     go_wp2
     go_loopg [] k1 (fun kq w' => ∃ (x421000_2 : List (List Int)) (u421000 : Value), Aside0 (awardingbodylaw12_shaped.l1 kq s0_0 x1001_1 a1_0 a1_1 l1_2 x421000_2 = some (r1, r2)) ∧ Aside0 (kq ≤ k1) ∧ Aside0 (Kd.S (Kd.slice 3 (Kd.int .i64)) 28 w' w.heap.size (fun _ => True) u421000 x421000_2) ∧ Aside0 (w'.heap[gb418]? = some (.cells #[.int .i64 a1_0, .int .i64 a1_1, (.slice A1_2 l1_2.length c1_2)] 33 (0, 0))) ∧ Aside0 (w'.heap[gb419]? = some (.cells #[(.slice none 0 0)] 38 (0, 0))) ∧ Aside0 (w'.heap[gb420]? = some (.cells #[u421000] 38 (0, 0))) ∧ Aside0 (IsS61 w0 w' g s0_0 x1001_1) ∧ Aside0 (KeepBut w w' g none) ∧ Aside0 (Below w0.heap.size w0 w'))
     case atStart => exact ⟨(x421000_1), (u421000), H', ⟨Nat.le_refl _⟩, ⟨by (with_reducible repeat (first | apply Kd.S_alloc | apply Kd.S_drewN | apply Kd.S_drew)); exact HO_421000.out⟩, ⟨by (with_reducible repeat (first | refine blk_drewN ?_ _ | refine blk_drew ?_ | refine blk_alloc ?_ _)); exact BK418.out⟩, ⟨by (with_reducible repeat (first | refine blk_drewN ?_ _ | refine blk_drew ?_ | refine blk_alloc ?_ _)); exact BK419.out⟩, ⟨by (with_reducible repeat (first | refine blk_drewN ?_ _ | refine blk_drew ?_ | refine blk_alloc ?_ _)); exact BK420.out⟩, ⟨by repeat (first | (with_reducible first | exact HI0.out | apply IsS61.alloc | apply IsS61.drewN | apply IsS61.drew | apply IsS61.set_1 | refine IsS61.far ?_ NB0_418.out _ | refine IsS61.far ?_ NB0_419.out _ | refine IsS61.far ?_ NB0_420.out _) | exact HI0.out)⟩, ⟨by repeat (first | (with_reducible first | exact HK.out | apply KeepBut.set_ | apply keep_drewN | apply keep_drew | apply keep_alloc | refine keep_far ?_ GW418.out _ | refine keep_far ?_ GW419.out _ | refine keep_far ?_ GW420.out _) | exact HK.out)⟩, ⟨zm HB⟩⟩
     case round =>
      clear H'
      try clear c1
      try clear p2
      try clear c4
      try clear p4
      try clear q4
      try clear hx4
      try clear c5
      try clear c6
      try clear p6
      try clear hx6
      try clear hf6
      try clear c7
      try clear p7
      try clear q7
      try clear c8
      try clear hx8
      try clear hf8
      try clear c9
      try clear c13
      try clear c14
      try clear c14b0
      try clear c15
      try clear p42
      try clear q42
      try clear hx42
      try clear c43
      try clear p43
      try clear q43
      try clear hx43
      try clear c44
      try clear p44
      try clear q44
      try clear hx44
      try clear c46
      try clear c47
      try clear c48
      try clear p49
      try clear q49
      try clear c56
      try clear c57
      try clear c64
      try clear p64
      try clear c66
      try clear hx66
      try clear hf66
      try clear c70
      try clear c70b0
      try clear c71
      try clear c71b0
      try clear c72
      try clear p73
      try clear q73
      try clear c74
      try clear c75
      try clear c76
      try clear c80
      try clear c81
      try clear c85
      try clear c87
      try clear hx87
      try clear hf87
      try clear c90
      try clear c91
      try clear c92
      try clear hcz58_0
      try clear hcz61_0
      try clear hcz77_0
      try clear hcz77_1
      try clear hcz77_2
      try clear hcz82_0
      try clear hcz93_0
      try clear hcz93_1
      try clear hcz93_2
      try clear hfz58_0
      try clear hfz61_0
      try clear hfz77_0
      try clear hfz77_1
      try clear hfz77_2
      try clear hfz82_0
      try clear hfz93_0
      try clear hfz93_1
      try clear hfz93_2
      try clear hx424_0
      try clear hx424_1
      try clear hx424_2
      try clear hx424_3
      try clear hx424_4
      try clear hx424_5
      try clear hx439_0
      try clear hx444_0
      try clear hx66_0
      try clear hx87_0
      try clear p424
      try clear p439
      try clear p444
      try clear p49
      try clear p73
      try clear q424
      try clear q439
      try clear q444
      try clear q49
      try clear q73
      obtain ⟨x421000_2, u421000, HA, HK2, HO_421000, BK418, BK419, BK420, HI0, HK, HB⟩ := hrel
      cases gk with
      | zero => exact absurd HA.out (by simp [awardingbodylaw12_shaped.l1])
      | succ k2 =>
       have H := HA.out
       clear HA
       simp only [awardingbodylaw12_shaped.l1] at H
       by_cases c94 : ((x421000_2.length : Int) % 4) = 0
       ·rw [if_pos c94] at H
        have c94b0 : (((x421000_2.length : Int) % 4) == 0) = true := beq_iff_eq.mpr c94
        have c94b1 : (((x421000_2.length : Int) % 4) != 0) = false := bne_eq_false_iff_eq.mpr c94
        clear c94
        replace H := Option.bind_eq_some_iff.mp H
        obtain ⟨⟨t452, t453⟩, A950, H⟩ := H
        replace H : (if t452 = true then ((awardingbodymake_Tape_Next.f s0_0 t453 (x421000_2.length : Int)).bind fun bt454 => ((awardingbodymake_Tape_Next.f s0_0 bt454.2 4).bind fun bt456 => (if bt456.1 = 0 then (if 0 ≤ bt454.1 then (if bt454.1 < (x421000_2.length : Int) then ((awardingbodymake_Tape_Range.f s0_0 bt456.2 (-1) (l1_2.length : Int)).bind fun bt459 => (if (rd_L2 x421000_2 bt454.1).length < 17592186044416 then (some ((x421000_2.set (bt454.1 : Int).toNat ((rd_L2 x421000_2 bt454.1) ++ [bt459.1])), bt459.2)) else (none))) else (none)) else (none)) else (if bt456.1 = 1 then (if 0 ≤ bt454.1 then (if bt454.1 < (x421000_2.length : Int) then (some ((x421000_2.set (bt454.1 : Int).toNat ([] : List Int)), bt456.2)) else (none)) else (none)) else (if bt456.1 = 2 then (if 0 ≤ bt454.1 then (if bt454.1 ≤ (x421000_2.length : Int) then (some ((x421000_2.take (bt454.1 : Int).toNat), bt456.2)) else (none)) else (none)) else (if x421000_2.length + 4 < 5864062014805 then (some ((x421000_2 ++ List.replicate 4 []), bt456.2)) else (none))))))) else (some (x421000_2, t453))) = some (r1, r2) := H
        have A95 := za A950
        clear A950
        by_cases c96 : t452 = true
        ·subst c96
         have H1 : ((awardingbodymake_Tape_Next.f s0_0 t453 (x421000_2.length : Int)).bind fun bt454 => ((awardingbodymake_Tape_Next.f s0_0 bt454.2 4).bind fun bt456 => (if bt456.1 = 0 then (if 0 ≤ bt454.1 then (if bt454.1 < (x421000_2.length : Int) then ((awardingbodymake_Tape_Range.f s0_0 bt456.2 (-1) (l1_2.length : Int)).bind fun bt459 => (if (rd_L2 x421000_2 bt454.1).length < 17592186044416 then (some ((x421000_2.set (bt454.1 : Int).toNat ((rd_L2 x421000_2 bt454.1) ++ [bt459.1])), bt459.2)) else (none))) else (none)) else (none)) else (if bt456.1 = 1 then (if 0 ≤ bt454.1 then (if bt454.1 < (x421000_2.length : Int) then (some ((x421000_2.set (bt454.1 : Int).toNat ([] : List Int)), bt456.2)) else (none)) else (none)) else (if bt456.1 = 2 then (if 0 ≤ bt454.1 then (if bt454.1 ≤ (x421000_2.length : Int) then (some ((x421000_2.take (bt454.1 : Int).toNat), bt456.2)) else (none)) else (none)) else (if x421000_2.length + 4 < 5864062014805 then (some ((x421000_2 ++ List.replicate 4 []), bt456.2)) else (none))))))) = some (r1, r2) := by rw [if_pos rfl] at H; exact H
         clear H
         have H := H1
         clear H1
         replace H := Option.bind_eq_some_iff.mp H
         obtain ⟨⟨t454, t455⟩, A970, H⟩ := H
         replace H : ((awardingbodymake_Tape_Next.f s0_0 t455 4).bind fun bt456 => (if bt456.1 = 0 then (if 0 ≤ t454 then (if t454 < (x421000_2.length : Int) then ((awardingbodymake_Tape_Range.f s0_0 bt456.2 (-1) (l1_2.length : Int)).bind fun bt459 => (if (rd_L2 x421000_2 t454).length < 17592186044416 then (some ((x421000_2.set (t454 : Int).toNat ((rd_L2 x421000_2 t454) ++ [bt459.1])), bt459.2)) else (none))) else (none)) else (none)) else (if bt456.1 = 1 then (if 0 ≤ t454 then (if t454 < (x421000_2.length : Int) then (some ((x421000_2.set (t454 : Int).toNat ([] : List Int)), bt456.2)) else (none)) else (none)) else (if bt456.1 = 2 then (if 0 ≤ t454 then (if t454 ≤ (x421000_2.length : Int) then (some ((x421000_2.take (t454 : Int).toNat), bt456.2)) else (none)) else (none)) else (if x421000_2.length + 4 < 5864062014805 then (some ((x421000_2 ++ List.replicate 4 []), bt456.2)) else (none)))))) = some (r1, r2) := H
         have A97 := za A970
         clear A970
         replace H := Option.bind_eq_some_iff.mp H
         obtain ⟨⟨t456, t457⟩, A980, H⟩ := H
         replace H : (if t456 = 0 then (if 0 ≤ t454 then (if t454 < (x421000_2.length : Int) then ((awardingbodymake_Tape_Range.f s0_0 t457 (-1) (l1_2.length : Int)).bind fun bt459 => (if (rd_L2 x421000_2 t454).length < 17592186044416 then (some ((x421000_2.set (t454 : Int).toNat ((rd_L2 x421000_2 t454) ++ [bt459.1])), bt459.2)) else (none))) else (none)) else (none)) else (if t456 = 1 then (if 0 ≤ t454 then (if t454 < (x421000_2.length : Int) then (some ((x421000_2.set (t454 : Int).toNat ([] : List Int)), t457)) else (none)) else (none)) else (if t456 = 2 then (if 0 ≤ t454 then (if t454 ≤ (x421000_2.length : Int) then (some ((x421000_2.take (t454 : Int).toNat), t457)) else (none)) else (none)) else (if x421000_2.length + 4 < 5864062014805 then (some ((x421000_2 ++ List.replicate 4 []), t457)) else (none))))) = some (r1, r2) := H
         have A98 := za A980
         clear A980
         by_cases c99 : t456 = 0
         ·rw [if_pos c99] at H
          have c99b0 : (t456 == 0) = true := beq_iff_eq.mpr c99
          have c99b1 : (t456 != 0) = false := bne_eq_false_iff_eq.mpr c99
          clear c99
          by_cases c100 : 0 ≤ t454
          ·rw [if_pos c100] at H
           have c100b0 : decide (0 ≤ t454) = true := decide_eq_true c100
           clear c100
           by_cases c101 : t454 < (x421000_2.length : Int)
           ·rw [if_pos c101] at H
            have c101b0 : decide (t454 < (x421000_2.length : Int)) = true := decide_eq_true c101
            clear c101
            replace H := Option.bind_eq_some_iff.mp H
            obtain ⟨⟨t459, t460⟩, A1020, H⟩ := H
            replace H : (if (rd_L2 x421000_2 t454).length < 17592186044416 then (some ((x421000_2.set (t454 : Int).toNat ((rd_L2 x421000_2 t454) ++ [t459])), t460)) else (none)) = some (r1, r2) := H
            have A102 := za A1020
            clear A1020
            by_cases c103 : (rd_L2 x421000_2 t454).length < 17592186044416
            ·rw [if_pos c103] at H
             have LMc103 := za c103
             clear c103
             obtain ⟨y461, hy461⟩ : ∃ y_ : List Int, y_ = ((rd_L2 x421000_2 t454) ++ [t459]) := ⟨_, rfl⟩
             replace H : (some ((x421000_2.set (t454 : Int).toNat y461), t460)) = some (r1, r2) := by first | (rw [hy461]; with_reducible exact H) | (have H2_ := (Option.bind_some _ _).symm.trans H; rw [hy461]; with_reducible exact H2_) | (have H2_ := (Option.bind_some _ _).symm.trans H; with_reducible exact H2_) | with_reducible exact H | (rw [hy461]; exact H) | exact H
             have Ny461 := za hy461
             clear hy461
             obtain ⟨y464, hy464⟩ : ∃ y_ : List (List Int), y_ = (x421000_2.set (t454 : Int).toNat y461) := ⟨_, rfl⟩
             replace H : (some (y464, t460)) = some (r1, r2) := by first | (rw [hy464]; with_reducible exact H) | (have H2_ := (Option.bind_some _ _).symm.trans H; rw [hy464]; with_reducible exact H2_) | (have H2_ := (Option.bind_some _ _).symm.trans H; with_reducible exact H2_) | with_reducible exact H | (rw [hy464]; exact H) | exact H
             have Ny464 := za hy464
             clear hy464
             simp only [Option.some.injEq, Prod.mk.injEq] at H
             obtain ⟨rfl, rfl⟩ := H
             have hnb105 := NB420_418.out
             have hnc105 := NB418_420.out
             have hnb106 := NB420_419.out
             have hnc106 := NB419_420.out
             have hnb107 := NB420_0.out
             have hnc107 := NB0_420.out
             obtain ⟨hcz108_0, hfz108_0⟩ := z1 BK420
             obtain ⟨Ao109, co109, eo109⟩ := Kd.S_slice HO_421000.out
             subst eo109
             try go_wp2_with (first | ((with_reducible refine gate_callee (f := 35) rfl ?_); refine zL (some 71) Try.func35 #[.pointer (some ⟨g, 0, none⟩), .int .i64 3] ?_; (with_reducible refine (awardingbodymake_Tape_One.calls g s0_0 x1001_1 3 true t453 w0 _ ?side1 ?side2 A95.out).mono ?_); (case side1 => exact (by repeat (first | (with_reducible first | exact HI0.out | apply IsS61.alloc | apply IsS61.drewN | apply IsS61.drew | apply IsS61.set_1 | refine IsS61.far ?_ NB0_418.out _ | refine IsS61.far ?_ NB0_419.out _ | refine IsS61.far ?_ NB0_420.out _) | exact HI0.out))); (case side2 => exact (by repeat (first | (with_reducible first | exact HB.out | apply below_alloc | apply pw_below_drewN | apply below_drew1 | refine below_set ?_ (IsS61.ge HI0.out) | refine below_set ?_ GE418.out | refine below_set ?_ GE419.out | refine below_set ?_ GE420.out) | exact HB.out))); rintro e w110 ⟨rfl, hi, hb, hk⟩; refine ⟨_, rfl, ?_⟩; replace HO_421000 := za (Kd.S_mono (Kd.S_keep (IsS61.apartS (show IsS61 w0 _ g s0_0 x1001_1 from by repeat (first | (with_reducible first | exact HI0.out | apply IsS61.alloc | apply IsS61.drewN | apply IsS61.drew | apply IsS61.set_1 | refine IsS61.far ?_ NB0_418.out _ | refine IsS61.far ?_ NB0_419.out _ | refine IsS61.far ?_ NB0_420.out _) | exact HI0.out)) (by (with_reducible repeat (first | apply Kd.S_alloc | apply Kd.S_drewN | apply Kd.S_drew)); exact HO_421000.out) (by decide)) hk (fun _ h => h.2)) (fun _ h => h.1)); replace BK418 := zk hk BK418 NB418_0; replace BK419 := zk hk BK419 NB419_0; replace BK420 := zk hk BK420 NB420_0; replace HK := zt HK hk; replace HB := za (hb); replace HI0 := za (hi); (try clear hb); (try clear hb2); (try clear hk); (try clear hi); obtain ⟨hcz111_0, hfz111_0⟩ := z1 BK420) | ((with_reducible refine gate_callee (f := 21) rfl ?_); refine zL (some 76) Try.func21 #[.pointer (some ⟨g, 0, none⟩), .int .i64 (x421000_2.length : Int)] ?_; (with_reducible refine (awardingbodymake_Tape_Next.calls g s0_0 t453 (x421000_2.length : Int) t454 t455 w0 _ ?side1 ?side2 A97.out).mono ?_); (case side1 => exact (by repeat (first | (with_reducible first | exact HI0.out | apply IsS61.alloc | apply IsS61.drewN | apply IsS61.drew | apply IsS61.set_1 | refine IsS61.far ?_ NB0_418.out _ | refine IsS61.far ?_ NB0_419.out _ | refine IsS61.far ?_ NB0_420.out _) | exact HI0.out))); (case side2 => exact (by repeat (first | (with_reducible first | exact HB.out | apply below_alloc | apply pw_below_drewN | apply below_drew1 | refine below_set ?_ (IsS61.ge HI0.out) | refine below_set ?_ GE418.out | refine below_set ?_ GE419.out | refine below_set ?_ GE420.out) | exact HB.out))); rintro e w112 ⟨rfl, hi, hb, hk⟩; refine ⟨_, rfl, ?_⟩; replace HO_421000 := za (Kd.S_mono (Kd.S_keep (IsS61.apartS (show IsS61 w0 _ g s0_0 t453 from by repeat (first | (with_reducible first | exact HI0.out | apply IsS61.alloc | apply IsS61.drewN | apply IsS61.drew | apply IsS61.set_1 | refine IsS61.far ?_ NB0_418.out _ | refine IsS61.far ?_ NB0_419.out _ | refine IsS61.far ?_ NB0_420.out _) | exact HI0.out)) (by (with_reducible repeat (first | apply Kd.S_alloc | apply Kd.S_drewN | apply Kd.S_drew)); exact HO_421000.out) (by decide)) hk (fun _ h => h.2)) (fun _ h => h.1)); replace BK418 := zk hk BK418 NB418_0; replace BK419 := zk hk BK419 NB419_0; replace BK420 := zk hk BK420 NB420_0; replace HK := zt HK hk; replace HB := za (hb); replace HI0 := za (hi); (try clear hb); (try clear hb2); (try clear hk); (try clear hi)) | ((with_reducible refine gate_callee (f := 21) rfl ?_); refine zL (some 78) Try.func21 #[.pointer (some ⟨g, 0, none⟩), .int .i64 4] ?_; (with_reducible refine (awardingbodymake_Tape_Next.calls g s0_0 t455 4 t456 t457 w0 _ ?side1 ?side2 A98.out).mono ?_); (case side1 => exact (by repeat (first | (with_reducible first | exact HI0.out | apply IsS61.alloc | apply IsS61.drewN | apply IsS61.drew | apply IsS61.set_1 | refine IsS61.far ?_ NB0_418.out _ | refine IsS61.far ?_ NB0_419.out _ | refine IsS61.far ?_ NB0_420.out _) | exact HI0.out))); (case side2 => exact (by repeat (first | (with_reducible first | exact HB.out | apply below_alloc | apply pw_below_drewN | apply below_drew1 | refine below_set ?_ (IsS61.ge HI0.out) | refine below_set ?_ GE418.out | refine below_set ?_ GE419.out | refine below_set ?_ GE420.out) | exact HB.out))); rintro e w113 ⟨rfl, hi, hb, hk⟩; refine ⟨_, rfl, ?_⟩; replace HO_421000 := za (Kd.S_mono (Kd.S_keep (IsS61.apartS (show IsS61 w0 _ g s0_0 t455 from by repeat (first | (with_reducible first | exact HI0.out | apply IsS61.alloc | apply IsS61.drewN | apply IsS61.drew | apply IsS61.set_1 | refine IsS61.far ?_ NB0_418.out _ | refine IsS61.far ?_ NB0_419.out _ | refine IsS61.far ?_ NB0_420.out _) | exact HI0.out)) (by (with_reducible repeat (first | apply Kd.S_alloc | apply Kd.S_drewN | apply Kd.S_drew)); exact HO_421000.out) (by decide)) hk (fun _ h => h.2)) (fun _ h => h.1)); replace BK418 := zk hk BK418 NB418_0; replace BK419 := zk hk BK419 NB419_0; replace BK420 := zk hk BK420 NB420_0; replace HK := zt HK hk; replace HB := za (hb); replace HI0 := za (hi); (try clear hb); (try clear hb2); (try clear hk); (try clear hi)))
             replace HO_421000 := za (Kd.S_drew HO_421000.out)
             replace BK418 := za (blk_drew BK418.out)
             replace BK419 := za (blk_drew BK419.out)
             replace BK420 := za (blk_drew BK420.out)
             replace HI0 := za (IsS61.drew HI0.out)
             replace HK := za (keep_drew HK.out)
             replace HB := za (below_drew1 HB.out)
             have p458 : 0 ≤ (t454 : Int) := of_decide_eq_true (by first | (with_reducible assumption) | assumption)
             have q458 : t454 < (x421000_2.length : Int) := of_decide_eq_true (by first | (with_reducible assumption) | assumption)
             obtain ⟨ad458, A458_0, c458_0, e458, hx458_0, hl458_0, hi458_0⟩ := at_L2 (Kd.S_reads' HO_421000.out).2.2 t454 p458 q458
             cases e458
             obtain ⟨ce458, hce458, hMe458, hcc458⟩ := Kd.S_get HO_421000.out [] t454 p458 (by first | exact q458 | exact of_decide_eq_true (by first | (with_reducible assumption) | assumption) | (have e_ := (Kd.S_reads' HO_421000.out).1; omega))
             obtain ⟨ve458_0, rfl, ge458_0⟩ := hMe458
             have hv458_0 := hcc458 0 _ rfl
             rw [Nat.add_zero, show ((Kd.slice 3 (Kd.int .i64))).sz = 1 from rfl, Nat.mul_one] at hv458_0
             replace hv458_0 := Option.some.inj (hv458_0.symm.trans hx458_0)
             rw [hv458_0] at ge458_0
             have HL458_0 := za (show Kd.R (Kd.int .i64) 3 _ _ _ _ (rd_L2 x421000_2 t454) from ge458_0)
             clear hv458_0 ge458_0
             have HX458_0 := za hx458_0
             clear hcc458 hce458
             have HR458_0 := za hi458_0
             have HC458_0 := za hl458_0
             clear hi458_0 hl458_0
             replace p458 := eq_true p458
             replace q458 := eq_true q458
             refine start_ (n := 17) (S := fun w' => w'.cell? ⟨gb420, 0, none⟩ = some (.slice (some ad458) x421000_2.length co109) ∧ w'.cell? ⟨gb418, 0, none⟩ = some (.int .i64 a1_0) ∧ w'.cell? ⟨gb418, 1, none⟩ = some (.int .i64 a1_1) ∧ w'.cell? ⟨gb418, 2, none⟩ = some (.slice A1_2 l1_2.length c1_2) ∧ w'.cell? (ad458.add (t454).toNat) = some (.slice A458_0 (rd_L2 x421000_2 t454).length c458_0)) (ds := [16]) #[false, false, false, false, false, false, false, false, false, false, false, false, false, false, false, false, false] (by kernel_rfl) rfl rfl ⟨(blk_cell BK420.out 0).trans rfl, (blk_cell BK418.out 0).trans rfl, (blk_cell BK418.out 1).trans rfl, (blk_cell BK418.out 2).trans rfl, hx458_0⟩ (fun hHeld => ?_); refine with_tabW awardingbodylaw12_shaped.tab21 awardingbodylaw12_shaped.bits21 (fun HT_ HW_ => ?_)
             generalize w113.drew = w114 at HO_421000 BK418 BK419 BK420 HI0 HK HB HL458_0 HR458_0 HX458_0 hx458_0 hHeld ⊢
             refine pure_ (i := 0) (N := some 86) (v := ?_) (a' := ?_) #[true, false, false, false, false, false, false, false, false, false, false, false, false, false, false, false, false] rfl rfl (any_of HT_.out (by kernel_rfl)) (fun _ _ _ h => h) (Or.inl ⟨by rfl, ?_⟩) ?_ ?_
             rotate_left
             ·intro w'
              go_simp
              with_reducible rfl
             rotate_left
             ·simp only [Act.put, List.setIfInBounds_toArray, List.set_cons_zero, List.set_cons_succ, i64_w, i32_w]
              rfl
             refine pure_ (i := 2) (N := some 88) (v := ?_) (a' := ?_) #[true, false, true, false, false, false, false, false, false, false, false, false, false, false, false, false, false] rfl rfl (any_of HT_.out (by kernel_rfl)) (fun _ _ _ h => h) (Or.inl ⟨by rfl, ?_⟩) ?_ ?_
             rotate_left
             ·intro w'
              go_simp
              with_reducible rfl
             rotate_left
             ·simp only [Act.put, List.setIfInBounds_toArray, List.set_cons_zero, List.set_cons_succ, i64_w, i32_w]
              rfl
             refine pure_ (i := 3) (N := some 89) (v := ?_) (a' := ?_) #[true, false, true, true, false, false, false, false, false, false, false, false, false, false, false, false, false] rfl rfl (any_of HT_.out (by kernel_rfl)) (fun _ _ _ h => h) (Or.inl ⟨by rfl, ?_⟩) ?_ ?_
             rotate_left
             ·intro w'
              go_simp
              with_reducible rfl
             rotate_left
             ·simp only [Act.put, List.setIfInBounds_toArray, List.set_cons_zero, List.set_cons_succ, i64_w, i32_w]
              rfl
             refine pure_ (i := 5) (N := some 91) (v := ?_) (a' := ?_) #[true, false, true, true, false, true, false, false, false, false, false, false, false, false, false, false, false] rfl rfl (any_of HT_.out (by kernel_rfl)) (fun _ _ _ h => h) (Or.inl ⟨by rfl, ?_⟩) ?_ ?_
             rotate_left
             ·intro w'
              go_simp
              with_reducible rfl
             rotate_left
             ·simp only [Act.put, List.setIfInBounds_toArray, List.set_cons_zero, List.set_cons_succ, i64_w, i32_w]
              rfl
             refine pure_ (i := 8) (N := some 94) (v := ?_) (a' := ?_) #[true, false, true, true, false, true, false, false, true, false, false, false, false, false, false, false, false] rfl rfl (any_of HT_.out (by kernel_rfl)) (fun _ _ _ h => h) (Or.inl ⟨by rfl, ?_⟩) ?_ ?_
             rotate_left
             ·intro w'
              go_simp
              with_reducible rfl
             rotate_left
             ·simp only [Act.put, List.setIfInBounds_toArray, List.set_cons_zero, List.set_cons_succ, i64_w, i32_w]
              rfl
             refine pure_ (i := 9) (N := some 95) (v := ?_) (a' := ?_) #[true, false, true, true, false, true, false, false, true, true, false, false, false, false, false, false, false] rfl rfl (any_of HT_.out (by kernel_rfl)) (fun _ _ _ h => h) (Or.inl ⟨by rfl, ?_⟩) ?_ ?_
             rotate_left
             ·intro w'
              go_simp
              with_reducible rfl
             rotate_left
             ·simp only [Act.put, List.setIfInBounds_toArray, List.set_cons_zero, List.set_cons_succ, i64_w, i32_w]
              rfl
             refine take_ (i := 1) (N := some 87) (v := ?_) (a' := ?_) #[true, true, true, true, false, true, false, false, true, true, false, false, false, false, false, false, false] rfl rfl (take_ofW HT_.out HW_.out (by kernel_rfl)) (fun _ _ _ h => h) (Or.inl ⟨by rfl, ?_⟩) hHeld ?_ ?_
             rotate_left
             ·rintro w' ⟨s0, s1, s2, s3, s4⟩
              go_simp
              with_reducible rfl
             rotate_left
             ·simp only [Act.put, List.setIfInBounds_toArray, List.set_cons_zero, List.set_cons_succ, i64_w, i32_w]
              rfl
             refine take_ (i := 4) (N := some 90) (v := ?_) (a' := ?_) #[true, true, true, true, true, true, false, false, true, true, false, false, false, false, false, false, false] rfl rfl (take_ofW HT_.out HW_.out (by kernel_rfl)) (fun _ _ _ h => h) (Or.inl ⟨by rfl, ?_⟩) hHeld ?_ ?_
             rotate_left
             ·rintro w' ⟨s0, s1, s2, s3, s4⟩
              go_simp
              with_reducible rfl
             rotate_left
             ·simp only [Act.put, List.setIfInBounds_toArray, List.set_cons_zero, List.set_cons_succ, i64_w, i32_w]
              rfl
             refine pure_ (i := 6) (N := some 92) (v := ?_) (a' := ?_) #[true, true, true, true, true, true, true, false, true, true, false, false, false, false, false, false, false] rfl rfl (any_of HT_.out (by kernel_rfl)) (fun _ _ _ h => h) (Or.inl ⟨by rfl, ?_⟩) ?_ ?_
             rotate_left
             ·intro w'
              go_simp
              with_reducible rfl
             rotate_left
             ·simp only [Act.put, List.setIfInBounds_toArray, List.set_cons_zero, List.set_cons_succ, i64_w, i32_w]
              rfl
             refine take_ (i := 7) (N := some 93) (v := ?_) (a' := ?_) #[true, true, true, true, true, true, true, true, true, true, false, false, false, false, false, false, false] rfl rfl (take_ofW HT_.out HW_.out (by kernel_rfl)) (fun _ _ _ h => h) (Or.inl ⟨by rfl, ?_⟩) hHeld ?_ ?_
             rotate_left
             ·rintro w' ⟨s0, s1, s2, s3, s4⟩
              go_simp
              with_reducible rfl
             rotate_left
             ·simp only [Act.put, List.setIfInBounds_toArray, List.set_cons_zero, List.set_cons_succ, i64_w, i32_w]
              rfl
             refine take_ (i := 10) (N := some 96) (v := ?_) (a' := ?_) #[true, true, true, true, true, true, true, true, true, true, true, false, false, false, false, false, false] rfl rfl (take_ofW HT_.out HW_.out (by kernel_rfl)) (fun _ _ _ h => h) (Or.inl ⟨by rfl, ?_⟩) hHeld ?_ ?_
             rotate_left
             ·rintro w' ⟨s0, s1, s2, s3, s4⟩
              go_simp
              with_reducible rfl
             rotate_left
             ·simp only [Act.put, List.setIfInBounds_toArray, List.set_cons_zero, List.set_cons_succ, i64_w, i32_w]
              rfl
             refine pure_ (i := 11) (N := some 97) (v := ?_) (a' := ?_) #[true, true, true, true, true, true, true, true, true, true, true, true, false, false, false, false, false] rfl rfl (any_of HT_.out (by kernel_rfl)) (fun _ _ _ h => h) (Or.inl ⟨by rfl, ?_⟩) ?_ ?_
             rotate_left
             ·intro w'
              go_simp
              with_reducible rfl
             rotate_left
             ·simp only [Act.put, List.setIfInBounds_toArray, List.set_cons_zero, List.set_cons_succ, i64_w, i32_w]
              rfl
             refine one_ (i := 12) (N := some 98) #[true, true, true, true, true, true, true, true, true, true, true, true, true, false, false, false, false] rfl rfl (one_of HT_.out (by kernel_rfl)) (by decide) (fun K hK => ?_)
             refine goes_ Try.func34 (by kernel_rfl) rfl #[.pointer (some ⟨g, 0, none⟩), .int .i64 (-1), .int .i64 (l1_2.length : Int)] (by rfl) rfl rfl (by (try simp only [List.map_toArray, List.map_cons, List.map_nil]); first | done | rfl | (simp only [List.length_drop, List.length_take]; rfl)) ?_
             with_reducible refine (awardingbodymake_Tape_Range.calls g s0_0 t457 (-1) (l1_2.length : Int) t459 t460 w0 _ ?side1 ?side2 A102.out).mono ?_
             (case side1 => exact (by repeat (first | (with_reducible first | exact HI0.out | apply IsS61.alloc | apply IsS61.drewN | apply IsS61.drew | apply IsS61.set_1 | refine IsS61.far ?_ NB0_418.out _ | refine IsS61.far ?_ NB0_419.out _ | refine IsS61.far ?_ NB0_420.out _) | exact HI0.out)))
             (case side2 => exact (by repeat (first | (with_reducible first | exact HB.out | apply below_alloc | apply pw_below_drewN | apply below_drew1 | refine below_set ?_ (IsS61.ge HI0.out) | refine below_set ?_ GE418.out | refine below_set ?_ GE419.out | refine below_set ?_ GE420.out) | exact HB.out)))
             rintro e w115 ⟨rfl, hi, hb, hk⟩
             have HS4_ := keep_cell hk (hHeld.2.2.2.2) (by first | (rw [add_block]; exact Kd.own_blk (IsS61.own_neS HI0.out HO_421000.out (by decide))) | (show (Addr.add _ _).block ≠ _; rw [add_block]; exact Kd.own_blk (IsS61.own_neS HI0.out HO_421000.out (by decide))) | exact Kd.own_blk (IsS61.own_neS HI0.out HO_421000.out (by decide)))
             refine ⟨_, rfl, ?_⟩
             replace BK418 := zk hk BK418 NB418_0
             replace BK419 := zk hk BK419 NB419_0
             replace BK420 := zk hk BK420 NB420_0
             replace HL458_0 := za (Kd.R_mono (Kd.R_keep (IsS61.apart (show IsS61 w0 _ g s0_0 t457 from by repeat (first | (with_reducible first | exact HI0.out | apply IsS61.alloc | apply IsS61.drewN | apply IsS61.drew | apply IsS61.set_1 | refine IsS61.far ?_ NB0_418.out _ | refine IsS61.far ?_ NB0_419.out _ | refine IsS61.far ?_ NB0_420.out _) | exact HI0.out)) (by (with_reducible repeat (first | apply Kd.R_alloc | apply Kd.R_drewN | apply Kd.R_drew)); exact HL458_0.out) (by decide)) hk (fun _ h => h.2)) (fun _ h => h.1))
             replace HX458_0 := za (keep_cell hk HX458_0.out (by first | (rw [add_block]; exact Kd.own_blk (IsS61.own_neS HI0.out HO_421000.out (by decide))) | (show (Addr.add _ _).block ≠ _; rw [add_block]; exact Kd.own_blk (IsS61.own_neS HI0.out HO_421000.out (by decide))) | exact Kd.own_blk (IsS61.own_neS HI0.out HO_421000.out (by decide)) | (dsimp only; exact Kd.own_blk (IsS61.own_neS HI0.out HO_421000.out (by decide)))))
             replace HO_421000 := za (Kd.S_mono (Kd.S_keep (IsS61.apartS (show IsS61 w0 _ g s0_0 t457 from by repeat (first | (with_reducible first | exact HI0.out | apply IsS61.alloc | apply IsS61.drewN | apply IsS61.drew | apply IsS61.set_1 | refine IsS61.far ?_ NB0_418.out _ | refine IsS61.far ?_ NB0_419.out _ | refine IsS61.far ?_ NB0_420.out _) | exact HI0.out)) (by (with_reducible repeat (first | apply Kd.S_alloc | apply Kd.S_drewN | apply Kd.S_drew)); exact HO_421000.out) (by decide)) hk (fun _ h => h.2)) (fun _ h => h.1))
             replace HK := zt HK hk
             replace HB := za (hb)
             replace HI0 := za (hi)
             (try clear hb)
             (try clear hb2)
             (try clear hk)
             (try clear hi)
             obtain ⟨go116, co116, eo116, gb116, gl116, cl116, HG116⟩ := Kd.S_form HO_421000.out (by have h_ : (t454 : Int) < ((x421000_2.length : Int) : Int) := of_decide_eq_true (by first | (with_reducible assumption) | assumption); have h2_ : 0 ≤ (t454 : Int) := (of_decide_eq_true (by first | (with_reducible assumption) | assumption)); omega)
             (first | cases eo116 | (injection eo116 with ea_ en_ ec_; (first | subst ea_ | (injection ea_ with ea_; subst ea_)); subst ec_; clear en_))
             have GB116 := za gb116
             have GG116 := za HG116
             clear gb116 gl116 HG116
             (first | simp only [add_plain] at hx458_0 | skip)
             obtain ⟨oki116, ce116, hcl116, hM116, hcc116, _, _, hH116⟩ := Kd.S_elem HO_421000.out [] (t454 : Int) (of_decide_eq_true (by first | (with_reducible assumption) | assumption)) (by have h_ : (t454 : Int) < ((x421000_2.length : Int) : Int) := of_decide_eq_true (by first | (with_reducible assumption) | assumption); first | exact h_ | (have e_ := (Kd.S_reads' HO_421000.out).1; omega) | simpa using h_)
             obtain ⟨ve116_0, rfl, ge116_0⟩ := hM116
             have hv116 := hcc116 0 _ rfl
             have hX116 := HX458_0.out
             (try simp only [add_plain] at hX116)
             (try simp only [Nat.add_zero] at hv116)
             (try rw [show ((Kd.slice 3 (Kd.int .i64))).sz = 1 from rfl, Nat.mul_one] at hv116)
             replace hv116 := Option.some.inj (hv116.symm.trans hX116)
             subst hv116
             clear hX116 hcc116 hcl116
             have UU116 := za (show Kd.R (Kd.int .i64) 3 _ w.heap.size oki116 (.slice A458_0 (rd_L2 x421000_2 t454).length c458_0) (rd_L2 x421000_2 t454) from ge116_0)
             have HH116 := za hH116
             have HN116 := za (Kd.S_reads' HO_421000.out).1
             clear hH116 ge116_0
             refine hK.out _ _ ⟨(blk_cell BK420.out 0).trans rfl, (blk_cell BK418.out 0).trans rfl, (blk_cell BK418.out 1).trans rfl, (blk_cell BK418.out 2).trans rfl, HS4_⟩ (fun hHeld => ?_)
             clear hK K
             refine norm_ (a' := ?_) ?_ ?_
             rotate_left
             ·show Act.put _ (some 98) _ = _
              simp only [Act.put, List.setIfInBounds_toArray, List.set_cons_zero, List.set_cons_succ, i64_w, i32_w]
              rfl
             refine one_ (i := 13) (N := some 99) #[true, true, true, true, true, true, true, true, true, true, true, true, true, true, false, false, false] rfl rfl (one_of HT_.out (by kernel_rfl)) (by decide) (fun K hK => ?_)
             refine value_ (w1 := ?_) (v := ?_) (by rfl) rfl ?_ ?_
             rotate_left 2
             ·go_simp
              constructor
              ·rfl
              ·rfl
             refine hK.out _ _ ⟨(blk_cell (blk_alloc BK420.out _) 0).trans rfl, (blk_cell (blk_alloc BK418.out _) 0).trans rfl, (blk_cell (blk_alloc BK418.out _) 1).trans rfl, (blk_cell (blk_alloc BK418.out _) 2).trans rfl, (World.cell?_alloc_lt _ _ _ (World.block_lt_of_cell? _ _ (hHeld.2.2.2.2))).trans (hHeld.2.2.2.2)⟩ (fun hHeld => ?_)
             clear hK K
             refine norm_ (a' := ?_) ?_ ?_
             rotate_left
             ·show Act.put _ (some 99) _ = _
              simp only [Act.put, List.setIfInBounds_toArray, List.set_cons_zero, List.set_cons_succ, i64_w, i32_w]
              rfl
             refine one_ (i := 14) (N := some 100) #[true, true, true, true, true, true, true, true, true, true, true, true, true, true, true, false, false] rfl rfl (one_of HT_.out (by kernel_rfl)) (by decide) (fun K hK => ?_)
             refine Kd.R_append_step (Kd.int .i64) w.heap.size (by rfl) (.tmp 93) (.tmp 99) 28 3 (.int .i64 0) 8 rfl Try.underlying28 info3 rfl (by decide) (by omega) (.slice A458_0 (rd_L2 x421000_2 t454).length c458_0) (rd_L2 x421000_2 t454) t459 [.int .i64 t459] (fun k_ => oki116 k_ ∨ ((fun _ => True)) k_ ∧ w115.heap.size ≤ k_) (fun _ => False) rfl rfl ?aP (fun _ hk => hk.elim) ?aF ?aO (Below.refl _ _) ?aS ?aL ?_
             (case aP => exact rfl)
             (case aF => exact (fun k_ hk => .inr ⟨trivial, hk⟩))
             (case aO => exact (by (with_reducible repeat (first | apply Kd.R_alloc | apply Kd.R_drewN | apply Kd.R_drew)); exact Kd.R_mono UU116.out (fun _ hk => .inl hk)))
             (case aS => exact (keep_size (w := w) (g := g) (row := none) (by repeat (first | (with_reducible first | exact HK.out | apply KeepBut.set_ | apply keep_drewN | apply keep_drew | apply keep_alloc | refine keep_far ?_ GW418.out _ | refine keep_far ?_ GW419.out _ | refine keep_far ?_ GW420.out _) | exact HK.out))))
             (case aL => have := LMc103.out; omega)
             intro v462 w117 ho hb hg hat
             (first | have HS4_ := cell_grown hg (hHeld.2.2.2.2) (by first | (rw [add_block]; exact (fun e_ => ((HL458_0.out.1 _ e_.symm).2) rfl)) | (show some (Addr.add _ _).block ≠ _; rw [add_block]; exact (fun e_ => ((HL458_0.out.1 _ e_.symm).2) rfl)) | exact (fun e_ => ((HL458_0.out.1 _ e_.symm).2) rfl)) | have HS4_ := cell_grown hg (cell_unalloc (hHeld.2.2.2.2) (by first | (rw [add_block]; exact Kd.S_lt HO_421000.out _ rfl) | (show (Addr.add _ _).block < _; rw [add_block]; exact Kd.S_lt HO_421000.out _ rfl) | exact Kd.S_lt HO_421000.out _ rfl)) (by first | (rw [add_block]; exact (fun e_ => ((HL458_0.out.1 _ e_.symm).2) rfl)) | (show some (Addr.add _ _).block ≠ _; rw [add_block]; exact (fun e_ => ((HL458_0.out.1 _ e_.symm).2) rfl)) | exact (fun e_ => ((HL458_0.out.1 _ e_.symm).2) rfl)))
             rw [← Ny461.out] at ho
             have HO463 := za (ho)
             replace BK418 := (zw BK418 hg (Kd.R_ne HL458_0.out BK418.out (by decide)))
             replace BK419 := (zw BK419 hg (Kd.R_ne HL458_0.out BK419.out (by decide)))
             replace BK420 := (zw BK420 hg (Kd.R_ne HL458_0.out BK420.out (by decide)))
             replace HI0 := za (IsS61.grown (by repeat (first | (with_reducible first | exact HI0.out | apply IsS61.alloc | apply IsS61.drewN | apply IsS61.drew | apply IsS61.set_1 | refine IsS61.far ?_ NB0_418.out _ | refine IsS61.far ?_ NB0_419.out _ | refine IsS61.far ?_ NB0_420.out _) | exact HI0.out)) hg (IsS61.own_ne HI0.out HL458_0.out (by decide)))
             replace HB := za (below_weaken (zm HB) HL.out hb)
             replace HK := za (KeepBut.trans (by repeat (first | (with_reducible first | exact HK.out | apply KeepBut.set_ | apply keep_drewN | apply keep_drew | apply keep_alloc | refine keep_far ?_ GW418.out _ | refine keep_far ?_ GW419.out _ | refine keep_far ?_ GW420.out _) | exact HK.out)) (KeepBut.of_grown hg g) (Kd.R_base2 HL458_0.out))
             replace HH116 := za (Kd.H_grown (Kd.H_widen (by repeat (first | exact HH116.out | refine Kd.H_alloc ?_ _ | refine Kd.H_drewN ?_ _ | refine Kd.H_drew ?_))) hg (fun k_ e_ => .inl (UU116.out.1 k_ e_)))
             clear HO_421000 UU116 HL458_0 ho hb hg hat
             have p104 : 0 ≤ (t454 : Int) := of_decide_eq_true (by first | (with_reducible assumption) | assumption)
             have q104 : (t454 : Int) < ((x421000_2.length : Int) : Int) := of_decide_eq_true (by first | (with_reducible assumption) | assumption)
             replace p104 := eq_true p104
             replace q104 := eq_true q104
             obtain ⟨Ao120, co120, eo120⟩ := Kd.R_slice HO463.out
             (first | subst eo120 | (injection eo120 with f1_ f2_ f3_; have f4_ := f1_.symm; have f5_ := f3_.symm; clear f1_ f2_ f3_; subst f4_; subst f5_))
             obtain ⟨_, _, hraw118, _, _, hcc118, _⟩ := Kd.H_raw HH116.out (of_decide_eq_true (by first | (with_reducible assumption) | assumption)) (by have h_ : (t454 : Int) < ((x421000_2.length : Int) : Int) := of_decide_eq_true (by first | (with_reducible assumption) | assumption); first | exact h_ | (have e_ := (HN116.out); omega) | simpa using h_)
             obtain ⟨_, hfr118⟩ := Kd.H_at HH116.out (of_decide_eq_true (by first | (with_reducible assumption) | assumption)) (by have h_ : (t454 : Int) < ((x421000_2.length : Int) : Int) := of_decide_eq_true (by first | (with_reducible assumption) | assumption); first | exact h_ | (have e_ := (HN116.out); omega) | simpa using h_)
             have hx118_0 := hcc118 0 _ rfl
             have hf118_0 := hfr118 0
             (try simp only [Nat.add_zero] at hx118_0 hf118_0)
             (try rw [show ((Kd.slice 3 (Kd.int .i64))).sz = 1 from rfl, Nat.mul_one] at hx118_0)
             (try rw [show ((Kd.slice 3 (Kd.int .i64))).sz = 1 from rfl, Nat.mul_one] at hf118_0)
             have HP118 := Kd.S_seg0 HH116.out (of_decide_eq_true (by first | (with_reducible assumption) | assumption)) (by have h_ : (t454 : Int) < ((x421000_2.length : Int) : Int) := of_decide_eq_true (by first | (with_reducible assumption) | assumption); first | exact h_ | (have e_ := (HN116.out); omega) | simpa using h_) (seg := [.slice Ao120 y461.length co120]) (j := 0) (show 1 ≤ 1 from by decide) (x' := y461) (Kd.M_row HO463.out) (fun _ hk => hk)
             (try simp only [show ((Kd.slice 3 (Kd.int .i64))).sz = 1 from rfl, Nat.mul_one, Nat.add_zero] at HP118)
             clear hcc118 hfr118
             have HN0_go116 := za (show g ≠ go116 from by have h_ := IsS61.own_ne HI0.out hraw118 (by decide); intro e_; exact h_ (by rw [e_]; rfl))
             have HNB418_go116 := za (show gb418 ≠ go116 from by have h_ := Kd.R_ne hraw118 BK418.out (by decide); intro e_; exact h_ (by rw [e_]; rfl))
             have HNB419_go116 := za (show gb419 ≠ go116 from by have h_ := Kd.R_ne hraw118 BK419.out (by decide); intro e_; exact h_ (by rw [e_]; rfl))
             have HNB420_go116 := za (show gb420 ≠ go116 from by have h_ := Kd.R_ne hraw118 BK420.out (by decide); intro e_; exact h_ (by rw [e_]; rfl))
             have HS118 := HP118.1
             rw [← Ny464.out] at HS118
             have HQ118 := za HS118
             obtain ⟨_, hgg118⟩ := Kd.R_typed hraw118 go116 rfl
             have GG118_ := za hgg118
             clear HP118 HS118 hgg118
             refine hK.out _ _ ⟨(blk_cell BK420.out 0).trans rfl, (blk_cell BK418.out 0).trans rfl, (blk_cell BK418.out 1).trans rfl, (blk_cell BK418.out 2).trans rfl, HS4_⟩ (fun hHeld => ?_)
             clear hK K
             refine norm_ (a' := ?_) ?_ ?_
             rotate_left
             ·show Act.put _ (some 100) _ = _
              simp only [Act.put, List.setIfInBounds_toArray, List.set_cons_zero, List.set_cons_succ, i64_w, i32_w]
              rfl
             refine pure_ (i := 15) (N := some 101) (v := ?_) (a' := ?_) #[true, true, true, true, true, true, true, true, true, true, true, true, true, true, true, true, false] rfl rfl (any_of HT_.out (by kernel_rfl)) (fun _ _ _ h => h) (Or.inl ⟨by rfl, ?_⟩) ?_ ?_
             rotate_left
             ·intro w'
              go_simp
              with_reducible rfl
             rotate_left
             ·simp only [Act.put, List.setIfInBounds_toArray, List.set_cons_zero, List.set_cons_succ, i64_w, i32_w]
              rfl
             refine last_ (i := 16) (N := none) #[true, true, true, true, true, true, true, true, true, true, true, true, true, true, true, true, true] rfl rfl (one_of HT_.out (by kernel_rfl)) (by decide) (fun K hK => ?_)
             refine skip_ (w1 := ?_) (by rfl) rfl ?_ ?_
             rotate_left
             ·go_simp
              rfl
             refine hK.out _ _ ?_
             clear hK K
             refine done_ (done_of HT_.out (by kernel_rfl)) ?_
             have n0_ : Aside0 (Kd.S (Kd.slice 3 (Kd.int .i64)) 28 (w117.setCell ⟨go116, (t454 : Int).toNat, none⟩ (.slice Ao120 y461.length co120)) w.heap.size (fun _ => True) (.slice (some ⟨go116, 0, none⟩) x421000_2.length co109) y464) := ⟨by (with_reducible repeat (first | apply Kd.S_alloc | apply Kd.S_drewN | apply Kd.S_drew)); exact HQ118.out⟩
             have n1_ : Aside0 ((w117.setCell ⟨go116, (t454 : Int).toNat, none⟩ (.slice Ao120 y461.length co120)).heap[gb418]? = some (.cells #[.int .i64 a1_0, .int .i64 a1_1, .slice A1_2 l1_2.length c1_2] 33 (0, 0))) := ⟨by (with_reducible repeat (first | refine blk_drewN ?_ _ | refine blk_drew ?_ | refine blk_alloc ?_ _)); refine blk_far ?_ HNB418_go116.out _; (with_reducible repeat (first | refine blk_drewN ?_ _ | refine blk_drew ?_ | refine blk_alloc ?_ _)); exact BK418.out⟩
             have n2_ : Aside0 ((w117.setCell ⟨go116, (t454 : Int).toNat, none⟩ (.slice Ao120 y461.length co120)).heap[gb419]? = some (.cells #[.slice none 0 0] 38 (0, 0))) := ⟨by (with_reducible repeat (first | refine blk_drewN ?_ _ | refine blk_drew ?_ | refine blk_alloc ?_ _)); refine blk_far ?_ HNB419_go116.out _; (with_reducible repeat (first | refine blk_drewN ?_ _ | refine blk_drew ?_ | refine blk_alloc ?_ _)); exact BK419.out⟩
             have n3_ : Aside0 ((w117.setCell ⟨go116, (t454 : Int).toNat, none⟩ (.slice Ao120 y461.length co120)).heap[gb420]? = some (.cells #[.slice (some ⟨go116, 0, none⟩) x421000_2.length co109] 38 (0, 0))) := ⟨by (with_reducible repeat (first | refine blk_drewN ?_ _ | refine blk_drew ?_ | refine blk_alloc ?_ _)); refine blk_far ?_ HNB420_go116.out _; (with_reducible repeat (first | refine blk_drewN ?_ _ | refine blk_drew ?_ | refine blk_alloc ?_ _)); exact BK420.out⟩
             have n4_ : Aside0 (IsS61 w0 (w117.setCell ⟨go116, (t454 : Int).toNat, none⟩ (.slice Ao120 y461.length co120)) g s0_0 t460) := ⟨by repeat (first | (with_reducible first | exact HI0.out | apply IsS61.alloc | apply IsS61.drewN | apply IsS61.drew | apply IsS61.set_1 | refine IsS61.far ?_ HN0_go116.out _ | refine IsS61.far ?_ NB0_418.out _ | refine IsS61.far ?_ NB0_419.out _ | refine IsS61.far ?_ NB0_420.out _) | exact HI0.out)⟩
             have n5_ : Aside0 (KeepBut w (w117.setCell ⟨go116, (t454 : Int).toNat, none⟩ (.slice Ao120 y461.length co120)) g none) := ⟨by repeat (first | (with_reducible first | exact HK.out | apply KeepBut.set_ | apply keep_drewN | apply keep_drew | apply keep_alloc | refine keep_far ?_ GB116.out _ | refine keep_far ?_ GW418.out _ | refine keep_far ?_ GW419.out _ | refine keep_far ?_ GW420.out _) | exact HK.out)⟩
             have n6_ : Aside0 (Below w0.heap.size w0 (w117.setCell ⟨go116, (t454 : Int).toNat, none⟩ (.slice Ao120 y461.length co120))) := ⟨by repeat (first | (with_reducible first | exact HB.out | apply below_alloc | apply pw_below_drewN | apply below_drew1 | refine below_set ?_ (Nat.le_trans HL.out GB116.out) | refine below_set ?_ (IsS61.ge HI0.out) | refine below_set ?_ GE418.out | refine below_set ?_ GE419.out | refine below_set ?_ GE420.out) | exact HB.out)⟩
             (try clear HO_421000)
             (try clear BK418)
             (try clear BK419)
             (try clear BK420)
             (try clear HI0)
             (try clear HK)
             (try clear HB)
             generalize (w117.setCell ⟨go116, (t454 : Int).toNat, none⟩ (.slice Ao120 y461.length co120)) = w121 at n0_ n1_ n2_ n3_ n4_ n5_ n6_ ⊢
             have HO_421000 := n0_
             have BK418 := n1_
             have BK419 := n2_
             have BK420 := n3_
             have HI0 := n4_
             have HK := n5_
             have HB := n6_
             clear n0_ n1_ n2_ n3_ n4_ n5_ n6_
             obtain ⟨hcz122_0, hfz122_0⟩ := z1 BK420
             have hnb123 := NB419_418.out
             have hnc123 := NB418_419.out
             have hnb124 := NB419_0.out
             have hnc124 := NB0_419.out
             obtain ⟨hcz125_0, hfz125_0⟩ := z1 BK419
             try go_wp2
             refine bodyPost_ret (results_cell_row rfl _ _ gb419 38 #[.slice (some ⟨go116, 0, none⟩) x421000_2.length co109] (0, 0) _ rfl (by (with_reducible repeat (first | refine blk_drewN ?_ _ | refine blk_drew ?_ | refine blk_alloc ?_ _)); refine blk_put (cs := #[.slice none 0 0]) ?_ 0 _ rfl; (with_reducible repeat (first | refine blk_drewN ?_ _ | refine blk_drew ?_ | refine blk_alloc ?_ _)); exact BK419.out) Try.underlying38 rfl (by kernel_rfl)) rfl ?_
             exact ⟨_, zf, by (with_reducible repeat (first | apply Kd.S_alloc | apply Kd.S_drewN | apply Kd.S_drew)); exact Kd.S_mono (Kd.S_far (p := ⟨gb419, 0, none⟩) (Kd.S_types HO_421000.out BK419.out (by decide)) (fun _ hk => hk.2) (.slice (some ⟨go116, 0, none⟩) x421000_2.length co109)) (fun _ hk => trivial), by repeat (first | (with_reducible first | exact HI0.out | apply IsS61.alloc | apply IsS61.drewN | apply IsS61.drew | apply IsS61.set_1 | refine IsS61.far ?_ NB0_418.out _ | refine IsS61.far ?_ NB0_419.out _ | refine IsS61.far ?_ NB0_420.out _) | exact HI0.out), zm HB, by repeat (first | (with_reducible first | exact HK.out | apply KeepBut.set_ | apply keep_drewN | apply keep_drew | apply keep_alloc | refine keep_far ?_ GW418.out _ | refine keep_far ?_ GW419.out _ | refine keep_far ?_ GW420.out _) | exact HK.out)⟩
            ·rw [if_neg c103] at H
             exact absurd H (by simp)
           ·rw [if_neg c101] at H
            exact absurd H (by simp)
          ·rw [if_neg c100] at H
           exact absurd H (by simp)
         ·rw [if_neg c99] at H
          have c99b0 : (t456 == 0) = false := beq_eq_false_iff_ne.mpr c99
          have c99b1 : (t456 != 0) = true := bne_iff_ne.mpr c99
          by_cases c126 : t456 = 1
          ·rw [if_pos c126] at H
           have c126b0 : (t456 == 1) = true := beq_iff_eq.mpr c126
           have c126b1 : (t456 != 1) = false := bne_eq_false_iff_eq.mpr c126
           clear c126
           by_cases c127 : 0 ≤ t454
           ·rw [if_pos c127] at H
            have c127b0 : decide (0 ≤ t454) = true := decide_eq_true c127
            clear c127
            by_cases c128 : t454 < (x421000_2.length : Int)
            ·rw [if_pos c128] at H
             have c128b0 : decide (t454 < (x421000_2.length : Int)) = true := decide_eq_true c128
             clear c128
             obtain ⟨y465, hy465⟩ : ∃ y_ : List (List Int), y_ = (x421000_2.set (t454 : Int).toNat ([] : List Int)) := ⟨_, rfl⟩
             replace H : (some (y465, t457)) = some (r1, r2) := by first | (rw [hy465]; with_reducible exact H) | (have H2_ := (Option.bind_some _ _).symm.trans H; rw [hy465]; with_reducible exact H2_) | (have H2_ := (Option.bind_some _ _).symm.trans H; with_reducible exact H2_) | with_reducible exact H | (rw [hy465]; exact H) | exact H
             have Ny465 := za hy465
             clear hy465
             simp only [Option.some.injEq, Prod.mk.injEq] at H
             obtain ⟨rfl, rfl⟩ := H
             have hnb130 := NB420_418.out
             have hnc130 := NB418_420.out
             have hnb131 := NB420_419.out
             have hnc131 := NB419_420.out
             have hnb132 := NB420_0.out
             have hnc132 := NB0_420.out
             obtain ⟨hcz133_0, hfz133_0⟩ := z1 BK420
             obtain ⟨Ao134, co134, eo134⟩ := Kd.S_slice HO_421000.out
             subst eo134
             go_wp2_with (first | ((with_reducible refine gate_callee (f := 35) rfl ?_); refine zL (some 71) Try.func35 #[.pointer (some ⟨g, 0, none⟩), .int .i64 3] ?_; (with_reducible refine (awardingbodymake_Tape_One.calls g s0_0 x1001_1 3 true t453 w0 _ ?side1 ?side2 A95.out).mono ?_); (case side1 => exact (by repeat (first | (with_reducible first | exact HI0.out | apply IsS61.alloc | apply IsS61.drewN | apply IsS61.drew | apply IsS61.set_1 | refine IsS61.far ?_ NB0_418.out _ | refine IsS61.far ?_ NB0_419.out _ | refine IsS61.far ?_ NB0_420.out _) | exact HI0.out))); (case side2 => exact (by repeat (first | (with_reducible first | exact HB.out | apply below_alloc | apply pw_below_drewN | apply below_drew1 | refine below_set ?_ (IsS61.ge HI0.out) | refine below_set ?_ GE418.out | refine below_set ?_ GE419.out | refine below_set ?_ GE420.out) | exact HB.out))); rintro e w135 ⟨rfl, hi, hb, hk⟩; refine ⟨_, rfl, ?_⟩; replace HO_421000 := za (Kd.S_mono (Kd.S_keep (IsS61.apartS (show IsS61 w0 _ g s0_0 x1001_1 from by repeat (first | (with_reducible first | exact HI0.out | apply IsS61.alloc | apply IsS61.drewN | apply IsS61.drew | apply IsS61.set_1 | refine IsS61.far ?_ NB0_418.out _ | refine IsS61.far ?_ NB0_419.out _ | refine IsS61.far ?_ NB0_420.out _) | exact HI0.out)) (by (with_reducible repeat (first | apply Kd.S_alloc | apply Kd.S_drewN | apply Kd.S_drew)); exact HO_421000.out) (by decide)) hk (fun _ h => h.2)) (fun _ h => h.1)); replace BK418 := zk hk BK418 NB418_0; replace BK419 := zk hk BK419 NB419_0; replace BK420 := zk hk BK420 NB420_0; replace HK := zt HK hk; replace HB := za (hb); replace HI0 := za (hi); (try clear hb); (try clear hb2); (try clear hk); (try clear hi); obtain ⟨hcz136_0, hfz136_0⟩ := z1 BK420) | ((with_reducible refine gate_callee (f := 21) rfl ?_); refine zL (some 76) Try.func21 #[.pointer (some ⟨g, 0, none⟩), .int .i64 (x421000_2.length : Int)] ?_; (with_reducible refine (awardingbodymake_Tape_Next.calls g s0_0 t453 (x421000_2.length : Int) t454 t455 w0 _ ?side1 ?side2 A97.out).mono ?_); (case side1 => exact (by repeat (first | (with_reducible first | exact HI0.out | apply IsS61.alloc | apply IsS61.drewN | apply IsS61.drew | apply IsS61.set_1 | refine IsS61.far ?_ NB0_418.out _ | refine IsS61.far ?_ NB0_419.out _ | refine IsS61.far ?_ NB0_420.out _) | exact HI0.out))); (case side2 => exact (by repeat (first | (with_reducible first | exact HB.out | apply below_alloc | apply pw_below_drewN | apply below_drew1 | refine below_set ?_ (IsS61.ge HI0.out) | refine below_set ?_ GE418.out | refine below_set ?_ GE419.out | refine below_set ?_ GE420.out) | exact HB.out))); rintro e w137 ⟨rfl, hi, hb, hk⟩; refine ⟨_, rfl, ?_⟩; replace HO_421000 := za (Kd.S_mono (Kd.S_keep (IsS61.apartS (show IsS61 w0 _ g s0_0 t453 from by repeat (first | (with_reducible first | exact HI0.out | apply IsS61.alloc | apply IsS61.drewN | apply IsS61.drew | apply IsS61.set_1 | refine IsS61.far ?_ NB0_418.out _ | refine IsS61.far ?_ NB0_419.out _ | refine IsS61.far ?_ NB0_420.out _) | exact HI0.out)) (by (with_reducible repeat (first | apply Kd.S_alloc | apply Kd.S_drewN | apply Kd.S_drew)); exact HO_421000.out) (by decide)) hk (fun _ h => h.2)) (fun _ h => h.1)); replace BK418 := zk hk BK418 NB418_0; replace BK419 := zk hk BK419 NB419_0; replace BK420 := zk hk BK420 NB420_0; replace HK := zt HK hk; replace HB := za (hb); replace HI0 := za (hi); (try clear hb); (try clear hb2); (try clear hk); (try clear hi)) | ((with_reducible refine gate_callee (f := 21) rfl ?_); refine zL (some 78) Try.func21 #[.pointer (some ⟨g, 0, none⟩), .int .i64 4] ?_; (with_reducible refine (awardingbodymake_Tape_Next.calls g s0_0 t455 4 t456 t457 w0 _ ?side1 ?side2 A98.out).mono ?_); (case side1 => exact (by repeat (first | (with_reducible first | exact HI0.out | apply IsS61.alloc | apply IsS61.drewN | apply IsS61.drew | apply IsS61.set_1 | refine IsS61.far ?_ NB0_418.out _ | refine IsS61.far ?_ NB0_419.out _ | refine IsS61.far ?_ NB0_420.out _) | exact HI0.out))); (case side2 => exact (by repeat (first | (with_reducible first | exact HB.out | apply below_alloc | apply pw_below_drewN | apply below_drew1 | refine below_set ?_ (IsS61.ge HI0.out) | refine below_set ?_ GE418.out | refine below_set ?_ GE419.out | refine below_set ?_ GE420.out) | exact HB.out))); rintro e w138 ⟨rfl, hi, hb, hk⟩; refine ⟨_, rfl, ?_⟩; replace HO_421000 := za (Kd.S_mono (Kd.S_keep (IsS61.apartS (show IsS61 w0 _ g s0_0 t455 from by repeat (first | (with_reducible first | exact HI0.out | apply IsS61.alloc | apply IsS61.drewN | apply IsS61.drew | apply IsS61.set_1 | refine IsS61.far ?_ NB0_418.out _ | refine IsS61.far ?_ NB0_419.out _ | refine IsS61.far ?_ NB0_420.out _) | exact HI0.out)) (by (with_reducible repeat (first | apply Kd.S_alloc | apply Kd.S_drewN | apply Kd.S_drew)); exact HO_421000.out) (by decide)) hk (fun _ h => h.2)) (fun _ h => h.1)); replace BK418 := zk hk BK418 NB418_0; replace BK419 := zk hk BK419 NB419_0; replace BK420 := zk hk BK420 NB420_0; replace HK := zt HK hk; replace HB := za (hb); replace HI0 := za (hi); (try clear hb); (try clear hb2); (try clear hk); (try clear hi); obtain ⟨hcz139_0, hfz139_0⟩ := z1 BK420; have p129 : 0 ≤ (t454 : Int) := of_decide_eq_true (by first | (with_reducible assumption) | assumption); have q129 : (t454 : Int) < ((x421000_2.length : Int) : Int) := of_decide_eq_true (by first | (with_reducible assumption) | assumption); obtain ⟨go129, co129, eo129, gb129, gl129, cl129, HG129⟩ := Kd.S_form HO_421000.out (by omega); (first | cases eo129 | (injection eo129 with ea_ en_ ec_; (first | subst ea_ | (injection ea_ with ea_; subst ea_)); subst ec_; clear en_)); have GB129 := za gb129; have GG129 := za HG129; clear gb129 gl129 HG129; obtain ⟨_, ce129, hcl129, hM129, hcc129, hfr129, _, _⟩ := Kd.S_elem HO_421000.out [] (t454 : Int) p129 q129; obtain ⟨ve129_0, rfl, ge129_0⟩ := id hM129; have hx129_0 := hcc129 0 _ rfl; have hf129_0 := hfr129 0; (try simp only [show ((Kd.slice 3 (Kd.int .i64))).sz = 1 from rfl, Nat.mul_one, Nat.add_zero] at hx129_0); (try simp only [show ((Kd.slice 3 (Kd.int .i64))).sz = 1 from rfl, Nat.mul_one, Nat.add_zero] at hf129_0); clear hcl129 hcc129 hfr129 hM129; replace p129 := eq_true p129; replace q129 := eq_true q129; have HX140 := za (show Kd.S (Kd.slice 3 (Kd.int .i64)) 28 w138 w.heap.size (fun k_ => ((fun _ => True)) k_ ∧ ¬ ((fun _ => False)) k_) (.slice (some ⟨go129, 0, none⟩) x421000_2.length co134) x421000_2 from (by (with_reducible repeat (first | apply Kd.S_alloc | apply Kd.S_drewN | apply Kd.S_drew)); exact Kd.S_mono HO_421000.out (fun k_ hk => ⟨trivial, fun e_ => e_⟩))); obtain ⟨oki140, ce140, hcl140, hM140, hcc140, hfr140, hoki140, hH140⟩ := Kd.S_elem HX140.out [] (t454 : Int) (of_decide_eq_true (by first | (with_reducible assumption) | assumption)) (by have h_ : (t454 : Int) < ((x421000_2.length : Int) : Int) := of_decide_eq_true (by first | (with_reducible assumption) | assumption); first | exact h_ | (have e_ := (Kd.S_reads' HO_421000.out).1; omega) | simpa using h_); obtain ⟨ve140_0, rfl, ge140_0⟩ := id hM140; have HP140 := Kd.S_seg hH140 (of_decide_eq_true (by first | (with_reducible assumption) | assumption)) (by have h_ : (t454 : Int) < ((x421000_2.length : Int) : Int) := of_decide_eq_true (by first | (with_reducible assumption) | assumption); first | exact h_ | (have e_ := (Kd.S_reads' HO_421000.out).1; omega) | simpa using h_) (seg := [.slice none 0 0]) (j := 0) (show 1 ≤ 1 from by decide) (x' := ([] : List Int)) (Kd.M_row (Kd.R_nil _ _ _ _ _)) (fun _ hk => hk) (fun k_ hk_ => hk_.elim); have hx140_0 := hcc140 0 _ rfl; (try simp only [show ((Kd.slice 3 (Kd.int .i64))).sz = 1 from rfl, Nat.mul_one, Nat.add_zero] at hx140_0); have hf140_0 := hfr140 0; (try simp only [show ((Kd.slice 3 (Kd.int .i64))).sz = 1 from rfl, Nat.mul_one, Nat.add_zero] at hf140_0); clear hcl140 hcc140 hfr140 hM140 hoki140 hH140; (try simp only [show ((Kd.slice 3 (Kd.int .i64))).sz = 1 from rfl, Nat.mul_one, Nat.add_zero] at HP140)) | ((with_reducible refine gate_store (t := 28) (p := 107) rfl ?_); refine store_event (t := 28) (p := 107) (v := ?vo_w141) (w1 := (w138.setCell ⟨go129, (t454 : Int).toNat, none⟩ (.slice none 0 0))) ?hg ?ho ?hn ?hr ?_; (case ho => rfl); (case hg => rfl); (case hn => rfl); (case hr => first | (go_simp; done) | (go_simp; rfl)); intro w141 hw; have hg : w138.grownBy w141 (some go129) := (by rw [hw]; exact HP140.2); have hp_ : Kd.S (Kd.slice 3 (Kd.int .i64)) 28 w141 w.heap.size (fun _ => True) (.slice (some ⟨go129, 0, none⟩) x421000_2.length co134) y465 := (by rw [hw, Ny465.out]; exact HP140.1); clear HP140; replace BK418 := (zw BK418 hg (Kd.S_ne HO_421000.out BK418.out (by decide))); replace BK419 := (zw BK419 hg (Kd.S_ne HO_421000.out BK419.out (by decide))); replace BK420 := (zw BK420 hg (Kd.S_ne HO_421000.out BK420.out (by decide))); replace HI0 := za (IsS61.grown (by repeat (first | (with_reducible first | exact HI0.out | apply IsS61.alloc | apply IsS61.drewN | apply IsS61.drew | apply IsS61.set_1 | refine IsS61.far ?_ NB0_418.out _ | refine IsS61.far ?_ NB0_419.out _ | refine IsS61.far ?_ NB0_420.out _) | exact HI0.out)) hg (IsS61.own_neS HI0.out HO_421000.out (by decide))); replace HB := za ((by rw [hw]; exact below_set (HB.out) (Nat.le_trans HL.out GB129.out) : Below w0.heap.size w0 w141)); replace HK := za (KeepBut.trans (by repeat (first | (with_reducible first | exact HK.out | apply KeepBut.set_ | apply keep_drewN | apply keep_drew | apply keep_alloc | refine keep_far ?_ GW418.out _ | refine keep_far ?_ GW419.out _ | refine keep_far ?_ GW420.out _) | exact HK.out)) (KeepBut.of_grown hg g) (Kd.S_base2 HO_421000.out)); replace HO_421000 := za (hp_); clear hg hw hp_; obtain ⟨hcz142_0, hfz142_0⟩ := z1 BK420; have hnb143 := NB419_418.out; have hnc143 := NB418_419.out; have hnb144 := NB419_0.out; have hnc144 := NB0_419.out; obtain ⟨hcz145_0, hfz145_0⟩ := z1 BK419))
             refine bodyPost_ret (results_cell_row rfl _ _ gb419 38 #[.slice (some ⟨go129, 0, none⟩) x421000_2.length co134] (0, 0) _ rfl (by (with_reducible repeat (first | refine blk_drewN ?_ _ | refine blk_drew ?_ | refine blk_alloc ?_ _)); refine blk_put (cs := #[.slice none 0 0]) ?_ 0 _ rfl; (with_reducible repeat (first | refine blk_drewN ?_ _ | refine blk_drew ?_ | refine blk_alloc ?_ _)); exact BK419.out) Try.underlying38 rfl (by kernel_rfl)) rfl ?_
             exact ⟨_, zf, by (with_reducible repeat (first | apply Kd.S_alloc | apply Kd.S_drewN | apply Kd.S_drew)); exact Kd.S_mono (Kd.S_far (p := ⟨gb419, 0, none⟩) (Kd.S_types HO_421000.out BK419.out (by decide)) (fun _ hk => hk.2) (.slice (some ⟨go129, 0, none⟩) x421000_2.length co134)) (fun _ hk => trivial), by repeat (first | (with_reducible first | exact HI0.out | apply IsS61.alloc | apply IsS61.drewN | apply IsS61.drew | apply IsS61.set_1 | refine IsS61.far ?_ NB0_418.out _ | refine IsS61.far ?_ NB0_419.out _ | refine IsS61.far ?_ NB0_420.out _) | exact HI0.out), zm HB, by repeat (first | (with_reducible first | exact HK.out | apply KeepBut.set_ | apply keep_drewN | apply keep_drew | apply keep_alloc | refine keep_far ?_ GW418.out _ | refine keep_far ?_ GW419.out _ | refine keep_far ?_ GW420.out _) | exact HK.out)⟩
            ·rw [if_neg c128] at H
             exact absurd H (by simp)
           ·rw [if_neg c127] at H
            exact absurd H (by simp)
          ·rw [if_neg c126] at H
           have c126b0 : (t456 == 1) = false := beq_eq_false_iff_ne.mpr c126
           have c126b1 : (t456 != 1) = true := bne_iff_ne.mpr c126
           by_cases c146 : t456 = 2
           ·rw [if_pos c146] at H
            have c146b0 : (t456 == 2) = true := beq_iff_eq.mpr c146
            have c146b1 : (t456 != 2) = false := bne_eq_false_iff_eq.mpr c146
            clear c146
            by_cases c147 : 0 ≤ t454
            ·rw [if_pos c147] at H
             have c147b0 := eq_true c147
             have c147b1 : decide (0 ≤ t454) = true := decide_eq_true c147
             clear c147
             by_cases c148 : t454 ≤ (x421000_2.length : Int)
             ·rw [if_pos c148] at H
              have c148b0 := eq_true c148
              have c148b1 : decide (t454 ≤ (x421000_2.length : Int)) = true := decide_eq_true c148
              clear c148
              obtain ⟨y466, hy466⟩ : ∃ y_ : List (List Int), y_ = (x421000_2.take (t454 : Int).toNat) := ⟨_, rfl⟩
              replace H : (some (y466, t457)) = some (r1, r2) := by first | (rw [hy466]; with_reducible exact H) | (have H2_ := (Option.bind_some _ _).symm.trans H; rw [hy466]; with_reducible exact H2_) | (have H2_ := (Option.bind_some _ _).symm.trans H; with_reducible exact H2_) | with_reducible exact H | (rw [hy466]; exact H) | exact H
              have Ny466 := za hy466
              clear hy466
              simp only [Option.some.injEq, Prod.mk.injEq] at H
              obtain ⟨rfl, rfl⟩ := H
              have hnb149 := NB420_418.out
              have hnc149 := NB418_420.out
              have hnb150 := NB420_419.out
              have hnc150 := NB419_420.out
              have hnb151 := NB420_0.out
              have hnc151 := NB0_420.out
              obtain ⟨hcz152_0, hfz152_0⟩ := z1 BK420
              obtain ⟨Ao153, co153, eo153⟩ := Kd.S_slice HO_421000.out
              subst eo153
              go_wp2_with (first | ((with_reducible refine gate_callee (f := 35) rfl ?_); refine zL (some 71) Try.func35 #[.pointer (some ⟨g, 0, none⟩), .int .i64 3] ?_; (with_reducible refine (awardingbodymake_Tape_One.calls g s0_0 x1001_1 3 true t453 w0 _ ?side1 ?side2 A95.out).mono ?_); (case side1 => exact (by repeat (first | (with_reducible first | exact HI0.out | apply IsS61.alloc | apply IsS61.drewN | apply IsS61.drew | apply IsS61.set_1 | refine IsS61.far ?_ NB0_418.out _ | refine IsS61.far ?_ NB0_419.out _ | refine IsS61.far ?_ NB0_420.out _) | exact HI0.out))); (case side2 => exact (by repeat (first | (with_reducible first | exact HB.out | apply below_alloc | apply pw_below_drewN | apply below_drew1 | refine below_set ?_ (IsS61.ge HI0.out) | refine below_set ?_ GE418.out | refine below_set ?_ GE419.out | refine below_set ?_ GE420.out) | exact HB.out))); rintro e w154 ⟨rfl, hi, hb, hk⟩; refine ⟨_, rfl, ?_⟩; replace HO_421000 := za (Kd.S_mono (Kd.S_keep (IsS61.apartS (show IsS61 w0 _ g s0_0 x1001_1 from by repeat (first | (with_reducible first | exact HI0.out | apply IsS61.alloc | apply IsS61.drewN | apply IsS61.drew | apply IsS61.set_1 | refine IsS61.far ?_ NB0_418.out _ | refine IsS61.far ?_ NB0_419.out _ | refine IsS61.far ?_ NB0_420.out _) | exact HI0.out)) (by (with_reducible repeat (first | apply Kd.S_alloc | apply Kd.S_drewN | apply Kd.S_drew)); exact HO_421000.out) (by decide)) hk (fun _ h => h.2)) (fun _ h => h.1)); replace BK418 := zk hk BK418 NB418_0; replace BK419 := zk hk BK419 NB419_0; replace BK420 := zk hk BK420 NB420_0; replace HK := zt HK hk; replace HB := za (hb); replace HI0 := za (hi); (try clear hb); (try clear hb2); (try clear hk); (try clear hi); obtain ⟨hcz155_0, hfz155_0⟩ := z1 BK420) | ((with_reducible refine gate_callee (f := 21) rfl ?_); refine zL (some 76) Try.func21 #[.pointer (some ⟨g, 0, none⟩), .int .i64 (x421000_2.length : Int)] ?_; (with_reducible refine (awardingbodymake_Tape_Next.calls g s0_0 t453 (x421000_2.length : Int) t454 t455 w0 _ ?side1 ?side2 A97.out).mono ?_); (case side1 => exact (by repeat (first | (with_reducible first | exact HI0.out | apply IsS61.alloc | apply IsS61.drewN | apply IsS61.drew | apply IsS61.set_1 | refine IsS61.far ?_ NB0_418.out _ | refine IsS61.far ?_ NB0_419.out _ | refine IsS61.far ?_ NB0_420.out _) | exact HI0.out))); (case side2 => exact (by repeat (first | (with_reducible first | exact HB.out | apply below_alloc | apply pw_below_drewN | apply below_drew1 | refine below_set ?_ (IsS61.ge HI0.out) | refine below_set ?_ GE418.out | refine below_set ?_ GE419.out | refine below_set ?_ GE420.out) | exact HB.out))); rintro e w156 ⟨rfl, hi, hb, hk⟩; refine ⟨_, rfl, ?_⟩; replace HO_421000 := za (Kd.S_mono (Kd.S_keep (IsS61.apartS (show IsS61 w0 _ g s0_0 t453 from by repeat (first | (with_reducible first | exact HI0.out | apply IsS61.alloc | apply IsS61.drewN | apply IsS61.drew | apply IsS61.set_1 | refine IsS61.far ?_ NB0_418.out _ | refine IsS61.far ?_ NB0_419.out _ | refine IsS61.far ?_ NB0_420.out _) | exact HI0.out)) (by (with_reducible repeat (first | apply Kd.S_alloc | apply Kd.S_drewN | apply Kd.S_drew)); exact HO_421000.out) (by decide)) hk (fun _ h => h.2)) (fun _ h => h.1)); replace BK418 := zk hk BK418 NB418_0; replace BK419 := zk hk BK419 NB419_0; replace BK420 := zk hk BK420 NB420_0; replace HK := zt HK hk; replace HB := za (hb); replace HI0 := za (hi); (try clear hb); (try clear hb2); (try clear hk); (try clear hi)) | ((with_reducible refine gate_callee (f := 21) rfl ?_); refine zL (some 78) Try.func21 #[.pointer (some ⟨g, 0, none⟩), .int .i64 4] ?_; (with_reducible refine (awardingbodymake_Tape_Next.calls g s0_0 t455 4 t456 t457 w0 _ ?side1 ?side2 A98.out).mono ?_); (case side1 => exact (by repeat (first | (with_reducible first | exact HI0.out | apply IsS61.alloc | apply IsS61.drewN | apply IsS61.drew | apply IsS61.set_1 | refine IsS61.far ?_ NB0_418.out _ | refine IsS61.far ?_ NB0_419.out _ | refine IsS61.far ?_ NB0_420.out _) | exact HI0.out))); (case side2 => exact (by repeat (first | (with_reducible first | exact HB.out | apply below_alloc | apply pw_below_drewN | apply below_drew1 | refine below_set ?_ (IsS61.ge HI0.out) | refine below_set ?_ GE418.out | refine below_set ?_ GE419.out | refine below_set ?_ GE420.out) | exact HB.out))); rintro e w157 ⟨rfl, hi, hb, hk⟩; refine ⟨_, rfl, ?_⟩; replace HO_421000 := za (Kd.S_mono (Kd.S_keep (IsS61.apartS (show IsS61 w0 _ g s0_0 t455 from by repeat (first | (with_reducible first | exact HI0.out | apply IsS61.alloc | apply IsS61.drewN | apply IsS61.drew | apply IsS61.set_1 | refine IsS61.far ?_ NB0_418.out _ | refine IsS61.far ?_ NB0_419.out _ | refine IsS61.far ?_ NB0_420.out _) | exact HI0.out)) (by (with_reducible repeat (first | apply Kd.S_alloc | apply Kd.S_drewN | apply Kd.S_drew)); exact HO_421000.out) (by decide)) hk (fun _ h => h.2)) (fun _ h => h.1)); replace BK418 := zk hk BK418 NB418_0; replace BK419 := zk hk BK419 NB419_0; replace BK420 := zk hk BK420 NB420_0; replace HK := zt HK hk; replace HB := za (hb); replace HI0 := za (hi); (try clear hb); (try clear hb2); (try clear hk); (try clear hi); obtain ⟨hcz158_0, hfz158_0⟩ := z1 BK420; have q159 : (t454 : Int) ≤ ((x421000_2.length : Int) : Int) := of_decide_eq_true (by first | (with_reducible assumption) | assumption); obtain ⟨i0159, hi0159, _, hsz159, _⟩ := info_parts info28; have hcut159 := cut_to (P := Try.prog) 36 28 .i64 Try.underlying36 hi0159 Ao153 x421000_2.length co153 t454 (of_decide_eq_true (by first | (with_reducible assumption) | assumption)) q159 (Kd.S_reads' HO_421000.out).2.1; have hr159 := Kd.S_take (m := (t454 : Int).toNat) HO_421000.out (by omega); have hy159 : y466.length = (t454 : Int).toNat := (by rw [Ny466.out, List.length_take]; omega); rw [← Ny466.out] at hr159; rw [← hy159] at hr159 hcut159; clear hy159 hi0159 hsz159 HO_421000; have HO468 := za hr159; clear hr159; replace q159 := eq_true q159; have hnb160 := NB419_418.out; have hnc160 := NB418_419.out; have hnb161 := NB419_0.out; have hnc161 := NB0_419.out; obtain ⟨hcz162_0, hfz162_0⟩ := z1 BK419))
              refine bodyPost_ret (results_cell_row rfl _ _ gb419 38 #[.slice Ao153 y466.length co153] (0, 0) _ rfl (by (with_reducible repeat (first | refine blk_drewN ?_ _ | refine blk_drew ?_ | refine blk_alloc ?_ _)); refine blk_put (cs := #[.slice none 0 0]) ?_ 0 _ rfl; (with_reducible repeat (first | refine blk_drewN ?_ _ | refine blk_drew ?_ | refine blk_alloc ?_ _)); refine blk_far ?_ NB419_420.out _; (with_reducible repeat (first | refine blk_drewN ?_ _ | refine blk_drew ?_ | refine blk_alloc ?_ _)); exact BK419.out) Try.underlying38 rfl (by kernel_rfl)) rfl ?_
              exact ⟨_, zf, by (with_reducible repeat (first | apply Kd.S_alloc | apply Kd.S_drewN | apply Kd.S_drew)); exact Kd.S_mono (Kd.S_far (p := ⟨gb419, 0, none⟩) (Kd.S_far (p := ⟨gb420, 0, none⟩) (Kd.S_types (Kd.S_types HO468.out BK420.out (by decide)) BK419.out (by decide)) (fun _ hk => hk.1.2) (.slice Ao153 y466.length co153)) (fun _ hk => hk.2) (.slice Ao153 y466.length co153)) (fun _ hk => trivial), by repeat (first | (with_reducible first | exact HI0.out | apply IsS61.alloc | apply IsS61.drewN | apply IsS61.drew | apply IsS61.set_1 | refine IsS61.far ?_ NB0_418.out _ | refine IsS61.far ?_ NB0_419.out _ | refine IsS61.far ?_ NB0_420.out _) | exact HI0.out), zm HB, by repeat (first | (with_reducible first | exact HK.out | apply KeepBut.set_ | apply keep_drewN | apply keep_drew | apply keep_alloc | refine keep_far ?_ GW418.out _ | refine keep_far ?_ GW419.out _ | refine keep_far ?_ GW420.out _) | exact HK.out)⟩
             ·rw [if_neg c148] at H
              exact absurd H (by simp)
            ·rw [if_neg c147] at H
             exact absurd H (by simp)
           ·rw [if_neg c146] at H
            have c146b0 : (t456 == 2) = false := beq_eq_false_iff_ne.mpr c146
            have c146b1 : (t456 != 2) = true := bne_iff_ne.mpr c146
            by_cases c163 : x421000_2.length + 4 < 5864062014805
            ·rw [if_pos c163] at H
             have LMc163 := za c163
             clear c163
             obtain ⟨y469, hy469⟩ : ∃ y_ : List (List Int), y_ = (x421000_2 ++ List.replicate 4 []) := ⟨_, rfl⟩
             replace H : (some (y469, t457)) = some (r1, r2) := by first | (rw [hy469]; with_reducible exact H) | (have H2_ := (Option.bind_some _ _).symm.trans H; rw [hy469]; with_reducible exact H2_) | (have H2_ := (Option.bind_some _ _).symm.trans H; with_reducible exact H2_) | with_reducible exact H | (rw [hy469]; exact H) | exact H
             have Ny469 := za hy469
             clear hy469
             simp only [Option.some.injEq, Prod.mk.injEq] at H
             obtain ⟨rfl, rfl⟩ := H
             have hnb164 := NB420_418.out
             have hnc164 := NB418_420.out
             have hnb165 := NB420_419.out
             have hnc165 := NB419_420.out
             have hnb166 := NB420_0.out
             have hnc166 := NB0_420.out
             obtain ⟨hcz167_0, hfz167_0⟩ := z1 BK420
             obtain ⟨Ao168, co168, eo168⟩ := Kd.S_slice HO_421000.out
             subst eo168
             go_wp2_with (first | ((with_reducible refine gate_callee (f := 35) rfl ?_); refine zL (some 71) Try.func35 #[.pointer (some ⟨g, 0, none⟩), .int .i64 3] ?_; (with_reducible refine (awardingbodymake_Tape_One.calls g s0_0 x1001_1 3 true t453 w0 _ ?side1 ?side2 A95.out).mono ?_); (case side1 => exact (by repeat (first | (with_reducible first | exact HI0.out | apply IsS61.alloc | apply IsS61.drewN | apply IsS61.drew | apply IsS61.set_1 | refine IsS61.far ?_ NB0_418.out _ | refine IsS61.far ?_ NB0_419.out _ | refine IsS61.far ?_ NB0_420.out _) | exact HI0.out))); (case side2 => exact (by repeat (first | (with_reducible first | exact HB.out | apply below_alloc | apply pw_below_drewN | apply below_drew1 | refine below_set ?_ (IsS61.ge HI0.out) | refine below_set ?_ GE418.out | refine below_set ?_ GE419.out | refine below_set ?_ GE420.out) | exact HB.out))); rintro e w169 ⟨rfl, hi, hb, hk⟩; refine ⟨_, rfl, ?_⟩; replace HO_421000 := za (Kd.S_mono (Kd.S_keep (IsS61.apartS (show IsS61 w0 _ g s0_0 x1001_1 from by repeat (first | (with_reducible first | exact HI0.out | apply IsS61.alloc | apply IsS61.drewN | apply IsS61.drew | apply IsS61.set_1 | refine IsS61.far ?_ NB0_418.out _ | refine IsS61.far ?_ NB0_419.out _ | refine IsS61.far ?_ NB0_420.out _) | exact HI0.out)) (by (with_reducible repeat (first | apply Kd.S_alloc | apply Kd.S_drewN | apply Kd.S_drew)); exact HO_421000.out) (by decide)) hk (fun _ h => h.2)) (fun _ h => h.1)); replace BK418 := zk hk BK418 NB418_0; replace BK419 := zk hk BK419 NB419_0; replace BK420 := zk hk BK420 NB420_0; replace HK := zt HK hk; replace HB := za (hb); replace HI0 := za (hi); (try clear hb); (try clear hb2); (try clear hk); (try clear hi); obtain ⟨hcz170_0, hfz170_0⟩ := z1 BK420) | ((with_reducible refine gate_callee (f := 21) rfl ?_); refine zL (some 76) Try.func21 #[.pointer (some ⟨g, 0, none⟩), .int .i64 (x421000_2.length : Int)] ?_; (with_reducible refine (awardingbodymake_Tape_Next.calls g s0_0 t453 (x421000_2.length : Int) t454 t455 w0 _ ?side1 ?side2 A97.out).mono ?_); (case side1 => exact (by repeat (first | (with_reducible first | exact HI0.out | apply IsS61.alloc | apply IsS61.drewN | apply IsS61.drew | apply IsS61.set_1 | refine IsS61.far ?_ NB0_418.out _ | refine IsS61.far ?_ NB0_419.out _ | refine IsS61.far ?_ NB0_420.out _) | exact HI0.out))); (case side2 => exact (by repeat (first | (with_reducible first | exact HB.out | apply below_alloc | apply pw_below_drewN | apply below_drew1 | refine below_set ?_ (IsS61.ge HI0.out) | refine below_set ?_ GE418.out | refine below_set ?_ GE419.out | refine below_set ?_ GE420.out) | exact HB.out))); rintro e w171 ⟨rfl, hi, hb, hk⟩; refine ⟨_, rfl, ?_⟩; replace HO_421000 := za (Kd.S_mono (Kd.S_keep (IsS61.apartS (show IsS61 w0 _ g s0_0 t453 from by repeat (first | (with_reducible first | exact HI0.out | apply IsS61.alloc | apply IsS61.drewN | apply IsS61.drew | apply IsS61.set_1 | refine IsS61.far ?_ NB0_418.out _ | refine IsS61.far ?_ NB0_419.out _ | refine IsS61.far ?_ NB0_420.out _) | exact HI0.out)) (by (with_reducible repeat (first | apply Kd.S_alloc | apply Kd.S_drewN | apply Kd.S_drew)); exact HO_421000.out) (by decide)) hk (fun _ h => h.2)) (fun _ h => h.1)); replace BK418 := zk hk BK418 NB418_0; replace BK419 := zk hk BK419 NB419_0; replace BK420 := zk hk BK420 NB420_0; replace HK := zt HK hk; replace HB := za (hb); replace HI0 := za (hi); (try clear hb); (try clear hb2); (try clear hk); (try clear hi)) | ((with_reducible refine gate_callee (f := 21) rfl ?_); refine zL (some 78) Try.func21 #[.pointer (some ⟨g, 0, none⟩), .int .i64 4] ?_; (with_reducible refine (awardingbodymake_Tape_Next.calls g s0_0 t455 4 t456 t457 w0 _ ?side1 ?side2 A98.out).mono ?_); (case side1 => exact (by repeat (first | (with_reducible first | exact HI0.out | apply IsS61.alloc | apply IsS61.drewN | apply IsS61.drew | apply IsS61.set_1 | refine IsS61.far ?_ NB0_418.out _ | refine IsS61.far ?_ NB0_419.out _ | refine IsS61.far ?_ NB0_420.out _) | exact HI0.out))); (case side2 => exact (by repeat (first | (with_reducible first | exact HB.out | apply below_alloc | apply pw_below_drewN | apply below_drew1 | refine below_set ?_ (IsS61.ge HI0.out) | refine below_set ?_ GE418.out | refine below_set ?_ GE419.out | refine below_set ?_ GE420.out) | exact HB.out))); rintro e w172 ⟨rfl, hi, hb, hk⟩; refine ⟨_, rfl, ?_⟩; replace HO_421000 := za (Kd.S_mono (Kd.S_keep (IsS61.apartS (show IsS61 w0 _ g s0_0 t455 from by repeat (first | (with_reducible first | exact HI0.out | apply IsS61.alloc | apply IsS61.drewN | apply IsS61.drew | apply IsS61.set_1 | refine IsS61.far ?_ NB0_418.out _ | refine IsS61.far ?_ NB0_419.out _ | refine IsS61.far ?_ NB0_420.out _) | exact HI0.out)) (by (with_reducible repeat (first | apply Kd.S_alloc | apply Kd.S_drewN | apply Kd.S_drew)); exact HO_421000.out) (by decide)) hk (fun _ h => h.2)) (fun _ h => h.1)); replace BK418 := zk hk BK418 NB418_0; replace BK419 := zk hk BK419 NB419_0; replace BK420 := zk hk BK420 NB420_0; replace HK := zt HK hk; replace HB := za (hb); replace HI0 := za (hi); (try clear hb); (try clear hb2); (try clear hk); (try clear hi); obtain ⟨hcz173_0, hfz173_0⟩ := z1 BK420) | ((with_reducible refine gate_builtin (b := .append) (xs := #[.tmp 80, .tmp 81]) rfl ?_); at_builtin; refine Kd.S_append_nils (Kd.slice 3 (Kd.int .i64)) w.heap.size rfl (.tmp 80) (.tmp 81) 36 28 (.slice none 0 0) 24 rfl Try.underlying36 info28 rfl (by decide) (by omega) (.slice Ao168 x421000_2.length co168) x421000_2 4 [.slice none 0 0, .slice none 0 0, .slice none 0 0, .slice none 0 0] [] (fun _ => True) rfl rfl rfl ?aP ?aF ?aO (Below.refl _ _) ?aS ?aL ?_; (case aP => exact (Kd.M_row (Kd.R_nil _ _ _ _ _))); (case aF => exact (fun _ _ => trivial)); (case aO => exact (by (with_reducible repeat (first | apply Kd.S_alloc | apply Kd.S_drewN | apply Kd.S_drew)); exact HO_421000.out)); (case aS => exact (keep_size (w := w) (g := g) (row := none) (by repeat (first | (with_reducible first | exact HK.out | apply KeepBut.set_ | apply keep_drewN | apply keep_drew | apply keep_alloc | refine keep_far ?_ GW418.out _ | refine keep_far ?_ GW419.out _ | refine keep_far ?_ GW420.out _) | exact HK.out)))); (case aL => have := LMc163.out; omega); intro v470 w174 ho hb hg hat; rw [← Ny469.out] at ho; have HO471 := za (ho); replace BK418 := (zw BK418 hg (Kd.S_ne HO_421000.out BK418.out (by decide))); replace BK419 := (zw BK419 hg (Kd.S_ne HO_421000.out BK419.out (by decide))); replace BK420 := (zw BK420 hg (Kd.S_ne HO_421000.out BK420.out (by decide))); replace HI0 := za (IsS61.grown (by repeat (first | (with_reducible first | exact HI0.out | apply IsS61.alloc | apply IsS61.drewN | apply IsS61.drew | apply IsS61.set_1 | refine IsS61.far ?_ NB0_418.out _ | refine IsS61.far ?_ NB0_419.out _ | refine IsS61.far ?_ NB0_420.out _) | exact HI0.out)) hg (IsS61.own_neS HI0.out HO_421000.out (by decide))); replace HB := za (below_weaken (zm HB) HL.out hb); replace HK := za (KeepBut.trans (by repeat (first | (with_reducible first | exact HK.out | apply KeepBut.set_ | apply keep_drewN | apply keep_drew | apply keep_alloc | refine keep_far ?_ GW418.out _ | refine keep_far ?_ GW419.out _ | refine keep_far ?_ GW420.out _) | exact HK.out)) (KeepBut.of_grown hg g) (Kd.S_base2 HO_421000.out)); clear HO_421000 ho hb hg hat; obtain ⟨Ao175, co175, eo175⟩ := Kd.S_slice HO471.out; subst eo175; obtain ⟨hcz176_0, hfz176_0⟩ := z1 BK420; have hnb177 := NB419_418.out; have hnc177 := NB418_419.out; have hnb178 := NB419_0.out; have hnc178 := NB0_419.out; obtain ⟨hcz179_0, hfz179_0⟩ := z1 BK419))
             refine bodyPost_ret (results_cell_row rfl _ _ gb419 38 #[.slice Ao175 y469.length co175] (0, 0) _ rfl (by (with_reducible repeat (first | refine blk_drewN ?_ _ | refine blk_drew ?_ | refine blk_alloc ?_ _)); refine blk_put (cs := #[.slice none 0 0]) ?_ 0 _ rfl; (with_reducible repeat (first | refine blk_drewN ?_ _ | refine blk_drew ?_ | refine blk_alloc ?_ _)); refine blk_far ?_ NB419_420.out _; (with_reducible repeat (first | refine blk_drewN ?_ _ | refine blk_drew ?_ | refine blk_alloc ?_ _)); exact BK419.out) Try.underlying38 rfl (by kernel_rfl)) rfl ?_
             exact ⟨_, zf, by (with_reducible repeat (first | apply Kd.S_alloc | apply Kd.S_drewN | apply Kd.S_drew)); exact Kd.S_mono (Kd.S_far (p := ⟨gb419, 0, none⟩) (Kd.S_far (p := ⟨gb420, 0, none⟩) (Kd.S_types (Kd.S_types HO471.out BK420.out (by decide)) BK419.out (by decide)) (fun _ hk => hk.1.2) (.slice Ao175 y469.length co175)) (fun _ hk => hk.2) (.slice Ao175 y469.length co175)) (fun _ hk => trivial), by repeat (first | (with_reducible first | exact HI0.out | apply IsS61.alloc | apply IsS61.drewN | apply IsS61.drew | apply IsS61.set_1 | refine IsS61.far ?_ NB0_418.out _ | refine IsS61.far ?_ NB0_419.out _ | refine IsS61.far ?_ NB0_420.out _) | exact HI0.out), zm HB, by repeat (first | (with_reducible first | exact HK.out | apply KeepBut.set_ | apply keep_drewN | apply keep_drew | apply keep_alloc | refine keep_far ?_ GW418.out _ | refine keep_far ?_ GW419.out _ | refine keep_far ?_ GW420.out _) | exact HK.out)⟩
            ·rw [if_neg c163] at H
             exact absurd H (by simp)
        ·replace c96 := Bool.eq_false_iff.mpr c96
         subst c96
         have H1 : (some (x421000_2, t453)) = some (r1, r2) := by rw [if_neg (show ¬ (false = true) by decide)] at H; exact H
         clear H
         have H := H1
         clear H1
         simp only [Option.some.injEq, Prod.mk.injEq] at H
         obtain ⟨rfl, rfl⟩ := H
         have hnb180 := NB420_418.out
         have hnc180 := NB418_420.out
         have hnb181 := NB420_419.out
         have hnc181 := NB419_420.out
         have hnb182 := NB420_0.out
         have hnc182 := NB0_420.out
         obtain ⟨hcz183_0, hfz183_0⟩ := z1 BK420
         obtain ⟨Ao184, co184, eo184⟩ := Kd.S_slice HO_421000.out
         subst eo184
         go_wp2_with (first | ((with_reducible refine gate_callee (f := 35) rfl ?_); refine zL (some 71) Try.func35 #[.pointer (some ⟨g, 0, none⟩), .int .i64 3] ?_; (with_reducible refine (awardingbodymake_Tape_One.calls g s0_0 x1001_1 3 false t453 w0 _ ?side1 ?side2 A95.out).mono ?_); (case side1 => exact (by repeat (first | (with_reducible first | exact HI0.out | apply IsS61.alloc | apply IsS61.drewN | apply IsS61.drew | apply IsS61.set_1 | refine IsS61.far ?_ NB0_418.out _ | refine IsS61.far ?_ NB0_419.out _ | refine IsS61.far ?_ NB0_420.out _) | exact HI0.out))); (case side2 => exact (by repeat (first | (with_reducible first | exact HB.out | apply below_alloc | apply pw_below_drewN | apply below_drew1 | refine below_set ?_ (IsS61.ge HI0.out) | refine below_set ?_ GE418.out | refine below_set ?_ GE419.out | refine below_set ?_ GE420.out) | exact HB.out))); rintro e w185 ⟨rfl, hi, hb, hk⟩; refine ⟨_, rfl, ?_⟩; replace HO_421000 := za (Kd.S_mono (Kd.S_keep (IsS61.apartS (show IsS61 w0 _ g s0_0 x1001_1 from by repeat (first | (with_reducible first | exact HI0.out | apply IsS61.alloc | apply IsS61.drewN | apply IsS61.drew | apply IsS61.set_1 | refine IsS61.far ?_ NB0_418.out _ | refine IsS61.far ?_ NB0_419.out _ | refine IsS61.far ?_ NB0_420.out _) | exact HI0.out)) (by (with_reducible repeat (first | apply Kd.S_alloc | apply Kd.S_drewN | apply Kd.S_drew)); exact HO_421000.out) (by decide)) hk (fun _ h => h.2)) (fun _ h => h.1)); replace BK418 := zk hk BK418 NB418_0; replace BK419 := zk hk BK419 NB419_0; replace BK420 := zk hk BK420 NB420_0; replace HK := zt HK hk; replace HB := za (hb); replace HI0 := za (hi); (try clear hb); (try clear hb2); (try clear hk); (try clear hi); obtain ⟨hcz186_0, hfz186_0⟩ := z1 BK420; have hnb187 := NB419_418.out; have hnc187 := NB418_419.out; have hnb188 := NB419_0.out; have hnc188 := NB0_419.out; obtain ⟨hcz189_0, hfz189_0⟩ := z1 BK419))
         refine bodyPost_ret (results_cell_row rfl _ _ gb419 38 #[.slice Ao184 x421000_2.length co184] (0, 0) _ rfl (by (with_reducible repeat (first | refine blk_drewN ?_ _ | refine blk_drew ?_ | refine blk_alloc ?_ _)); refine blk_put (cs := #[.slice none 0 0]) ?_ 0 _ rfl; (with_reducible repeat (first | refine blk_drewN ?_ _ | refine blk_drew ?_ | refine blk_alloc ?_ _)); exact BK419.out) Try.underlying38 rfl (by kernel_rfl)) rfl ?_
         exact ⟨_, zf, by (with_reducible repeat (first | apply Kd.S_alloc | apply Kd.S_drewN | apply Kd.S_drew)); exact Kd.S_mono (Kd.S_far (p := ⟨gb419, 0, none⟩) (Kd.S_types HO_421000.out BK419.out (by decide)) (fun _ hk => hk.2) (.slice Ao184 x421000_2.length co184)) (fun _ hk => trivial), by repeat (first | (with_reducible first | exact HI0.out | apply IsS61.alloc | apply IsS61.drewN | apply IsS61.drew | apply IsS61.set_1 | refine IsS61.far ?_ NB0_418.out _ | refine IsS61.far ?_ NB0_419.out _ | refine IsS61.far ?_ NB0_420.out _) | exact HI0.out), zm HB, by repeat (first | (with_reducible first | exact HK.out | apply KeepBut.set_ | apply keep_drewN | apply keep_drew | apply keep_alloc | refine keep_far ?_ GW418.out _ | refine keep_far ?_ GW419.out _ | refine keep_far ?_ GW420.out _) | exact HK.out)⟩
       ·rw [if_neg c94] at H
        have c94b0 : (((x421000_2.length : Int) % 4) == 0) = false := beq_eq_false_iff_ne.mpr c94
        have c94b1 : (((x421000_2.length : Int) % 4) != 0) = true := bne_iff_ne.mpr c94
        by_cases c190 : x421000_2.length < 5864062014805
        ·rw [if_pos c190] at H
         have LMc190 := za c190
         clear c190
         obtain ⟨y449, hy449⟩ : ∃ y_ : List (List Int), y_ = (x421000_2 ++ [[]]) := ⟨_, rfl⟩
         replace H : (awardingbodylaw12_shaped.l1 k2 s0_0 x1001_1 a1_0 a1_1 l1_2 y449) = some (r1, r2) := by first | (rw [hy449]; with_reducible exact H) | (have H2_ := (Option.bind_some _ _).symm.trans H; rw [hy449]; with_reducible exact H2_) | (have H2_ := (Option.bind_some _ _).symm.trans H; with_reducible exact H2_) | with_reducible exact H | (rw [hy449]; exact H) | exact H
         have Ny449 := za hy449
         clear hy449
         have H' := za H
         clear H
         have hnb191 := NB420_418.out
         have hnc191 := NB418_420.out
         have hnb192 := NB420_419.out
         have hnc192 := NB419_420.out
         have hnb193 := NB420_0.out
         have hnc193 := NB0_420.out
         obtain ⟨hcz194_0, hfz194_0⟩ := z1 BK420
         obtain ⟨Ao195, co195, eo195⟩ := Kd.S_slice HO_421000.out
         subst eo195
         go_wp2_with (first | ((with_reducible refine gate_builtin (b := .append) (xs := #[.tmp 66, .tmp 67]) rfl ?_); at_builtin; refine Kd.S_append (Kd.slice 3 (Kd.int .i64)) w.heap.size rfl (.tmp 66) (.tmp 67) 36 28 (.slice none 0 0) 24 rfl Try.underlying36 info28 rfl (by decide) (by omega) (.slice Ao195 x421000_2.length co195) x421000_2 ([] : List Int) [.slice none 0 0] (fun _ => True) (fun _ => False) rfl rfl ?aP (fun k_ hk_ => hk_.elim) ?aF ?aO (Below.refl _ _) ?aS ?aL ?_; (case aP => exact Kd.M_row (Kd.R_nil _ _ _ _ _)); (case aF => exact (fun _ _ => trivial)); (case aO => exact (by (with_reducible repeat (first | apply Kd.S_alloc | apply Kd.S_drewN | apply Kd.S_drew)); exact Kd.S_mono HO_421000.out (fun k_ hk => ⟨trivial, fun e_ => e_⟩))); (case aS => exact (keep_size (w := w) (g := g) (row := none) (by repeat (first | (with_reducible first | exact HK.out | apply KeepBut.set_ | apply keep_drewN | apply keep_drew | apply keep_alloc | refine keep_far ?_ GW418.out _ | refine keep_far ?_ GW419.out _ | refine keep_far ?_ GW420.out _) | exact HK.out)))); (case aL => have := LMc190.out; omega); intro v450 w196 ho hb hg hat; rw [← Ny449.out] at ho; have HO451 := za (ho); replace BK418 := (zw BK418 hg (Kd.S_ne HO_421000.out BK418.out (by decide))); replace BK419 := (zw BK419 hg (Kd.S_ne HO_421000.out BK419.out (by decide))); replace BK420 := (zw BK420 hg (Kd.S_ne HO_421000.out BK420.out (by decide))); replace HI0 := za (IsS61.grown (by repeat (first | (with_reducible first | exact HI0.out | apply IsS61.alloc | apply IsS61.drewN | apply IsS61.drew | apply IsS61.set_1 | refine IsS61.far ?_ NB0_418.out _ | refine IsS61.far ?_ NB0_419.out _ | refine IsS61.far ?_ NB0_420.out _) | exact HI0.out)) hg (IsS61.own_neS HI0.out HO_421000.out (by decide))); replace HB := za (below_weaken (zm HB) HL.out hb); replace HK := za (KeepBut.trans (by repeat (first | (with_reducible first | exact HK.out | apply KeepBut.set_ | apply keep_drewN | apply keep_drew | apply keep_alloc | refine keep_far ?_ GW418.out _ | refine keep_far ?_ GW419.out _ | refine keep_far ?_ GW420.out _) | exact HK.out)) (KeepBut.of_grown hg g) (Kd.S_base2 HO_421000.out)); clear HO_421000 ho hb hg hat; obtain ⟨Ao197, co197, eo197⟩ := Kd.S_slice HO451.out; subst eo197; obtain ⟨hcz198_0, hfz198_0⟩ := z1 BK420))
         go_roundg k2
         case measure => have := HK1.out; have := HK2.out; omega
         case rel => exact ⟨(y449), (.slice Ao197 y449.length co197), H', ⟨by have := HK1.out; have := HK2.out; omega⟩, ⟨by (with_reducible repeat (first | apply Kd.S_alloc | apply Kd.S_drewN | apply Kd.S_drew)); exact Kd.S_mono (Kd.S_far (p := ⟨gb420, 0, none⟩) (Kd.S_types HO451.out BK420.out (by decide)) (fun _ hk => hk.2) (.slice Ao197 y449.length co197)) (fun _ hk => trivial)⟩, ⟨by (with_reducible repeat (first | refine blk_drewN ?_ _ | refine blk_drew ?_ | refine blk_alloc ?_ _)); refine blk_far ?_ NB418_420.out _; (with_reducible repeat (first | refine blk_drewN ?_ _ | refine blk_drew ?_ | refine blk_alloc ?_ _)); exact BK418.out⟩, ⟨by (with_reducible repeat (first | refine blk_drewN ?_ _ | refine blk_drew ?_ | refine blk_alloc ?_ _)); refine blk_far ?_ NB419_420.out _; (with_reducible repeat (first | refine blk_drewN ?_ _ | refine blk_drew ?_ | refine blk_alloc ?_ _)); exact BK419.out⟩, ⟨by (with_reducible repeat (first | refine blk_drewN ?_ _ | refine blk_drew ?_ | refine blk_alloc ?_ _)); refine blk_put (cs := #[.slice Ao195 x421000_2.length co195]) ?_ 0 _ rfl; (with_reducible repeat (first | refine blk_drewN ?_ _ | refine blk_drew ?_ | refine blk_alloc ?_ _)); exact BK420.out⟩, ⟨by repeat (first | (with_reducible first | exact HI0.out | apply IsS61.alloc | apply IsS61.drewN | apply IsS61.drew | apply IsS61.set_1 | refine IsS61.far ?_ NB0_418.out _ | refine IsS61.far ?_ NB0_419.out _ | refine IsS61.far ?_ NB0_420.out _) | exact HI0.out)⟩, ⟨by repeat (first | (with_reducible first | exact HK.out | apply KeepBut.set_ | apply keep_drewN | apply keep_drew | apply keep_alloc | refine keep_far ?_ GW418.out _ | refine keep_far ?_ GW419.out _ | refine keep_far ?_ GW420.out _) | exact HK.out)⟩, ⟨zm HB⟩⟩
        ·rw [if_neg c190] at H
         exact absurd H (by simp)
 ·rw [if_neg c3] at H
  exact absurd H (by simp)

end Go.Proofs.Ytdmlbgdefapcjaa.Print
