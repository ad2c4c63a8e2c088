-- Printed by a program of this session (wip/own_print.py) out of the translation; Lean checks it.
import Derived.Test.YtinmdoemkejanaaPrint0
import Derived.Test.YtinmdoemkejanaaPrint5
import Derived.Test.YtinmdoemkejanaaPrint6
import Derived.Test.YtinmdoemkejanaaPrint7
import Derived.Test.YtinmdoemkejanaaPrint9
import Derived.Test.YtinmdoemkejanaaPrint10
import Derived.Test.YtinmdoemkejanaaPrint12
import Derived.Test.YtinmdoemkejanaaPrint17
namespace Go.Proofs.Ytinmdoemkejanaa.Print
open Go.RowKit Go.Proofs.YtinmdoemkejanaaW.PrintWords Go.Proofs.YtinmdoemkejanaaW.PrintLast Go.Proofs.YtinmdoemkejanaaW.PrintMore
attribute [local go_sem] max2_int min2_int max_two min_two max_three min_three max_four min_four   -- for this text's walks alone
set_option linter.unusedVariables false
set_option linter.unusedSimpArgs false

/-! ### awardingbodylaw06_ItemMaterial: function 6 -/
mutual
def awardingbodylaw06_ItemMaterial.j0 : Nat → Bool → List Int → Int → Int → Int → ByteArray → List (S23) → List Int → Int → Int → ByteArray → List (S23) → List Int → Option (Bool)
  | 0, _, _, _, _, _, _, _, _, _, _, _, _, _ => none
  | k + 1, x20, x392000, x392001, x403000, x403001, x403002, x403003, x403004, x414000, x414001, x414002, x414003, x414004 => if x20 = true then ((some (([] : List (S23)) : List (S23))).bind fun y416 => (if y416.length + x403003.length < 2932031007402 then ((some (y416 ++ x403003 : List (S23))).bind fun y419 => ((awardingbodymake_Tape_Next.f x392000 x392001 (y419.length : Int)).bind fun bt422 => ((awardingbodymake_Tape_Part.f k x392000 bt422.2 0).bind fun bt424 => (if 0 ≤ bt422.1 then (if bt422.1 < (y419.length : Int) then (awardingbodylaw06_ItemMaterial.j1 k x403000 x403001 x403002 x403003 x403004 x414000 x414001 x414002 (y419.set (bt422.1 : Int).toNat (⟨bt424.1, bt424.2.1, bt424.2.2.1, bt424.2.2.2.1, bt424.2.2.2.2.1, bt424.2.2.2.2.2.1⟩ : S23)) x414004) else (none)) else (none))))) else (none))) else (awardingbodylaw06_ItemMaterial.j1 k x403000 x403001 x403002 x403003 x403004 x414000 x414001 x414002 x414003 x414004)
def awardingbodylaw06_ItemMaterial.j1 : Nat → Int → Int → ByteArray → List (S23) → List Int → Int → Int → ByteArray → List (S23) → List Int → Option (Bool)
  | 0, _, _, _, _, _, _, _, _, _, _ => none
  | k + 1, x403000, x403001, x403002, x403003, x403004, x414000, x414001, x414002, x414003, x414004 => (item_Material.f k x403000 x403001 x403002 x403003 x403004 x414000 x414001 x414002 x414003 x414004).bind fun t432 => ((awardingbodyref06_Material.f k x403000 x403001 x403002 x403003 x403004 x414000 x414001 x414002 x414003 x414004).bind fun t435 => ((awardingbodyref06_Ints.f k t432 t435).bind fun t438 => (if t438 = true then ((item_Material.f k x403000 x403001 x403002 x403003 x403004 x414000 x414001 x414002 x414003 x414004).bind fun t439 => ((item_Material.f k x414000 x414001 x414002 x414003 x414004 x403000 x403001 x403002 x403003 x403004).bind fun t442 => ((awardingbodyref06_Ints.f k t439 t442).bind fun t445 => (if t445 = true then ((item_Material.f k x403000 x403001 x403002 x403003 x403004 x403000 x403001 x403002 x403003 x403004).bind fun t446 => (if (t446.length : Int) = 0 then ((awardingbodylaw06_awake.f k).bind fun t449 => (some t449)) else (none))) else (none))))) else (none))))
end
def awardingbodylaw06_ItemMaterial.f (k : Nat) (l0 : List Int) : Option (Bool) := (awardingbodymake_New.f l0).bind fun bt389 => ((awardingbodymake_Tape_Item.f k bt389.1 bt389.2 1 1 4).bind fun bt392 => ((awardingbodymake_Tape_Item.f k bt389.1 bt392.2.2.2.2.2 2 2 4).bind fun bt403 => ((awardingbodymake_Tape_Next.f bt389.1 bt403.2.2.2.2.2 2).bind fun bt414 => (if bt414.1 = 0 then (awardingbodylaw06_ItemMaterial.j0 k (decide ((bt392.2.2.2.1.length : Int) > 0)) bt389.1 bt414.2 bt392.1 bt392.2.1 bt392.2.2.1 bt392.2.2.2.1 bt392.2.2.2.2.1 bt403.1 bt403.2.1 bt403.2.2.1 bt403.2.2.2.1 bt403.2.2.2.2.1) else (awardingbodylaw06_ItemMaterial.j0 k false bt389.1 bt414.2 bt392.1 bt392.2.1 bt392.2.2.1 bt392.2.2.2.1 bt392.2.2.2.2.1 bt403.1 bt403.2.1 bt403.2.2.1 bt403.2.2.2.1 bt403.2.2.2.2.1)))))
theorem awardingbodylaw06_ItemMaterial.mono_l : ∀ k, (∀ y0 y1 y2 y3 y4 y5 y6 y7 y8 y9 y10 y11 y12, LeO (awardingbodylaw06_ItemMaterial.j0 k y0 y1 y2 y3 y4 y5 y6 y7 y8 y9 y10 y11 y12) (awardingbodylaw06_ItemMaterial.j0 (k + 1) y0 y1 y2 y3 y4 y5 y6 y7 y8 y9 y10 y11 y12)) ∧ (∀ y0 y1 y2 y3 y4 y5 y6 y7 y8 y9, LeO (awardingbodylaw06_ItemMaterial.j1 k y0 y1 y2 y3 y4 y5 y6 y7 y8 y9) (awardingbodylaw06_ItemMaterial.j1 (k + 1) y0 y1 y2 y3 y4 y5 y6 y7 y8 y9))
  | 0 => ⟨fun _ _ _ _ _ _ _ _ _ _ _ _ _ r h => by simp [awardingbodylaw06_ItemMaterial.j0] at h, fun _ _ _ _ _ _ _ _ _ _ r h => by simp [awardingbodylaw06_ItemMaterial.j1] at h⟩
  | k + 1 => by
    obtain ⟨ih0, ih1⟩ := awardingbodylaw06_ItemMaterial.mono_l k
    refine ⟨?_, ?_⟩
    · intro y0 y1 y2 y3 y4 y5 y6 y7 y8 y9 y10 y11 y12
      unfold awardingbodylaw06_ItemMaterial.j0
      repeat' first
      | (with_reducible exact ih0 _ _ _ _ _ _ _ _ _ _ _ _ _)
      | (with_reducible exact ih1 _ _ _ _ _ _ _ _ _ _)
      | (with_reducible exact awardingbodylaw06_awake.mono _)
      | (with_reducible exact awardingbodymake_Tape_Item.mono _ _ _ _ _ _)
      | (with_reducible exact awardingbodymake_Tape_Part.mono _ _ _ _)
      | (with_reducible exact awardingbodyref06_Ints.mono _ _ _)
      | (with_reducible exact awardingbodyref06_Material.mono _ _ _ _ _ _ _ _ _ _ _)
      | (with_reducible exact item_Material.mono _ _ _ _ _ _ _ _ _ _ _)
      | (with_reducible exact LeO.refl _)
      | (with_reducible exact LeO.none _)
      | (with_reducible refine LeO.ite ?_ ?_)
      | (with_reducible refine LeO.bind ?_ (fun _ => ?_))
      | exact ih0 _ _ _ _ _ _ _ _ _ _ _ _ _
      | exact ih1 _ _ _ _ _ _ _ _ _ _
      | exact awardingbodylaw06_awake.mono _
      | exact awardingbodymake_Tape_Item.mono _ _ _ _ _ _
      | exact awardingbodymake_Tape_Part.mono _ _ _ _
      | exact awardingbodyref06_Ints.mono _ _ _
      | exact awardingbodyref06_Material.mono _ _ _ _ _ _ _ _ _ _ _
      | exact item_Material.mono _ _ _ _ _ _ _ _ _ _ _
      | exact LeO.none _
      | refine LeO.ite ?_ ?_
      | refine LeO.bind ?_ (fun _ => ?_)
    · intro y0 y1 y2 y3 y4 y5 y6 y7 y8 y9
      unfold awardingbodylaw06_ItemMaterial.j1
      repeat' first
      | (with_reducible exact ih0 _ _ _ _ _ _ _ _ _ _ _ _ _)
      | (with_reducible exact ih1 _ _ _ _ _ _ _ _ _ _)
      | (with_reducible exact awardingbodylaw06_awake.mono _)
      | (with_reducible exact awardingbodymake_Tape_Item.mono _ _ _ _ _ _)
      | (with_reducible exact awardingbodymake_Tape_Part.mono _ _ _ _)
      | (with_reducible exact awardingbodyref06_Ints.mono _ _ _)
      | (with_reducible exact awardingbodyref06_Material.mono _ _ _ _ _ _ _ _ _ _ _)
      | (with_reducible exact item_Material.mono _ _ _ _ _ _ _ _ _ _ _)
      | (with_reducible exact LeO.refl _)
      | (with_reducible exact LeO.none _)
      | (with_reducible refine LeO.ite ?_ ?_)
      | (with_reducible refine LeO.bind ?_ (fun _ => ?_))
      | exact ih0 _ _ _ _ _ _ _ _ _ _ _ _ _
      | exact ih1 _ _ _ _ _ _ _ _ _ _
      | exact awardingbodylaw06_awake.mono _
      | exact awardingbodymake_Tape_Item.mono _ _ _ _ _ _
      | exact awardingbodymake_Tape_Part.mono _ _ _ _
      | exact awardingbodyref06_Ints.mono _ _ _
      | exact awardingbodyref06_Material.mono _ _ _ _ _ _ _ _ _ _ _
      | exact item_Material.mono _ _ _ _ _ _ _ _ _ _ _
      | exact LeO.none _
      | refine LeO.ite ?_ ?_
      | refine LeO.bind ?_ (fun _ => ?_)
theorem awardingbodylaw06_ItemMaterial.mono : ∀ a0 k, LeO (awardingbodylaw06_ItemMaterial.f k a0) (awardingbodylaw06_ItemMaterial.f (k + 1) a0) := by
  intro a0 k
  obtain ⟨ih0, ih1⟩ := awardingbodylaw06_ItemMaterial.mono_l k
  unfold awardingbodylaw06_ItemMaterial.f
  repeat' first
      | (with_reducible exact ih0 _ _ _ _ _ _ _ _ _ _ _ _ _)
      | (with_reducible exact ih1 _ _ _ _ _ _ _ _ _ _)
      | (with_reducible exact awardingbodylaw06_awake.mono _)
      | (with_reducible exact awardingbodymake_Tape_Item.mono _ _ _ _ _ _)
      | (with_reducible exact awardingbodymake_Tape_Part.mono _ _ _ _)
      | (with_reducible exact awardingbodyref06_Ints.mono _ _ _)
      | (with_reducible exact awardingbodyref06_Material.mono _ _ _ _ _ _ _ _ _ _ _)
      | (with_reducible exact item_Material.mono _ _ _ _ _ _ _ _ _ _ _)
      | (with_reducible exact LeO.refl _)
      | (with_reducible exact LeO.none _)
      | (with_reducible refine LeO.ite ?_ ?_)
      | (with_reducible refine LeO.bind ?_ (fun _ => ?_))
      | exact ih0 _ _ _ _ _ _ _ _ _ _ _ _ _
      | exact ih1 _ _ _ _ _ _ _ _ _ _
      | exact awardingbodylaw06_awake.mono _
      | exact awardingbodymake_Tape_Item.mono _ _ _ _ _ _
      | exact awardingbodymake_Tape_Part.mono _ _ _ _
      | exact awardingbodyref06_Ints.mono _ _ _
      | exact awardingbodyref06_Material.mono _ _ _ _ _ _ _ _ _ _ _
      | exact item_Material.mono _ _ _ _ _ _ _ _ _ _ _
      | exact LeO.none _
      | refine LeO.ite ?_ ?_
      | refine LeO.bind ?_ (fun _ => ?_)
def awardingbodylaw06_ItemMaterial.T6 : Bool × List (List Nat × List Nat) := (true, [([], []), ([0], [0]), ([], []), ([], []), ([3], [3]), ([4], [4]), ([2, 5], [2, 5]), ([], []), ([7, 6], [7]), ([1, 6, 0, 1, 2, 3, 4, 5, 6, 7, 8], [1, 6]), ([9, 8, 8, 0, 1, 2, 3, 4, 5, 6, 7, 8], [8, 9])])
def awardingbodylaw06_ItemMaterial.B6 : List Nat := [0, 1, 0, 0, 8, 24, 60, 0, 252, 511, 1023]
theorem awardingbodylaw06_ItemMaterial.tab6 : rtab .any (opsOf Try.f6 6) = awardingbodylaw06_ItemMaterial.T6 := by kernel_rfl
theorem awardingbodylaw06_ItemMaterial.bits6 : waitsOk awardingbodylaw06_ItemMaterial.T6.2 awardingbodylaw06_ItemMaterial.B6 = true := by kernel_rfl
def awardingbodylaw06_ItemMaterial.T7 : Bool × List (List Nat × List Nat) := (true, [([], []), ([], []), ([0, 1], [0, 1]), ([], []), ([], []), ([3, 4, 2], [3, 4]), ([2, 5, 5], [2, 5]), ([6, 6], [6]), ([7], [7]), ([7], [7]), ([8, 9, 7, 7], [7, 8, 9]), ([7], [7]), ([7], [7]), ([11, 12, 10, 7], [7, 11, 12]), ([10, 13, 13, 7], [7, 10, 13]), ([7, 14], [7, 14]), ([15, 14], [15]), ([16], [16]), ([16], [16]), ([17, 18, 16, 16], [16, 17, 18]), ([19, 16], [16, 19]), ([20, 16], [16, 20]), ([16, 21], [16, 21]), ([22, 19], [22]), ([23, 23], [23]), ([23, 24], [23, 24]), ([25, 24, 0, 1, 2, 3, 4, 5, 6, 7, 8, 9, 10, 11, 12, 13, 14, 15, 16, 17, 18, 19, 20, 21, 22, 23, 24, 25], [25])])
def awardingbodylaw06_ItemMaterial.B7 : List Nat := [0, 0, 3, 0, 0, 31, 63, 127, 255, 255, 1023, 255, 255, 8191, 16383, 32767, 65535, 131071, 131071, 524287, 1048575, 2097151, 4194303, 8388607, 16777215, 33554431, 67108863]
theorem awardingbodylaw06_ItemMaterial.tab7 : rtab .any (opsOf Try.f6 7) = awardingbodylaw06_ItemMaterial.T7 := by kernel_rfl
theorem awardingbodylaw06_ItemMaterial.bits7 : waitsOk awardingbodylaw06_ItemMaterial.T7.2 awardingbodylaw06_ItemMaterial.B7 = true := by kernel_rfl
set_option maxHeartbeats 8000000 in
set_option maxRecDepth 100000 in
theorem awardingbodylaw06_ItemMaterial.calls (k : Nat) (A0 : Option Addr) (c0 : Nat) (l0 : List Int) (r : Bool) (w : World) (hr0 : Kd.C (Kd.int .i64) w A0 l0.length l0) (hc0 : l0.length ≤ c0) (h : awardingbodylaw06_ItemMaterial.f k l0 = some r) :
    Calls Try.prog 6 #[.slice A0 l0.length c0] w fun e w' => e = .returned (.bool r) ∧ Below w.heap.size w w' := by
 have hu33 := Try.underlying33
 have hu23 := Try.underlying23
 have HR0 := Aside0.mk hr0
 have HC0 := Aside0.mk hc0
 clear hr0 hc0
 have HB := Aside0.mk (Below.refl w.heap.size w)
 have H : ((awardingbodymake_New.f l0).bind fun bt389 => ((awardingbodymake_Tape_Item.f k bt389.1 bt389.2 1 1 4).bind fun bt392 => ((awardingbodymake_Tape_Item.f k bt389.1 bt392.2.2.2.2.2 2 2 4).bind fun bt403 => ((awardingbodymake_Tape_Next.f bt389.1 bt403.2.2.2.2.2 2).bind fun bt414 => (if bt414.1 = 0 then (awardingbodylaw06_ItemMaterial.j0 k (decide ((bt392.2.2.2.1.length : Int) > 0)) bt389.1 bt414.2 bt392.1 bt392.2.1 bt392.2.2.1 bt392.2.2.2.1 bt392.2.2.2.2.1 bt403.1 bt403.2.1 bt403.2.2.1 bt403.2.2.2.1 bt403.2.2.2.2.1) else (awardingbodylaw06_ItemMaterial.j0 k false bt389.1 bt414.2 bt392.1 bt392.2.1 bt392.2.2.1 bt392.2.2.2.1 bt392.2.2.2.2.1 bt403.1 bt403.2.1 bt403.2.2.1 bt403.2.2.2.1 bt403.2.2.2.2.1)))))) = some r := h
 clear h
 replace H := Option.bind_eq_some_iff.mp H
 obtain ⟨⟨t389, t390⟩, A20, H⟩ := H
 replace H : ((awardingbodymake_Tape_Item.f k t389 t390 1 1 4).bind fun bt392 => ((awardingbodymake_Tape_Item.f k t389 bt392.2.2.2.2.2 2 2 4).bind fun bt403 => ((awardingbodymake_Tape_Next.f t389 bt403.2.2.2.2.2 2).bind fun bt414 => (if bt414.1 = 0 then (awardingbodylaw06_ItemMaterial.j0 k (decide ((bt392.2.2.2.1.length : Int) > 0)) t389 bt414.2 bt392.1 bt392.2.1 bt392.2.2.1 bt392.2.2.2.1 bt392.2.2.2.2.1 bt403.1 bt403.2.1 bt403.2.2.1 bt403.2.2.2.1 bt403.2.2.2.2.1) else (awardingbodylaw06_ItemMaterial.j0 k false t389 bt414.2 bt392.1 bt392.2.1 bt392.2.2.1 bt392.2.2.2.1 bt392.2.2.2.2.1 bt403.1 bt403.2.1 bt403.2.2.1 bt403.2.2.2.1 bt403.2.2.2.2.1))))) = some r := H
 have A2 := Aside0.mk A20
 clear A20
 replace H := Option.bind_eq_some_iff.mp H
 obtain ⟨⟨t392, t393, t394, t395, t398, t401⟩, A30, H⟩ := H
 replace H : ((awardingbodymake_Tape_Item.f k t389 t401 2 2 4).bind fun bt403 => ((awardingbodymake_Tape_Next.f t389 bt403.2.2.2.2.2 2).bind fun bt414 => (if bt414.1 = 0 then (awardingbodylaw06_ItemMaterial.j0 k (decide ((t395.length : Int) > 0)) t389 bt414.2 t392 t393 t394 t395 t398 bt403.1 bt403.2.1 bt403.2.2.1 bt403.2.2.2.1 bt403.2.2.2.2.1) else (awardingbodylaw06_ItemMaterial.j0 k false t389 bt414.2 t392 t393 t394 t395 t398 bt403.1 bt403.2.1 bt403.2.2.1 bt403.2.2.2.1 bt403.2.2.2.2.1)))) = some r := H
 have A3 := Aside0.mk A30
 clear A30
 replace H := Option.bind_eq_some_iff.mp H
 obtain ⟨⟨t403, t404, t405, t406, t409, t412⟩, A40, H⟩ := H
 replace H : ((awardingbodymake_Tape_Next.f t389 t412 2).bind fun bt414 => (if bt414.1 = 0 then (awardingbodylaw06_ItemMaterial.j0 k (decide ((t395.length : Int) > 0)) t389 bt414.2 t392 t393 t394 t395 t398 t403 t404 t405 t406 t409) else (awardingbodylaw06_ItemMaterial.j0 k false t389 bt414.2 t392 t393 t394 t395 t398 t403 t404 t405 t406 t409))) = some r := H
 have A4 := Aside0.mk A40
 clear A40
 have HC5 := Aside0.mk H
 clear H
 go_enter Try.func6, Try.ntmps6
 go_upto_region 4 with (first | ((with_reducible refine gate_callee (f := 15) rfl ?_); refine goesL_ (some 7) rfl rfl Try.func15 (by kernel_rfl) rfl #[.slice A0 l0.length c0] rfl (by (try simp only [List.map_toArray, List.map_cons, List.map_nil]); first | done | rfl | (simp only [List.length_drop, List.length_take]; rfl)) ?_; (with_reducible refine (awardingbodymake_New.calls _ _ l0 t389 t390 w _ ?side1 ?side2 ?side3 A2.out).mono ?_); (case side1 => repeat (first | (with_reducible first | exact HB.out | apply below_alloc | apply pw_below_drewN | apply below_drew1) | exact HB.out)); (case side2 => exact HR0.out); (case side3 => exact HC0.out); rintro e w6 ⟨g391, rfl, hi, hb, hb2⟩; refine ⟨_, rfl, ?_⟩; have n0_ := Aside0.mk (hb); have n1_ := Aside0.mk (hi); clear HB; have HB := n0_; have HI391 := n1_; clear n0_ n1_; (try clear hb); (try clear hb2); (try clear hk); (try clear hi)) | ((with_reducible refine gate_callee (f := 16) rfl ?_); refine goesL_ (some 9) rfl rfl Try.func16 (by kernel_rfl) rfl #[.pointer (some ⟨g391, 0, none⟩), .int .i64 1, .int .i64 1, .int .i64 4] rfl (by (try simp only [List.map_toArray, List.map_cons, List.map_nil]); first | done | rfl | (simp only [List.length_drop, List.length_take]; rfl)) ?_; (with_reducible refine (awardingbodymake_Tape_Item.calls k g391 t389 t390 1 1 4 t392 t393 t394 t395 t398 t401 w _ ?side1 ?side2 A3.out).mono ?_); (case side1 => repeat (first | (with_reducible first | exact HI391.out | apply IsS54.alloc | apply IsS54.drewN | apply IsS54.drew | apply IsS54.set_1) | exact HI391.out)); (case side2 => repeat (first | (with_reducible first | exact HB.out | apply below_alloc | apply pw_below_drewN | apply below_drew1 | refine below_set ?_ (IsS54.ge HI391.out)) | exact HB.out)); rintro e w7 ⟨v396, v399, rfl, ho0, ho1, hi, hb, hk⟩; refine ⟨_, rfl, ?_⟩; have n0_ := Aside0.mk (Kd.R_lower ho0 (below_size (by repeat (first | (with_reducible first | exact HB.out | apply below_alloc | apply pw_below_drewN | apply below_drew1 | refine below_set ?_ (IsS54.ge HI391.out)) | exact HB.out)))); have n1_ := Aside0.mk (Kd.R_lower ho1 (below_size (by repeat (first | (with_reducible first | exact HB.out | apply below_alloc | apply pw_below_drewN | apply below_drew1 | refine below_set ?_ (IsS54.ge HI391.out)) | exact HB.out)))); have n2_ := Aside0.mk (hb); have n3_ := Aside0.mk (hi); clear HB HI391; have HO397 := n0_; have HO400 := n1_; have HB := n2_; have HI391 := n3_; clear n0_ n1_ n2_ n3_; (try clear hb); (try clear hb2); (try clear hk); (try clear hi); (try clear ho0); (try clear ho1)) | ((with_reducible refine gate_dst (N := 4) rfl ?_); (try (refine gate_guard (by rfl) ?_; dsimp only)); refine box_event ?hg (N := 4) ?hd (cs := #[.int .i64 0, .int .i64 0, .string (⟨#[]⟩ : ByteArray), .slice none 0 0, .slice none 0 0]) (t := 33) ?hr ?_; (case hd => rfl); (case hg => rfl); (case hr => first | (go_simp; done) | (go_simp; rfl)); intro gb402 hg w8 hbox hb; have n0_ := Aside0.mk (Kd.R_below (by (with_reducible repeat (first | apply Kd.R_alloc | apply Kd.R_drewN | apply Kd.R_drew)); exact HO397.out) hb); have n1_ := Aside0.mk (Kd.R_below (by (with_reducible repeat (first | apply Kd.R_alloc | apply Kd.R_drewN | apply Kd.R_drew)); exact HO400.out) hb); have n2_ := Aside0.mk (IsS54.below (by repeat (first | (with_reducible first | exact HI391.out | apply IsS54.alloc | apply IsS54.drewN | apply IsS54.drew | apply IsS54.set_1) | exact HI391.out)) hb); have n3_ := Aside0.mk (below_step (by repeat (first | (with_reducible first | exact HB.out | apply below_alloc | apply pw_below_drewN | apply below_drew1 | refine below_set ?_ (IsS54.ge HI391.out)) | exact HB.out)) hb); have n4_ := Aside0.mk (hbox); have n5_ := Aside0.mk ((by rw [hg]; exact (below_size (by repeat (first | (with_reducible first | exact HB.out | apply below_alloc | apply pw_below_drewN | apply below_drew1 | refine below_set ?_ (IsS54.ge HI391.out)) | exact HB.out))) : w.heap.size ≤ gb402)); have n6_ := Aside0.mk ((by rw [hg]; exact (below_size (by repeat (first | (with_reducible first | exact HB.out | apply below_alloc | apply pw_below_drewN | apply below_drew1 | refine below_set ?_ (IsS54.ge HI391.out)) | exact HB.out))) : w.heap.size ≤ gb402)); have n7_ := Aside0.mk ((by rw [hg]; exact Nat.ne_of_lt (IsS54.lt (show IsS54 w _ g391 t389 t401 from by repeat (first | (with_reducible first | exact HI391.out | apply IsS54.alloc | apply IsS54.drewN | apply IsS54.drew | apply IsS54.set_1) | exact HI391.out))) : g391 ≠ gb402)); have n8_ := Aside0.mk ((by rw [hg]; exact Nat.ne_of_gt (IsS54.lt (show IsS54 w _ g391 t389 t401 from by repeat (first | (with_reducible first | exact HI391.out | apply IsS54.alloc | apply IsS54.drewN | apply IsS54.drew | apply IsS54.set_1) | exact HI391.out))) : gb402 ≠ g391)); clear HO397 HO400 HI391 HB; have HO397 := n0_; have HO400 := n1_; have HI391 := n2_; have HB := n3_; have BK402 := n4_; have GW402 := n5_; have GE402 := n6_; have NB391_402 := n7_; have NB402_391 := n8_; clear n0_ n1_ n2_ n3_ n4_ n5_ n6_ n7_ n8_ hb hbox hg; have hnb9 := NB402_391.out; have hnc9 := NB391_402.out; have hcz10_0 : w8.cell? ⟨gb402, 0, none⟩ = some (.int .i64 0) := (blk_cell BK402.out 0).trans rfl; have hcz10_1 : w8.cell? ⟨gb402, 1, none⟩ = some (.int .i64 0) := (blk_cell BK402.out 1).trans rfl; have hcz10_2 : w8.cell? ⟨gb402, 2, none⟩ = some (.string (⟨#[]⟩ : ByteArray)) := (blk_cell BK402.out 2).trans rfl; have hcz10_3 : w8.cell? ⟨gb402, 3, none⟩ = some (.slice none 0 0) := (blk_cell BK402.out 3).trans rfl; have hcz10_4 : w8.cell? ⟨gb402, 4, none⟩ = some (.slice none 0 0) := (blk_cell BK402.out 4).trans rfl; have hfz10_0 := blk_frozen BK402.out 0; have hfz10_1 := blk_frozen BK402.out 1; have hfz10_2 := blk_frozen BK402.out 2; have hfz10_3 := blk_frozen BK402.out 3; have hfz10_4 := blk_frozen BK402.out 4; obtain ⟨Ao11, co11, eo11⟩ := Kd.R_slice HO397.out; subst eo11; obtain ⟨Ao12, co12, eo12⟩ := Kd.R_slice HO400.out; subst eo12) | ((with_reducible refine gate_callee (f := 16) rfl ?_); refine goesL_ (some 11) rfl rfl Try.func16 (by kernel_rfl) rfl #[.pointer (some ⟨g391, 0, none⟩), .int .i64 2, .int .i64 2, .int .i64 4] rfl (by (try simp only [List.map_toArray, List.map_cons, List.map_nil]); first | done | rfl | (simp only [List.length_drop, List.length_take]; rfl)) ?_; (with_reducible refine (awardingbodymake_Tape_Item.calls k g391 t389 t401 2 2 4 t403 t404 t405 t406 t409 t412 w _ ?side1 ?side2 A4.out).mono ?_); (case side1 => repeat (first | (with_reducible first | exact HI391.out | apply IsS54.alloc | apply IsS54.drewN | apply IsS54.drew | apply IsS54.set_1 | refine IsS54.far ?_ NB391_402.out _) | exact HI391.out)); (case side2 => repeat (first | (with_reducible first | exact HB.out | apply below_alloc | apply pw_below_drewN | apply below_drew1 | refine below_set ?_ (IsS54.ge HI391.out) | refine below_set ?_ GE402.out) | exact HB.out)); rintro e w13 ⟨v407, v410, rfl, ho0, ho1, hi, hb, hk⟩; refine ⟨_, rfl, ?_⟩; have n0_ := Aside0.mk (Kd.R_mono (Kd.R_told (Kd.R_oldK (IsS54.apart (show IsS54 w _ g391 t389 t401 from by repeat (first | (with_reducible first | exact HI391.out | apply IsS54.alloc | apply IsS54.drewN | apply IsS54.drew | apply IsS54.set_1 | refine IsS54.far ?_ NB391_402.out _) | exact HI391.out)) (by (with_reducible repeat (first | apply Kd.R_alloc | apply Kd.R_drewN | apply Kd.R_drew)); exact (Kd.R_mono (Kd.R_far (p := ⟨gb402, 4, none⟩) (Kd.R_far (p := ⟨gb402, 3, none⟩) (Kd.R_far (p := ⟨gb402, 2, none⟩) (Kd.R_far (p := ⟨gb402, 1, none⟩) (Kd.R_far (p := ⟨gb402, 0, none⟩) (Kd.R_types HO397.out BK402.out (by decide)) (fun _ hk => hk.2) (.int .i64 t392)) (fun _ hk => hk.2) (.int .i64 t393)) (fun _ hk => hk.2) (.string t394)) (fun _ hk => hk.2) (.slice Ao11 t395.length co11)) (fun _ hk => hk.2) (.slice Ao12 t398.length co12)) (fun _ h_ => h_.1))) (by decide)) hk) (Kd.R_base ho0)) (fun _ h_ => h_.1)); have n1_ := Aside0.mk (Kd.R_mono (Kd.R_told (Kd.R_oldK (IsS54.apart (show IsS54 w _ g391 t389 t401 from by repeat (first | (with_reducible first | exact HI391.out | apply IsS54.alloc | apply IsS54.drewN | apply IsS54.drew | apply IsS54.set_1 | refine IsS54.far ?_ NB391_402.out _) | exact HI391.out)) (by (with_reducible repeat (first | apply Kd.R_alloc | apply Kd.R_drewN | apply Kd.R_drew)); exact (Kd.R_mono (Kd.R_far (p := ⟨gb402, 4, none⟩) (Kd.R_far (p := ⟨gb402, 3, none⟩) (Kd.R_far (p := ⟨gb402, 2, none⟩) (Kd.R_far (p := ⟨gb402, 1, none⟩) (Kd.R_far (p := ⟨gb402, 0, none⟩) (Kd.R_types HO400.out BK402.out (by decide)) (fun _ hk => hk.2) (.int .i64 t392)) (fun _ hk => hk.2) (.int .i64 t393)) (fun _ hk => hk.2) (.string t394)) (fun _ hk => hk.2) (.slice Ao11 t395.length co11)) (fun _ hk => hk.2) (.slice Ao12 t398.length co12)) (fun _ h_ => h_.1))) (by decide)) hk) (Kd.R_base ho1)) (fun _ h_ => h_.1)); have n2_ := Aside0.mk (KeepBut.blk hk (g' := gb402) (o := .cells #[.int .i64 t392, .int .i64 t393, .string t394, .slice Ao11 t395.length co11, .slice Ao12 t398.length co12] 33 (0, 0)) (by (with_reducible repeat (first | refine blk_drewN ?_ _ | refine blk_drew ?_ | refine blk_alloc ?_ _)); refine blk_put (cs := #[.int .i64 t392, .int .i64 t393, .string t394, .slice Ao11 t395.length co11, .slice none 0 0]) ?_ 4 _ rfl; (with_reducible repeat (first | refine blk_drewN ?_ _ | refine blk_drew ?_ | refine blk_alloc ?_ _)); refine blk_put (cs := #[.int .i64 t392, .int .i64 t393, .string t394, .slice none 0 0, .slice none 0 0]) ?_ 3 _ rfl; (with_reducible repeat (first | refine blk_drewN ?_ _ | refine blk_drew ?_ | refine blk_alloc ?_ _)); refine blk_put (cs := #[.int .i64 t392, .int .i64 t393, .string (⟨#[]⟩ : ByteArray), .slice none 0 0, .slice none 0 0]) ?_ 2 _ rfl; (with_reducible repeat (first | refine blk_drewN ?_ _ | refine blk_drew ?_ | refine blk_alloc ?_ _)); refine blk_put (cs := #[.int .i64 t392, .int .i64 0, .string (⟨#[]⟩ : ByteArray), .slice none 0 0, .slice none 0 0]) ?_ 1 _ rfl; (with_reducible repeat (first | refine blk_drewN ?_ _ | refine blk_drew ?_ | refine blk_alloc ?_ _)); refine blk_put (cs := #[.int .i64 0, .int .i64 0, .string (⟨#[]⟩ : ByteArray), .slice none 0 0, .slice none 0 0]) ?_ 0 _ rfl; (with_reducible repeat (first | refine blk_drewN ?_ _ | refine blk_drew ?_ | refine blk_alloc ?_ _)); exact BK402.out) NB402_391.out (by simp)); have n3_ := Aside0.mk (Kd.R_lower (Kd.R_new' ho0 (Kd.R_lt (by (with_reducible repeat (first | apply Kd.R_alloc | apply Kd.R_drewN | apply Kd.R_drew)); exact (Kd.R_mono (Kd.R_far (p := ⟨gb402, 4, none⟩) (Kd.R_far (p := ⟨gb402, 3, none⟩) (Kd.R_far (p := ⟨gb402, 2, none⟩) (Kd.R_far (p := ⟨gb402, 1, none⟩) (Kd.R_far (p := ⟨gb402, 0, none⟩) (Kd.R_types HO397.out BK402.out (by decide)) (fun _ hk => hk.2) (.int .i64 t392)) (fun _ hk => hk.2) (.int .i64 t393)) (fun _ hk => hk.2) (.string t394)) (fun _ hk => hk.2) (.slice Ao11 t395.length co11)) (fun _ hk => hk.2) (.slice Ao12 t398.length co12)) (fun _ h_ => h_.1))))) (below_size (by repeat (first | (with_reducible first | exact HB.out | apply below_alloc | apply pw_below_drewN | apply below_drew1 | refine below_set ?_ (IsS54.ge HI391.out) | refine below_set ?_ GE402.out) | exact HB.out)))); have n4_ := Aside0.mk (Kd.R_lower (Kd.R_new' ho1 (Kd.R_lt (by (with_reducible repeat (first | apply Kd.R_alloc | apply Kd.R_drewN | apply Kd.R_drew)); exact (Kd.R_mono (Kd.R_far (p := ⟨gb402, 4, none⟩) (Kd.R_far (p := ⟨gb402, 3, none⟩) (Kd.R_far (p := ⟨gb402, 2, none⟩) (Kd.R_far (p := ⟨gb402, 1, none⟩) (Kd.R_far (p := ⟨gb402, 0, none⟩) (Kd.R_types HO400.out BK402.out (by decide)) (fun _ hk => hk.2) (.int .i64 t392)) (fun _ hk => hk.2) (.int .i64 t393)) (fun _ hk => hk.2) (.string t394)) (fun _ hk => hk.2) (.slice Ao11 t395.length co11)) (fun _ hk => hk.2) (.slice Ao12 t398.length co12)) (fun _ h_ => h_.1))))) (below_size (by repeat (first | (with_reducible first | exact HB.out | apply below_alloc | apply pw_below_drewN | apply below_drew1 | refine below_set ?_ (IsS54.ge HI391.out) | refine below_set ?_ GE402.out) | exact HB.out)))); have n5_ := Aside0.mk (hb); have n6_ := Aside0.mk (hi); clear HO397 HO400 BK402 HB HI391; have HO397 := n0_; have HO400 := n1_; have BK402 := n2_; have HO408 := n3_; have HO411 := n4_; have HB := n5_; have HI391 := n6_; clear n0_ n1_ n2_ n3_ n4_ n5_ n6_; (try clear hb); (try clear hb2); (try clear hk); (try clear hi); (try clear ho0); (try clear ho1)) | ((with_reducible refine gate_dst (N := 5) rfl ?_); (try (refine gate_guard (by rfl) ?_; dsimp only)); refine box_event ?hg (N := 5) ?hd (cs := #[.int .i64 0, .int .i64 0, .string (⟨#[]⟩ : ByteArray), .slice none 0 0, .slice none 0 0]) (t := 33) ?hr ?_; (case hd => rfl); (case hg => rfl); (case hr => first | (go_simp; done) | (go_simp; rfl)); intro gb413 hg w14 hbox hb; have n0_ := Aside0.mk (Kd.R_below (by (with_reducible repeat (first | apply Kd.R_alloc | apply Kd.R_drewN | apply Kd.R_drew)); exact HO397.out) hb); have n1_ := Aside0.mk (Kd.R_below (by (with_reducible repeat (first | apply Kd.R_alloc | apply Kd.R_drewN | apply Kd.R_drew)); exact HO400.out) hb); have n2_ := Aside0.mk (Kd.R_below (by (with_reducible repeat (first | apply Kd.R_alloc | apply Kd.R_drewN | apply Kd.R_drew)); exact HO408.out) hb); have n3_ := Aside0.mk (Kd.R_below (by (with_reducible repeat (first | apply Kd.R_alloc | apply Kd.R_drewN | apply Kd.R_drew)); exact HO411.out) hb); have n4_ := Aside0.mk (IsS54.below (by repeat (first | (with_reducible first | exact HI391.out | apply IsS54.alloc | apply IsS54.drewN | apply IsS54.drew | apply IsS54.set_1 | refine IsS54.far ?_ NB391_402.out _) | exact HI391.out)) hb); have n5_ := Aside0.mk (blk_below (g := gb402) (o := .cells #[.int .i64 t392, .int .i64 t393, .string t394, .slice Ao11 t395.length co11, .slice Ao12 t398.length co12] 33 (0, 0)) (by (with_reducible repeat (first | refine blk_drewN ?_ _ | refine blk_drew ?_ | refine blk_alloc ?_ _)); exact BK402.out) hb); have n6_ := Aside0.mk (below_step (by repeat (first | (with_reducible first | exact HB.out | apply below_alloc | apply pw_below_drewN | apply below_drew1 | refine below_set ?_ (IsS54.ge HI391.out) | refine below_set ?_ GE402.out) | exact HB.out)) hb); have n7_ := Aside0.mk (hbox); have n8_ := Aside0.mk ((by rw [hg]; exact (below_size (by repeat (first | (with_reducible first | exact HB.out | apply below_alloc | apply pw_below_drewN | apply below_drew1 | refine below_set ?_ (IsS54.ge HI391.out) | refine below_set ?_ GE402.out) | exact HB.out))) : w.heap.size ≤ gb413)); have n9_ := Aside0.mk ((by rw [hg]; exact (below_size (by repeat (first | (with_reducible first | exact HB.out | apply below_alloc | apply pw_below_drewN | apply below_drew1 | refine below_set ?_ (IsS54.ge HI391.out) | refine below_set ?_ GE402.out) | exact HB.out))) : w.heap.size ≤ gb413)); have n10_ := Aside0.mk ((by rw [hg]; exact Nat.ne_of_lt (blk_lt (g := gb402) (o := .cells #[.int .i64 t392, .int .i64 t393, .string t394, .slice Ao11 t395.length co11, .slice Ao12 t398.length co12] 33 (0, 0)) (by (with_reducible repeat (first | refine blk_drewN ?_ _ | refine blk_drew ?_ | refine blk_alloc ?_ _)); exact BK402.out)) : gb402 ≠ gb413)); have n11_ := Aside0.mk ((by rw [hg]; exact Nat.ne_of_gt (blk_lt (g := gb402) (o := .cells #[.int .i64 t392, .int .i64 t393, .string t394, .slice Ao11 t395.length co11, .slice Ao12 t398.length co12] 33 (0, 0)) (by (with_reducible repeat (first | refine blk_drewN ?_ _ | refine blk_drew ?_ | refine blk_alloc ?_ _)); exact BK402.out)) : gb413 ≠ gb402)); have n12_ := Aside0.mk ((by rw [hg]; exact Nat.ne_of_lt (IsS54.lt (show IsS54 w _ g391 t389 t412 from by repeat (first | (with_reducible first | exact HI391.out | apply IsS54.alloc | apply IsS54.drewN | apply IsS54.drew | apply IsS54.set_1 | refine IsS54.far ?_ NB391_402.out _) | exact HI391.out))) : g391 ≠ gb413)); have n13_ := Aside0.mk ((by rw [hg]; exact Nat.ne_of_gt (IsS54.lt (show IsS54 w _ g391 t389 t412 from by repeat (first | (with_reducible first | exact HI391.out | apply IsS54.alloc | apply IsS54.drewN | apply IsS54.drew | apply IsS54.set_1 | refine IsS54.far ?_ NB391_402.out _) | exact HI391.out))) : gb413 ≠ g391)); clear HO397 HO400 HO408 HO411 HI391 BK402 HB; have HO397 := n0_; have HO400 := n1_; have HO408 := n2_; have HO411 := n3_; have HI391 := n4_; have BK402 := n5_; have HB := n6_; have BK413 := n7_; have GW413 := n8_; have GE413 := n9_; have NB402_413 := n10_; have NB413_402 := n11_; have NB391_413 := n12_; have NB413_391 := n13_; clear n0_ n1_ n2_ n3_ n4_ n5_ n6_ n7_ n8_ n9_ n10_ n11_ n12_ n13_ hb hbox hg; have hnb15 := NB413_402.out; have hnc15 := NB402_413.out; have hnb16 := NB413_391.out; have hnc16 := NB391_413.out; have hcz17_0 : w14.cell? ⟨gb413, 0, none⟩ = some (.int .i64 0) := (blk_cell BK413.out 0).trans rfl; have hcz17_1 : w14.cell? ⟨gb413, 1, none⟩ = some (.int .i64 0) := (blk_cell BK413.out 1).trans rfl; have hcz17_2 : w14.cell? ⟨gb413, 2, none⟩ = some (.string (⟨#[]⟩ : ByteArray)) := (blk_cell BK413.out 2).trans rfl; have hcz17_3 : w14.cell? ⟨gb413, 3, none⟩ = some (.slice none 0 0) := (blk_cell BK413.out 3).trans rfl; have hcz17_4 : w14.cell? ⟨gb413, 4, none⟩ = some (.slice none 0 0) := (blk_cell BK413.out 4).trans rfl; have hfz17_0 := blk_frozen BK413.out 0; have hfz17_1 := blk_frozen BK413.out 1; have hfz17_2 := blk_frozen BK413.out 2; have hfz17_3 := blk_frozen BK413.out 3; have hfz17_4 := blk_frozen BK413.out 4; obtain ⟨Ao18, co18, eo18⟩ := Kd.R_slice HO408.out; subst eo18; obtain ⟨Ao19, co19, eo19⟩ := Kd.R_slice HO411.out; subst eo19))
 (try simp only [Act.put, List.setIfInBounds_toArray, List.set_cons_zero, List.set_cons_succ])
 go_cut [20] (fun v20 wc => ∃ (kq : Nat) (x20_4 : Bool) (x392001_4 : Int), v20 = .bool x20_4 ∧ Aside0 (awardingbodylaw06_ItemMaterial.j0 kq x20_4 t389 x392001_4 t392 t393 t394 t395 t398 t403 t404 t405 t406 t409 = some r) ∧ Aside0 (kq ≤ k) ∧ Aside0 (Kd.R k23 23 wc w.heap.size (fun k_ => some k_ ≠ ((.slice Ao18 t406.length co18) : Value).ownBlock) (.slice Ao11 t395.length co11) t395) ∧ Aside0 (Kd.R (Kd.int .i64) 3 wc w.heap.size (fun k_ => some k_ ≠ ((.slice Ao19 t409.length co19) : Value).ownBlock) (.slice Ao12 t398.length co12) t398) ∧ Aside0 (Kd.R k23 23 wc w.heap.size (fun k_ => some k_ ≠ ((.slice Ao11 t395.length co11) : Value).ownBlock) (.slice Ao18 t406.length co18) t406) ∧ Aside0 (Kd.R (Kd.int .i64) 3 wc w.heap.size (fun k_ => some k_ ≠ ((.slice Ao12 t398.length co12) : Value).ownBlock) (.slice Ao19 t409.length co19) t409) ∧ Aside0 (wc.heap[gb402]? = some (.cells #[.int .i64 t392, .int .i64 t393, .string t394, (.slice Ao11 t395.length co11), (.slice Ao12 t398.length co12)] 33 (0, 0))) ∧ Aside0 (wc.heap[gb413]? = some (.cells #[.int .i64 t403, .int .i64 t404, .string t405, (.slice Ao18 t406.length co18), (.slice Ao19 t409.length co19)] 33 (0, 0))) ∧ Aside0 (IsS54 w wc g391 t389 x392001_4) ∧ Aside0 (Below w.heap.size w wc))
 case first =>
  have H := HC5.out
  clear HC5
  replace H := Option.bind_eq_some_iff.mp H
  obtain ⟨⟨t414, t415⟩, A200, H⟩ := H
  replace H : (if t414 = 0 then (awardingbodylaw06_ItemMaterial.j0 k (decide ((t395.length : Int) > 0)) t389 t415 t392 t393 t394 t395 t398 t403 t404 t405 t406 t409) else (awardingbodylaw06_ItemMaterial.j0 k false t389 t415 t392 t393 t394 t395 t398 t403 t404 t405 t406 t409)) = some r := H
  have A20 := Aside0.mk A200
  clear A200
  by_cases c21 : t414 = 0
  ·rw [if_pos c21] at H
   have c21b0 : (t414 == 0) = true := beq_iff_eq.mpr c21
   have c21b1 : (t414 != 0) = false := bne_eq_false_iff_eq.mpr c21
   clear c21
   (first | rw [c21b0] | (simp only [i64_w, i32_w]; rw [c21b0]) | skip)
   have H' := Aside0.mk H
   clear H
   go_wp2_with (first | ((with_reducible refine gate_callee (f := 17) rfl ?_); refine goesL_ (some 13) rfl rfl Try.func17 (by kernel_rfl) rfl #[.pointer (some ⟨g391, 0, none⟩), .int .i64 2] rfl (by (try simp only [List.map_toArray, List.map_cons, List.map_nil]); first | done | rfl | (simp only [List.length_drop, List.length_take]; rfl)) ?_; (with_reducible refine (awardingbodymake_Tape_Next.calls g391 t389 t412 2 t414 t415 w _ ?side1 ?side2 A20.out).mono ?_); (case side1 => repeat (first | (with_reducible first | exact HI391.out | apply IsS54.alloc | apply IsS54.drewN | apply IsS54.drew | apply IsS54.set_1 | refine IsS54.far ?_ NB391_402.out _ | refine IsS54.far ?_ NB391_413.out _) | exact HI391.out)); (case side2 => repeat (first | (with_reducible first | exact HB.out | apply below_alloc | apply pw_below_drewN | apply below_drew1 | refine below_set ?_ (IsS54.ge HI391.out) | refine below_set ?_ GE402.out | refine below_set ?_ GE413.out) | exact HB.out)); rintro e w22 ⟨rfl, hi, hb, hk⟩; refine ⟨_, rfl, ?_⟩; have n0_ := Aside0.mk (Kd.R_mono (Kd.R_keep (IsS54.apart (show IsS54 w _ g391 t389 t412 from by repeat (first | (with_reducible first | exact HI391.out | apply IsS54.alloc | apply IsS54.drewN | apply IsS54.drew | apply IsS54.set_1 | refine IsS54.far ?_ NB391_402.out _ | refine IsS54.far ?_ NB391_413.out _) | exact HI391.out)) (by (with_reducible repeat (first | apply Kd.R_alloc | apply Kd.R_drewN | apply Kd.R_drew)); exact (Kd.R_mono (Kd.R_far (p := ⟨gb413, 4, none⟩) (Kd.R_far (p := ⟨gb413, 3, none⟩) (Kd.R_far (p := ⟨gb413, 2, none⟩) (Kd.R_far (p := ⟨gb413, 1, none⟩) (Kd.R_far (p := ⟨gb413, 0, none⟩) (Kd.R_types HO397.out BK413.out (by decide)) (fun _ hk => hk.2) (.int .i64 t403)) (fun _ hk => hk.2) (.int .i64 t404)) (fun _ hk => hk.2) (.string t405)) (fun _ hk => hk.2) (.slice Ao18 t406.length co18)) (fun _ hk => hk.2) (.slice Ao19 t409.length co19)) (fun _ h_ => h_.1))) (by decide)) hk (fun _ h => h.2)) (fun _ h => h.1)); have n1_ := Aside0.mk (Kd.R_mono (Kd.R_keep (IsS54.apart (show IsS54 w _ g391 t389 t412 from by repeat (first | (with_reducible first | exact HI391.out | apply IsS54.alloc | apply IsS54.drewN | apply IsS54.drew | apply IsS54.set_1 | refine IsS54.far ?_ NB391_402.out _ | refine IsS54.far ?_ NB391_413.out _) | exact HI391.out)) (by (with_reducible repeat (first | apply Kd.R_alloc | apply Kd.R_drewN | apply Kd.R_drew)); exact (Kd.R_mono (Kd.R_far (p := ⟨gb413, 4, none⟩) (Kd.R_far (p := ⟨gb413, 3, none⟩) (Kd.R_far (p := ⟨gb413, 2, none⟩) (Kd.R_far (p := ⟨gb413, 1, none⟩) (Kd.R_far (p := ⟨gb413, 0, none⟩) (Kd.R_types HO400.out BK413.out (by decide)) (fun _ hk => hk.2) (.int .i64 t403)) (fun _ hk => hk.2) (.int .i64 t404)) (fun _ hk => hk.2) (.string t405)) (fun _ hk => hk.2) (.slice Ao18 t406.length co18)) (fun _ hk => hk.2) (.slice Ao19 t409.length co19)) (fun _ h_ => h_.1))) (by decide)) hk (fun _ h => h.2)) (fun _ h => h.1)); have n2_ := Aside0.mk (KeepBut.blk hk (g' := gb402) (o := .cells #[.int .i64 t392, .int .i64 t393, .string t394, .slice Ao11 t395.length co11, .slice Ao12 t398.length co12] 33 (0, 0)) (by (with_reducible repeat (first | refine blk_drewN ?_ _ | refine blk_drew ?_ | refine blk_alloc ?_ _)); refine blk_far ?_ NB402_413.out _; (with_reducible repeat (first | refine blk_drewN ?_ _ | refine blk_drew ?_ | refine blk_alloc ?_ _)); refine blk_far ?_ NB402_413.out _; (with_reducible repeat (first | refine blk_drewN ?_ _ | refine blk_drew ?_ | refine blk_alloc ?_ _)); refine blk_far ?_ NB402_413.out _; (with_reducible repeat (first | refine blk_drewN ?_ _ | refine blk_drew ?_ | refine blk_alloc ?_ _)); refine blk_far ?_ NB402_413.out _; (with_reducible repeat (first | refine blk_drewN ?_ _ | refine blk_drew ?_ | refine blk_alloc ?_ _)); refine blk_far ?_ NB402_413.out _; (with_reducible repeat (first | refine blk_drewN ?_ _ | refine blk_drew ?_ | refine blk_alloc ?_ _)); exact BK402.out) NB402_391.out (by simp)); have n3_ := Aside0.mk (Kd.R_mono (Kd.R_keep (IsS54.apart (show IsS54 w _ g391 t389 t412 from by repeat (first | (with_reducible first | exact HI391.out | apply IsS54.alloc | apply IsS54.drewN | apply IsS54.drew | apply IsS54.set_1 | refine IsS54.far ?_ NB391_402.out _ | refine IsS54.far ?_ NB391_413.out _) | exact HI391.out)) (by (with_reducible repeat (first | apply Kd.R_alloc | apply Kd.R_drewN | apply Kd.R_drew)); exact (Kd.R_mono (Kd.R_far (p := ⟨gb413, 4, none⟩) (Kd.R_far (p := ⟨gb413, 3, none⟩) (Kd.R_far (p := ⟨gb413, 2, none⟩) (Kd.R_far (p := ⟨gb413, 1, none⟩) (Kd.R_far (p := ⟨gb413, 0, none⟩) (Kd.R_types HO408.out BK413.out (by decide)) (fun _ hk => hk.2) (.int .i64 t403)) (fun _ hk => hk.2) (.int .i64 t404)) (fun _ hk => hk.2) (.string t405)) (fun _ hk => hk.2) (.slice Ao18 t406.length co18)) (fun _ hk => hk.2) (.slice Ao19 t409.length co19)) (fun _ h_ => h_.1))) (by decide)) hk (fun _ h => h.2)) (fun _ h => h.1)); have n4_ := Aside0.mk (Kd.R_mono (Kd.R_keep (IsS54.apart (show IsS54 w _ g391 t389 t412 from by repeat (first | (with_reducible first | exact HI391.out | apply IsS54.alloc | apply IsS54.drewN | apply IsS54.drew | apply IsS54.set_1 | refine IsS54.far ?_ NB391_402.out _ | refine IsS54.far ?_ NB391_413.out _) | exact HI391.out)) (by (with_reducible repeat (first | apply Kd.R_alloc | apply Kd.R_drewN | apply Kd.R_drew)); exact (Kd.R_mono (Kd.R_far (p := ⟨gb413, 4, none⟩) (Kd.R_far (p := ⟨gb413, 3, none⟩) (Kd.R_far (p := ⟨gb413, 2, none⟩) (Kd.R_far (p := ⟨gb413, 1, none⟩) (Kd.R_far (p := ⟨gb413, 0, none⟩) (Kd.R_types HO411.out BK413.out (by decide)) (fun _ hk => hk.2) (.int .i64 t403)) (fun _ hk => hk.2) (.int .i64 t404)) (fun _ hk => hk.2) (.string t405)) (fun _ hk => hk.2) (.slice Ao18 t406.length co18)) (fun _ hk => hk.2) (.slice Ao19 t409.length co19)) (fun _ h_ => h_.1))) (by decide)) hk (fun _ h => h.2)) (fun _ h => h.1)); have n5_ := Aside0.mk (KeepBut.blk hk (g' := gb413) (o := .cells #[.int .i64 t403, .int .i64 t404, .string t405, .slice Ao18 t406.length co18, .slice Ao19 t409.length co19] 33 (0, 0)) (by (with_reducible repeat (first | refine blk_drewN ?_ _ | refine blk_drew ?_ | refine blk_alloc ?_ _)); refine blk_put (cs := #[.int .i64 t403, .int .i64 t404, .string t405, .slice Ao18 t406.length co18, .slice none 0 0]) ?_ 4 _ rfl; (with_reducible repeat (first | refine blk_drewN ?_ _ | refine blk_drew ?_ | refine blk_alloc ?_ _)); refine blk_put (cs := #[.int .i64 t403, .int .i64 t404, .string t405, .slice none 0 0, .slice none 0 0]) ?_ 3 _ rfl; (with_reducible repeat (first | refine blk_drewN ?_ _ | refine blk_drew ?_ | refine blk_alloc ?_ _)); refine blk_put (cs := #[.int .i64 t403, .int .i64 t404, .string (⟨#[]⟩ : ByteArray), .slice none 0 0, .slice none 0 0]) ?_ 2 _ rfl; (with_reducible repeat (first | refine blk_drewN ?_ _ | refine blk_drew ?_ | refine blk_alloc ?_ _)); refine blk_put (cs := #[.int .i64 t403, .int .i64 0, .string (⟨#[]⟩ : ByteArray), .slice none 0 0, .slice none 0 0]) ?_ 1 _ rfl; (with_reducible repeat (first | refine blk_drewN ?_ _ | refine blk_drew ?_ | refine blk_alloc ?_ _)); refine blk_put (cs := #[.int .i64 0, .int .i64 0, .string (⟨#[]⟩ : ByteArray), .slice none 0 0, .slice none 0 0]) ?_ 0 _ rfl; (with_reducible repeat (first | refine blk_drewN ?_ _ | refine blk_drew ?_ | refine blk_alloc ?_ _)); exact BK413.out) NB413_391.out (by simp)); have n6_ := Aside0.mk (hb); have n7_ := Aside0.mk (hi); clear HO397 HO400 BK402 HO408 HO411 BK413 HB HI391; have HO397 := n0_; have HO400 := n1_; have BK402 := n2_; have HO408 := n3_; have HO411 := n4_; have BK413 := n5_; have HB := n6_; have HI391 := n7_; clear n0_ n1_ n2_ n3_ n4_ n5_ n6_ n7_; (try clear hb); (try clear hb2); (try clear hk); (try clear hi); have hnb23 := NB402_413.out; have hnc23 := NB413_402.out; have hnb24 := NB402_391.out; have hnc24 := NB391_402.out; have hcz25_0 : w22.cell? ⟨gb402, 0, none⟩ = some (.int .i64 t392) := (blk_cell BK402.out 0).trans rfl; have hcz25_1 : w22.cell? ⟨gb402, 1, none⟩ = some (.int .i64 t393) := (blk_cell BK402.out 1).trans rfl; have hcz25_2 : w22.cell? ⟨gb402, 2, none⟩ = some (.string t394) := (blk_cell BK402.out 2).trans rfl; have hcz25_3 : w22.cell? ⟨gb402, 3, none⟩ = some (.slice Ao11 t395.length co11) := (blk_cell BK402.out 3).trans rfl; have hcz25_4 : w22.cell? ⟨gb402, 4, none⟩ = some (.slice Ao12 t398.length co12) := (blk_cell BK402.out 4).trans rfl; have hfz25_0 := blk_frozen BK402.out 0; have hfz25_1 := blk_frozen BK402.out 1; have hfz25_2 := blk_frozen BK402.out 2; have hfz25_3 := blk_frozen BK402.out 3; have hfz25_4 := blk_frozen BK402.out 4))
   go_meet
   case rel => exact ⟨_, (decide ((t395.length : Int) > 0)), (t415), (by first | rfl | (simp; done) | (simp [*]; done)), H', ⟨by first | omega | exact Nat.le_refl _⟩, ⟨by (with_reducible repeat (first | apply Kd.R_alloc | apply Kd.R_drewN | apply Kd.R_drew)); exact Kd.R_mono HO397.out (fun _ hk => hk.2)⟩, ⟨by (with_reducible repeat (first | apply Kd.R_alloc | apply Kd.R_drewN | apply Kd.R_drew)); exact Kd.R_mono HO400.out (fun _ hk => hk.2)⟩, ⟨by (with_reducible repeat (first | apply Kd.R_alloc | apply Kd.R_drewN | apply Kd.R_drew)); exact Kd.R_mono HO408.out (fun _ hk => hk.2)⟩, ⟨by (with_reducible repeat (first | apply Kd.R_alloc | apply Kd.R_drewN | apply Kd.R_drew)); exact Kd.R_mono HO411.out (fun _ hk => hk.2)⟩, ⟨by (with_reducible repeat (first | refine blk_drewN ?_ _ | refine blk_drew ?_ | refine blk_alloc ?_ _)); exact BK402.out⟩, ⟨by (with_reducible repeat (first | refine blk_drewN ?_ _ | refine blk_drew ?_ | refine blk_alloc ?_ _)); exact BK413.out⟩, ⟨by repeat (first | (with_reducible first | exact HI391.out | apply IsS54.alloc | apply IsS54.drewN | apply IsS54.drew | apply IsS54.set_1 | refine IsS54.far ?_ NB391_402.out _ | refine IsS54.far ?_ NB391_413.out _) | exact HI391.out)⟩, ⟨by repeat (first | (with_reducible first | exact HB.out | apply below_alloc | apply pw_below_drewN | apply below_drew1 | refine below_set ?_ (IsS54.ge HI391.out) | refine below_set ?_ GE402.out | refine below_set ?_ GE413.out) | exact HB.out)⟩⟩
  ·rw [if_neg c21] at H
   have c21b0 : (t414 == 0) = false := beq_eq_false_iff_ne.mpr c21
   have c21b1 : (t414 != 0) = true := bne_iff_ne.mpr c21
   (first | rw [c21b0] | (simp only [i64_w, i32_w]; rw [c21b0]) | skip)
   have H' := Aside0.mk H
   clear H
   go_wp2_with (first | ((with_reducible refine gate_callee (f := 17) rfl ?_); refine goesL_ (some 13) rfl rfl Try.func17 (by kernel_rfl) rfl #[.pointer (some ⟨g391, 0, none⟩), .int .i64 2] rfl (by (try simp only [List.map_toArray, List.map_cons, List.map_nil]); first | done | rfl | (simp only [List.length_drop, List.length_take]; rfl)) ?_; (with_reducible refine (awardingbodymake_Tape_Next.calls g391 t389 t412 2 t414 t415 w _ ?side1 ?side2 A20.out).mono ?_); (case side1 => repeat (first | (with_reducible first | exact HI391.out | apply IsS54.alloc | apply IsS54.drewN | apply IsS54.drew | apply IsS54.set_1 | refine IsS54.far ?_ NB391_402.out _ | refine IsS54.far ?_ NB391_413.out _) | exact HI391.out)); (case side2 => repeat (first | (with_reducible first | exact HB.out | apply below_alloc | apply pw_below_drewN | apply below_drew1 | refine below_set ?_ (IsS54.ge HI391.out) | refine below_set ?_ GE402.out | refine below_set ?_ GE413.out) | exact HB.out)); rintro e w26 ⟨rfl, hi, hb, hk⟩; refine ⟨_, rfl, ?_⟩; have n0_ := Aside0.mk (Kd.R_mono (Kd.R_keep (IsS54.apart (show IsS54 w _ g391 t389 t412 from by repeat (first | (with_reducible first | exact HI391.out | apply IsS54.alloc | apply IsS54.drewN | apply IsS54.drew | apply IsS54.set_1 | refine IsS54.far ?_ NB391_402.out _ | refine IsS54.far ?_ NB391_413.out _) | exact HI391.out)) (by (with_reducible repeat (first | apply Kd.R_alloc | apply Kd.R_drewN | apply Kd.R_drew)); exact (Kd.R_mono (Kd.R_far (p := ⟨gb413, 4, none⟩) (Kd.R_far (p := ⟨gb413, 3, none⟩) (Kd.R_far (p := ⟨gb413, 2, none⟩) (Kd.R_far (p := ⟨gb413, 1, none⟩) (Kd.R_far (p := ⟨gb413, 0, none⟩) (Kd.R_types HO397.out BK413.out (by decide)) (fun _ hk => hk.2) (.int .i64 t403)) (fun _ hk => hk.2) (.int .i64 t404)) (fun _ hk => hk.2) (.string t405)) (fun _ hk => hk.2) (.slice Ao18 t406.length co18)) (fun _ hk => hk.2) (.slice Ao19 t409.length co19)) (fun _ h_ => h_.1))) (by decide)) hk (fun _ h => h.2)) (fun _ h => h.1)); have n1_ := Aside0.mk (Kd.R_mono (Kd.R_keep (IsS54.apart (show IsS54 w _ g391 t389 t412 from by repeat (first | (with_reducible first | exact HI391.out | apply IsS54.alloc | apply IsS54.drewN | apply IsS54.drew | apply IsS54.set_1 | refine IsS54.far ?_ NB391_402.out _ | refine IsS54.far ?_ NB391_413.out _) | exact HI391.out)) (by (with_reducible repeat (first | apply Kd.R_alloc | apply Kd.R_drewN | apply Kd.R_drew)); exact (Kd.R_mono (Kd.R_far (p := ⟨gb413, 4, none⟩) (Kd.R_far (p := ⟨gb413, 3, none⟩) (Kd.R_far (p := ⟨gb413, 2, none⟩) (Kd.R_far (p := ⟨gb413, 1, none⟩) (Kd.R_far (p := ⟨gb413, 0, none⟩) (Kd.R_types HO400.out BK413.out (by decide)) (fun _ hk => hk.2) (.int .i64 t403)) (fun _ hk => hk.2) (.int .i64 t404)) (fun _ hk => hk.2) (.string t405)) (fun _ hk => hk.2) (.slice Ao18 t406.length co18)) (fun _ hk => hk.2) (.slice Ao19 t409.length co19)) (fun _ h_ => h_.1))) (by decide)) hk (fun _ h => h.2)) (fun _ h => h.1)); have n2_ := Aside0.mk (KeepBut.blk hk (g' := gb402) (o := .cells #[.int .i64 t392, .int .i64 t393, .string t394, .slice Ao11 t395.length co11, .slice Ao12 t398.length co12] 33 (0, 0)) (by (with_reducible repeat (first | refine blk_drewN ?_ _ | refine blk_drew ?_ | refine blk_alloc ?_ _)); refine blk_far ?_ NB402_413.out _; (with_reducible repeat (first | refine blk_drewN ?_ _ | refine blk_drew ?_ | refine blk_alloc ?_ _)); refine blk_far ?_ NB402_413.out _; (with_reducible repeat (first | refine blk_drewN ?_ _ | refine blk_drew ?_ | refine blk_alloc ?_ _)); refine blk_far ?_ NB402_413.out _; (with_reducible repeat (first | refine blk_drewN ?_ _ | refine blk_drew ?_ | refine blk_alloc ?_ _)); refine blk_far ?_ NB402_413.out _; (with_reducible repeat (first | refine blk_drewN ?_ _ | refine blk_drew ?_ | refine blk_alloc ?_ _)); refine blk_far ?_ NB402_413.out _; (with_reducible repeat (first | refine blk_drewN ?_ _ | refine blk_drew ?_ | refine blk_alloc ?_ _)); exact BK402.out) NB402_391.out (by simp)); have n3_ := Aside0.mk (Kd.R_mono (Kd.R_keep (IsS54.apart (show IsS54 w _ g391 t389 t412 from by repeat (first | (with_reducible first | exact HI391.out | apply IsS54.alloc | apply IsS54.drewN | apply IsS54.drew | apply IsS54.set_1 | refine IsS54.far ?_ NB391_402.out _ | refine IsS54.far ?_ NB391_413.out _) | exact HI391.out)) (by (with_reducible repeat (first | apply Kd.R_alloc | apply Kd.R_drewN | apply Kd.R_drew)); exact (Kd.R_mono (Kd.R_far (p := ⟨gb413, 4, none⟩) (Kd.R_far (p := ⟨gb413, 3, none⟩) (Kd.R_far (p := ⟨gb413, 2, none⟩) (Kd.R_far (p := ⟨gb413, 1, none⟩) (Kd.R_far (p := ⟨gb413, 0, none⟩) (Kd.R_types HO408.out BK413.out (by decide)) (fun _ hk => hk.2) (.int .i64 t403)) (fun _ hk => hk.2) (.int .i64 t404)) (fun _ hk => hk.2) (.string t405)) (fun _ hk => hk.2) (.slice Ao18 t406.length co18)) (fun _ hk => hk.2) (.slice Ao19 t409.length co19)) (fun _ h_ => h_.1))) (by decide)) hk (fun _ h => h.2)) (fun _ h => h.1)); have n4_ := Aside0.mk (Kd.R_mono (Kd.R_keep (IsS54.apart (show IsS54 w _ g391 t389 t412 from by repeat (first | (with_reducible first | exact HI391.out | apply IsS54.alloc | apply IsS54.drewN | apply IsS54.drew | apply IsS54.set_1 | refine IsS54.far ?_ NB391_402.out _ | refine IsS54.far ?_ NB391_413.out _) | exact HI391.out)) (by (with_reducible repeat (first | apply Kd.R_alloc | apply Kd.R_drewN | apply Kd.R_drew)); exact (Kd.R_mono (Kd.R_far (p := ⟨gb413, 4, none⟩) (Kd.R_far (p := ⟨gb413, 3, none⟩) (Kd.R_far (p := ⟨gb413, 2, none⟩) (Kd.R_far (p := ⟨gb413, 1, none⟩) (Kd.R_far (p := ⟨gb413, 0, none⟩) (Kd.R_types HO411.out BK413.out (by decide)) (fun _ hk => hk.2) (.int .i64 t403)) (fun _ hk => hk.2) (.int .i64 t404)) (fun _ hk => hk.2) (.string t405)) (fun _ hk => hk.2) (.slice Ao18 t406.length co18)) (fun _ hk => hk.2) (.slice Ao19 t409.length co19)) (fun _ h_ => h_.1))) (by decide)) hk (fun _ h => h.2)) (fun _ h => h.1)); have n5_ := Aside0.mk (KeepBut.blk hk (g' := gb413) (o := .cells #[.int .i64 t403, .int .i64 t404, .string t405, .slice Ao18 t406.length co18, .slice Ao19 t409.length co19] 33 (0, 0)) (by (with_reducible repeat (first | refine blk_drewN ?_ _ | refine blk_drew ?_ | refine blk_alloc ?_ _)); refine blk_put (cs := #[.int .i64 t403, .int .i64 t404, .string t405, .slice Ao18 t406.length co18, .slice none 0 0]) ?_ 4 _ rfl; (with_reducible repeat (first | refine blk_drewN ?_ _ | refine blk_drew ?_ | refine blk_alloc ?_ _)); refine blk_put (cs := #[.int .i64 t403, .int .i64 t404, .string t405, .slice none 0 0, .slice none 0 0]) ?_ 3 _ rfl; (with_reducible repeat (first | refine blk_drewN ?_ _ | refine blk_drew ?_ | refine blk_alloc ?_ _)); refine blk_put (cs := #[.int .i64 t403, .int .i64 t404, .string (⟨#[]⟩ : ByteArray), .slice none 0 0, .slice none 0 0]) ?_ 2 _ rfl; (with_reducible repeat (first | refine blk_drewN ?_ _ | refine blk_drew ?_ | refine blk_alloc ?_ _)); refine blk_put (cs := #[.int .i64 t403, .int .i64 0, .string (⟨#[]⟩ : ByteArray), .slice none 0 0, .slice none 0 0]) ?_ 1 _ rfl; (with_reducible repeat (first | refine blk_drewN ?_ _ | refine blk_drew ?_ | refine blk_alloc ?_ _)); refine blk_put (cs := #[.int .i64 0, .int .i64 0, .string (⟨#[]⟩ : ByteArray), .slice none 0 0, .slice none 0 0]) ?_ 0 _ rfl; (with_reducible repeat (first | refine blk_drewN ?_ _ | refine blk_drew ?_ | refine blk_alloc ?_ _)); exact BK413.out) NB413_391.out (by simp)); have n6_ := Aside0.mk (hb); have n7_ := Aside0.mk (hi); clear HO397 HO400 BK402 HO408 HO411 BK413 HB HI391; have HO397 := n0_; have HO400 := n1_; have BK402 := n2_; have HO408 := n3_; have HO411 := n4_; have BK413 := n5_; have HB := n6_; have HI391 := n7_; clear n0_ n1_ n2_ n3_ n4_ n5_ n6_ n7_; (try clear hb); (try clear hb2); (try clear hk); (try clear hi)))
   go_meet
   case rel => exact ⟨_, (false), (t415), (by first | rfl | (simp; done) | (simp [*]; done)), H', ⟨by first | omega | exact Nat.le_refl _⟩, ⟨by (with_reducible repeat (first | apply Kd.R_alloc | apply Kd.R_drewN | apply Kd.R_drew)); exact Kd.R_mono HO397.out (fun _ hk => hk.2)⟩, ⟨by (with_reducible repeat (first | apply Kd.R_alloc | apply Kd.R_drewN | apply Kd.R_drew)); exact Kd.R_mono HO400.out (fun _ hk => hk.2)⟩, ⟨by (with_reducible repeat (first | apply Kd.R_alloc | apply Kd.R_drewN | apply Kd.R_drew)); exact Kd.R_mono HO408.out (fun _ hk => hk.2)⟩, ⟨by (with_reducible repeat (first | apply Kd.R_alloc | apply Kd.R_drewN | apply Kd.R_drew)); exact Kd.R_mono HO411.out (fun _ hk => hk.2)⟩, ⟨by (with_reducible repeat (first | refine blk_drewN ?_ _ | refine blk_drew ?_ | refine blk_alloc ?_ _)); exact BK402.out⟩, ⟨by (with_reducible repeat (first | refine blk_drewN ?_ _ | refine blk_drew ?_ | refine blk_alloc ?_ _)); exact BK413.out⟩, ⟨by repeat (first | (with_reducible first | exact HI391.out | apply IsS54.alloc | apply IsS54.drewN | apply IsS54.drew | apply IsS54.set_1 | refine IsS54.far ?_ NB391_402.out _ | refine IsS54.far ?_ NB391_413.out _) | exact HI391.out)⟩, ⟨by repeat (first | (with_reducible first | exact HB.out | apply below_alloc | apply pw_below_drewN | apply below_drew1 | refine below_set ?_ (IsS54.ge HI391.out) | refine below_set ?_ GE402.out | refine below_set ?_ GE413.out) | exact HB.out)⟩⟩
 case rest =>
  clear HC5
  try clear c1
  try clear c2
  try clear p2
  try clear c6
  try clear c9
  try clear c15
  try clear c16
  try clear c17
  try clear c21
  try clear c21b0
  try clear c21b1
  try clear c23
  try clear c24
  try clear hcz10_0
  try clear hcz10_1
  try clear hcz10_2
  try clear hcz10_3
  try clear hcz10_4
  try clear hcz17_0
  try clear hcz17_1
  try clear hcz17_2
  try clear hcz17_3
  try clear hcz17_4
  try clear hcz25_0
  try clear hcz25_1
  try clear hcz25_2
  try clear hcz25_3
  try clear hcz25_4
  try clear hfz10_0
  try clear hfz10_1
  try clear hfz10_2
  try clear hfz10_3
  try clear hfz10_4
  try clear hfz17_0
  try clear hfz17_1
  try clear hfz17_2
  try clear hfz17_3
  try clear hfz17_4
  try clear hfz25_0
  try clear hfz25_1
  try clear hfz25_2
  try clear hfz25_3
  try clear hfz25_4
  obtain ⟨kq, x20_4, x392001_4, rfl, HA, HJ4, HO_403003, HO_403004, HO_414003, HO_414004, BK402, BK413, HI391, HB⟩ := hcut
  cases kq with
  | zero => exact absurd HA.out (by simp [awardingbodylaw06_ItemMaterial.j0])
  | succ kj4 =>
   have H := HA.out
   clear HA
   simp only [awardingbodylaw06_ItemMaterial.j0] at H
   have HC27 := Aside0.mk H
   clear H
   go_upto_if 20 with (fail)
   go_cut [] (fun wc => ∃ (kq : Nat) (x403003_26 : List (S23)) (x414003_26 : List (S23)) (u403003 : Value) (u414003 : Value), Aside0 (awardingbodylaw06_ItemMaterial.j1 kq t392 t393 t394 x403003_26 t398 t403 t404 t405 x414003_26 t409 = some r) ∧ Aside0 (kq ≤ kj4) ∧ Aside0 (Kd.R k23 23 wc w.heap.size (fun k_ => some k_ ≠ (u414003 : Value).ownBlock) u403003 x403003_26) ∧ Aside0 (Kd.R (Kd.int .i64) 3 wc w.heap.size (fun k_ => some k_ ≠ ((.slice Ao19 t409.length co19) : Value).ownBlock) (.slice Ao12 t398.length co12) t398) ∧ Aside0 (Kd.R k23 23 wc w.heap.size (fun k_ => some k_ ≠ (u403003 : Value).ownBlock) u414003 x414003_26) ∧ Aside0 (Kd.R (Kd.int .i64) 3 wc w.heap.size (fun k_ => some k_ ≠ ((.slice Ao12 t398.length co12) : Value).ownBlock) (.slice Ao19 t409.length co19) t409) ∧ Aside0 (wc.heap[gb402]? = some (.cells #[.int .i64 t392, .int .i64 t393, .string t394, u403003, (.slice Ao12 t398.length co12)] 33 (0, 0))) ∧ Aside0 (wc.heap[gb413]? = some (.cells #[.int .i64 t403, .int .i64 t404, .string t405, u414003, (.slice Ao19 t409.length co19)] 33 (0, 0))) ∧ Aside0 (Below w.heap.size w wc))
   case first =>
    have H := HC27.out
    clear HC27
    by_cases c28 : x20_4 = true
    ·subst c28
     have H1 : ((some (([] : List (S23)) : List (S23))).bind fun y416 => (if y416.length + t395.length < 2932031007402 then ((some (y416 ++ t395 : List (S23))).bind fun y419 => ((awardingbodymake_Tape_Next.f t389 x392001_4 (y419.length : Int)).bind fun bt422 => ((awardingbodymake_Tape_Part.f kj4 t389 bt422.2 0).bind fun bt424 => (if 0 ≤ bt422.1 then (if bt422.1 < (y419.length : Int) then (awardingbodylaw06_ItemMaterial.j1 kj4 t392 t393 t394 t395 t398 t403 t404 t405 (y419.set (bt422.1 : Int).toNat (⟨bt424.1, bt424.2.1, bt424.2.2.1, bt424.2.2.2.1, bt424.2.2.2.2.1, bt424.2.2.2.2.2.1⟩ : S23)) t409) else (none)) else (none))))) else (none))) = some r := by rw [if_pos rfl] at H; exact H
     clear H
     have H := H1
     clear H1
     obtain ⟨y416, hy416⟩ : ∃ y_ : List (S23), y_ = (([] : List (S23))) := ⟨_, rfl⟩
     replace H : (if y416.length + t395.length < 2932031007402 then ((some (y416 ++ t395 : List (S23))).bind fun y419 => ((awardingbodymake_Tape_Next.f t389 x392001_4 (y419.length : Int)).bind fun bt422 => ((awardingbodymake_Tape_Part.f kj4 t389 bt422.2 0).bind fun bt424 => (if 0 ≤ bt422.1 then (if bt422.1 < (y419.length : Int) then (awardingbodylaw06_ItemMaterial.j1 kj4 t392 t393 t394 t395 t398 t403 t404 t405 (y419.set (bt422.1 : Int).toNat (⟨bt424.1, bt424.2.1, bt424.2.2.1, bt424.2.2.2.1, bt424.2.2.2.2.1, bt424.2.2.2.2.2.1⟩ : S23)) t409) else (none)) else (none))))) else (none)) = some r := by first | (rw [hy416]; with_reducible exact H) | (have H2_ := (Option.bind_some _ _).symm.trans H; rw [hy416]; with_reducible exact H2_) | (have H2_ := (Option.bind_some _ _).symm.trans H; with_reducible exact H2_) | with_reducible exact H | (rw [hy416]; exact H) | exact H
     have Ny416 := Aside0.mk hy416
     clear hy416
     by_cases c29 : y416.length + t395.length < 2932031007402
     ·rw [if_pos c29] at H
      have LMc29 := Aside0.mk c29
      clear c29
      obtain ⟨y419, hy419⟩ : ∃ y_ : List (S23), y_ = (y416 ++ t395) := ⟨_, rfl⟩
      replace H : ((awardingbodymake_Tape_Next.f t389 x392001_4 (y419.length : Int)).bind fun bt422 => ((awardingbodymake_Tape_Part.f kj4 t389 bt422.2 0).bind fun bt424 => (if 0 ≤ bt422.1 then (if bt422.1 < (y419.length : Int) then (awardingbodylaw06_ItemMaterial.j1 kj4 t392 t393 t394 t395 t398 t403 t404 t405 (y419.set (bt422.1 : Int).toNat (⟨bt424.1, bt424.2.1, bt424.2.2.1, bt424.2.2.2.1, bt424.2.2.2.2.1, bt424.2.2.2.2.2.1⟩ : S23)) t409) else (none)) else (none)))) = some r := by first | (rw [hy419]; with_reducible exact H) | (have H2_ := (Option.bind_some _ _).symm.trans H; rw [hy419]; with_reducible exact H2_) | (have H2_ := (Option.bind_some _ _).symm.trans H; with_reducible exact H2_) | with_reducible exact H | (rw [hy419]; exact H) | exact H
      have Ny419 := Aside0.mk hy419
      clear hy419
      replace H := Option.bind_eq_some_iff.mp H
      obtain ⟨⟨t422, t423⟩, A300, H⟩ := H
      replace H : ((awardingbodymake_Tape_Part.f kj4 t389 t423 0).bind fun bt424 => (if 0 ≤ t422 then (if t422 < (y419.length : Int) then (awardingbodylaw06_ItemMaterial.j1 kj4 t392 t393 t394 t395 t398 t403 t404 t405 (y419.set (t422 : Int).toNat (⟨bt424.1, bt424.2.1, bt424.2.2.1, bt424.2.2.2.1, bt424.2.2.2.2.1, bt424.2.2.2.2.2.1⟩ : S23)) t409) else (none)) else (none))) = some r := H
      have A30 := Aside0.mk A300
      clear A300
      replace H := Option.bind_eq_some_iff.mp H
      obtain ⟨⟨t424, t425, t426, t427, t428, t429, t430⟩, A310, H⟩ := H
      replace H : (if 0 ≤ t422 then (if t422 < (y419.length : Int) then (awardingbodylaw06_ItemMaterial.j1 kj4 t392 t393 t394 t395 t398 t403 t404 t405 (y419.set (t422 : Int).toNat (⟨t424, t425, t426, t427, t428, t429⟩ : S23)) t409) else (none)) else (none)) = some r := H
      have A31 := Aside0.mk A310
      clear A310
      by_cases c32 : 0 ≤ t422
      ·rw [if_pos c32] at H
       have c32b0 : decide (0 ≤ t422) = true := decide_eq_true c32
       clear c32
       (first | rw [c32b0] | (simp only [i64_w, i32_w]; rw [c32b0]) | skip)
       by_cases c33 : t422 < (y419.length : Int)
       ·rw [if_pos c33] at H
        have c33b0 : decide (t422 < (y419.length : Int)) = true := decide_eq_true c33
        clear c33
        obtain ⟨y431, hy431⟩ : ∃ y_ : List (S23), y_ = (y419.set (t422 : Int).toNat (⟨t424, t425, t426, t427, t428, t429⟩ : S23)) := ⟨_, rfl⟩
        replace H : (awardingbodylaw06_ItemMaterial.j1 kj4 t392 t393 t394 t395 t398 t403 t404 t405 y431 t409) = some r := by first | (rw [hy431]; with_reducible exact H) | (have H2_ := (Option.bind_some _ _).symm.trans H; rw [hy431]; with_reducible exact H2_) | (have H2_ := (Option.bind_some _ _).symm.trans H; with_reducible exact H2_) | with_reducible exact H | (rw [hy431]; exact H) | exact H
        have Ny431 := Aside0.mk hy431
        clear hy431
        have H' := Aside0.mk H
        clear H
        try go_wp2_with (first | ((with_reducible refine gate_dst (N := 21) rfl ?_); (try (refine gate_guard (by rfl) ?_; dsimp only)); refine Kd.R_lit k23 _ 23 ?hg (N := 21) ?hd (xs := ([] : List (S23))) (inner := []) (ok := fun _ => True) (okp := fun _ => True) ?hr ?hp (fun _ hk => hk) trivial (Below.refl _ _) (Nat.le_refl _) (by simp) ?_; (case hd => rfl); (case hg => rfl); (case hr => first | (go_simp; done) | (go_simp; rfl)); (case hp => exact (Reps.none _ _)); intro v417 w35 ho36 hb hg_ hnew_; clear hg_ hnew_; (first | rw [← Ny416.out] at ho36 | (simp only [Int.reduceToNat] at ho36; rw [← Ny416.out] at ho36)); have n0_ := Aside0.mk (Kd.R_elder' (by (with_reducible repeat (first | apply Kd.R_alloc | apply Kd.R_drewN | apply Kd.R_drew)); exact HO_403003.out) (Kd.R_base ho36) hb); have n1_ := Aside0.mk (Kd.R_below (by (with_reducible repeat (first | apply Kd.R_alloc | apply Kd.R_drewN | apply Kd.R_drew)); exact HO_403004.out) hb); have n2_ := Aside0.mk (Kd.R_elder' (by (with_reducible repeat (first | apply Kd.R_alloc | apply Kd.R_drewN | apply Kd.R_drew)); exact HO_414003.out) (Kd.R_base ho36) hb); have n3_ := Aside0.mk (Kd.R_below (by (with_reducible repeat (first | apply Kd.R_alloc | apply Kd.R_drewN | apply Kd.R_drew)); exact HO_414004.out) hb); have n4_ := Aside0.mk (Kd.R_lower (Kd.R_new' (Kd.R_new' ho36 (Kd.R_lt (by (with_reducible repeat (first | apply Kd.R_alloc | apply Kd.R_drewN | apply Kd.R_drew)); exact HO_403003.out))) (Kd.R_lt (by (with_reducible repeat (first | apply Kd.R_alloc | apply Kd.R_drewN | apply Kd.R_drew)); exact HO_414003.out))) (below_size (by repeat (first | (with_reducible first | exact HB.out | apply below_alloc | apply pw_below_drewN | apply below_drew1 | refine below_set ?_ (IsS54.ge HI391.out) | refine below_set ?_ GE402.out | refine below_set ?_ GE413.out) | exact HB.out)))); have n5_ := Aside0.mk (blk_below (g := gb402) (o := .cells #[.int .i64 t392, .int .i64 t393, .string t394, .slice Ao11 t395.length co11, .slice Ao12 t398.length co12] 33 (0, 0)) (by (with_reducible repeat (first | refine blk_drewN ?_ _ | refine blk_drew ?_ | refine blk_alloc ?_ _)); exact BK402.out) hb); have n6_ := Aside0.mk (blk_below (g := gb413) (o := .cells #[.int .i64 t403, .int .i64 t404, .string t405, .slice Ao18 t406.length co18, .slice Ao19 t409.length co19] 33 (0, 0)) (by (with_reducible repeat (first | refine blk_drewN ?_ _ | refine blk_drew ?_ | refine blk_alloc ?_ _)); exact BK413.out) hb); have n7_ := Aside0.mk (IsS54.below (by repeat (first | (with_reducible first | exact HI391.out | apply IsS54.alloc | apply IsS54.drewN | apply IsS54.drew | apply IsS54.set_1 | refine IsS54.far ?_ NB391_402.out _ | refine IsS54.far ?_ NB391_413.out _) | exact HI391.out)) hb); have n8_ := Aside0.mk (below_step (by repeat (first | (with_reducible first | exact HB.out | apply below_alloc | apply pw_below_drewN | apply below_drew1 | refine below_set ?_ (IsS54.ge HI391.out) | refine below_set ?_ GE402.out | refine below_set ?_ GE413.out) | exact HB.out)) hb); clear HO_403003 HO_403004 HO_414003 HO_414004 BK402 BK413 HI391 HB; have HO_403003 := n0_; have HO_403004 := n1_; have HO_414003 := n2_; have HO_414004 := n3_; have HO418 := n4_; have BK402 := n5_; have BK413 := n6_; have HI391 := n7_; have HB := n8_; clear n0_ n1_ n2_ n3_ n4_ n5_ n6_ n7_ n8_ hb ho36; have hnb37 := NB402_413.out; have hnc37 := NB413_402.out; have hnb38 := NB402_391.out; have hnc38 := NB391_402.out; have hcz39_0 : w35.cell? ⟨gb402, 0, none⟩ = some (.int .i64 t392) := (blk_cell BK402.out 0).trans rfl; have hcz39_1 : w35.cell? ⟨gb402, 1, none⟩ = some (.int .i64 t393) := (blk_cell BK402.out 1).trans rfl; have hcz39_2 : w35.cell? ⟨gb402, 2, none⟩ = some (.string t394) := (blk_cell BK402.out 2).trans rfl; have hcz39_3 : w35.cell? ⟨gb402, 3, none⟩ = some (.slice Ao11 t395.length co11) := (blk_cell BK402.out 3).trans rfl; have hcz39_4 : w35.cell? ⟨gb402, 4, none⟩ = some (.slice Ao12 t398.length co12) := (blk_cell BK402.out 4).trans rfl; have hfz39_0 := blk_frozen BK402.out 0; have hfz39_1 := blk_frozen BK402.out 1; have hfz39_2 := blk_frozen BK402.out 2; have hfz39_3 := blk_frozen BK402.out 3; have hfz39_4 := blk_frozen BK402.out 4) | ((with_reducible refine gate_builtin (b := .append) (xs := #[.tmp 21, .tmp 23]) rfl ?_); (try (refine gate_guard (by rfl) ?_; dsimp only)); at_builtin; refine Kd.R_append_rows k23 (w0 := w) w.heap.size rfl (.tmp 21) (.tmp 23) 31 23 (.agg #[(.int .i64 0), (.int .i64 0), (.int .i64 0), (.int .i64 0), (.int .i64 0), (.int .i64 0)]) 48 rfl Try.underlying31 info23 rfl (by decide) (by omega) v417 y416 t395 _ _ _ (fun k_ => some k_ ≠ (.slice Ao11 t395.length co11 : Value).ownBlock ∧ some k_ ≠ (.slice Ao18 t406.length co18 : Value).ownBlock) (fun _ => False) rfl rfl ?aO ?aR (fun _ _ h => h) (fun _ h => h.elim) ?aF ?aB ?aS ?aL ?_; (case aR => repeat (first | exact (Kd.R_reads' HO_403003.out).2.2 | (with_reducible refine Kd.C_alloc ?_ _) | (with_reducible refine Kd.C_drewN ?_ _) | (with_reducible refine Kd.C_drew ?_))); (case aB => exact (by repeat (first | (with_reducible first | exact HB.out | apply below_alloc | apply pw_below_drewN | apply below_drew1 | refine below_set ?_ (IsS54.ge HI391.out) | refine below_set ?_ GE402.out | refine below_set ?_ GE413.out) | exact HB.out))); (case aF => exact (fun k_ hk => ⟨Kd.fresh' (Kd.R_lt (by (with_reducible repeat (first | apply Kd.R_alloc | apply Kd.R_drewN | apply Kd.R_drew)); exact HO_403003.out)) k_ hk, Kd.fresh' (Kd.R_lt (by (with_reducible repeat (first | apply Kd.R_alloc | apply Kd.R_drewN | apply Kd.R_drew)); exact HO_414003.out)) k_ hk⟩)); (case aO => exact (by (with_reducible repeat (first | apply Kd.R_alloc | apply Kd.R_drewN | apply Kd.R_drew)); exact Kd.R_mono HO418.out (fun _ hk => ⟨hk.1.2, hk.2⟩))); (case aS => exact (below_size (by repeat (first | (with_reducible first | exact HB.out | apply below_alloc | apply pw_below_drewN | apply below_drew1 | refine below_set ?_ (IsS54.ge HI391.out) | refine below_set ?_ GE402.out | refine below_set ?_ GE413.out) | exact HB.out)))); (case aL => have := LMc29.out; omega); intro v420 w40 ho hb hg hat; rw [← Ny419.out] at ho; have n0_ := Aside0.mk (Kd.R_after (ok := (fun k_ => some k_ ≠ (.slice Ao18 t406.length co18 : Value).ownBlock)) (by (with_reducible repeat (first | apply Kd.R_alloc | apply Kd.R_drewN | apply Kd.R_drew)); exact HO_403003.out) hg hat); have n1_ := Aside0.mk (Kd.R_over' (by (with_reducible repeat (first | apply Kd.R_alloc | apply Kd.R_drewN | apply Kd.R_drew)); exact HO_403004.out) (Kd.R_typed (by (with_reducible repeat (first | apply Kd.R_alloc | apply Kd.R_drewN | apply Kd.R_drew)); exact HO418.out)) (by decide) hg); have n2_ := Aside0.mk (Kd.R_after (ok := (fun k_ => some k_ ≠ (.slice Ao11 t395.length co11 : Value).ownBlock)) (by (with_reducible repeat (first | apply Kd.R_alloc | apply Kd.R_drewN | apply Kd.R_drew)); exact HO_414003.out) hg hat); have n3_ := Aside0.mk (Kd.R_over' (by (with_reducible repeat (first | apply Kd.R_alloc | apply Kd.R_drewN | apply Kd.R_drew)); exact HO_414004.out) (Kd.R_typed (by (with_reducible repeat (first | apply Kd.R_alloc | apply Kd.R_drewN | apply Kd.R_drew)); exact HO418.out)) (by decide) hg); have n4_ := Aside0.mk (blk_grown (g := gb402) (o := .cells #[.int .i64 t392, .int .i64 t393, .string t394, .slice Ao11 t395.length co11, .slice Ao12 t398.length co12] 33 (0, 0)) (by (with_reducible repeat (first | refine blk_drewN ?_ _ | refine blk_drew ?_ | refine blk_alloc ?_ _)); exact BK402.out) hg (Kd.R_ne HO418.out BK402.out (by decide))); have n5_ := Aside0.mk (blk_grown (g := gb413) (o := .cells #[.int .i64 t403, .int .i64 t404, .string t405, .slice Ao18 t406.length co18, .slice Ao19 t409.length co19] 33 (0, 0)) (by (with_reducible repeat (first | refine blk_drewN ?_ _ | refine blk_drew ?_ | refine blk_alloc ?_ _)); exact BK413.out) hg (Kd.R_ne HO418.out BK413.out (by decide))); have n6_ := Aside0.mk (IsS54.grown (by repeat (first | (with_reducible first | exact HI391.out | apply IsS54.alloc | apply IsS54.drewN | apply IsS54.drew | apply IsS54.set_1 | refine IsS54.far ?_ NB391_402.out _ | refine IsS54.far ?_ NB391_413.out _) | exact HI391.out)) hg (IsS54.own_ne HI391.out HO418.out (by decide))); have n7_ := Aside0.mk (hb); have n8_ := Aside0.mk (ho); clear HO_403003 HO_403004 HO_414003 HO_414004 BK402 BK413 HI391 HB HO418; have HO_403003 := n0_; have HO_403004 := n1_; have HO_414003 := n2_; have HO_414004 := n3_; have BK402 := n4_; have BK413 := n5_; have HI391 := n6_; have HB := n7_; have HO421 := n8_; clear n0_ n1_ n2_ n3_ n4_ n5_ n6_ n7_ n8_ ho hb hg hat; obtain ⟨Ao41, co41, eo41⟩ := Kd.R_slice HO421.out; subst eo41; have hnb42 := NB413_391.out; have hnc42 := NB391_413.out; have hcz43_0 : w40.cell? ⟨gb413, 0, none⟩ = some (.int .i64 t403) := (blk_cell BK413.out 0).trans rfl; have hcz43_1 : w40.cell? ⟨gb413, 1, none⟩ = some (.int .i64 t404) := (blk_cell BK413.out 1).trans rfl; have hcz43_2 : w40.cell? ⟨gb413, 2, none⟩ = some (.string t405) := (blk_cell BK413.out 2).trans rfl; have hcz43_3 : w40.cell? ⟨gb413, 3, none⟩ = some (.slice Ao18 t406.length co18) := (blk_cell BK413.out 3).trans rfl; have hcz43_4 : w40.cell? ⟨gb413, 4, none⟩ = some (.slice Ao19 t409.length co19) := (blk_cell BK413.out 4).trans rfl; have hfz43_0 := blk_frozen BK413.out 0; have hfz43_1 := blk_frozen BK413.out 1; have hfz43_2 := blk_frozen BK413.out 2; have hfz43_3 := blk_frozen BK413.out 3; have hfz43_4 := blk_frozen BK413.out 4))
        have n0_ : Aside0 (Kd.R k23 23 (w40.setCell ⟨gb413, 3, none⟩ (.slice Ao41 y419.length co41)) w.heap.size (fun k_ => some k_ ≠ (.slice Ao18 t406.length co18 : Value).ownBlock ∧ some k_ ≠ (.slice Ao41 y419.length co41 : Value).ownBlock) (.slice Ao11 t395.length co11) t395) := ⟨by (with_reducible repeat (first | apply Kd.R_alloc | apply Kd.R_drewN | apply Kd.R_drew)); exact Kd.R_mono (Kd.R_far (p := ⟨gb413, 3, none⟩) (Kd.R_types HO_403003.out BK413.out (by decide)) (fun _ hk => hk.2) (.slice Ao41 y419.length co41)) (fun _ hk => ⟨hk.1.1, hk.1.2⟩)⟩
        have n1_ : Aside0 (Kd.R (Kd.int .i64) 3 (w40.setCell ⟨gb413, 3, none⟩ (.slice Ao41 y419.length co41)) w.heap.size (fun k_ => some k_ ≠ (.slice Ao19 t409.length co19 : Value).ownBlock) (.slice Ao12 t398.length co12) t398) := ⟨by (with_reducible repeat (first | apply Kd.R_alloc | apply Kd.R_drewN | apply Kd.R_drew)); exact Kd.R_mono (Kd.R_far (p := ⟨gb413, 3, none⟩) (Kd.R_types HO_403004.out BK413.out (by decide)) (fun _ hk => hk.2) (.slice Ao41 y419.length co41)) (fun _ hk => hk.1)⟩
        have n2_ : Aside0 (Kd.R k23 23 (w40.setCell ⟨gb413, 3, none⟩ (.slice Ao41 y419.length co41)) w.heap.size (fun k_ => some k_ ≠ (.slice Ao11 t395.length co11 : Value).ownBlock ∧ some k_ ≠ (.slice Ao41 y419.length co41 : Value).ownBlock) (.slice Ao18 t406.length co18) t406) := ⟨by (with_reducible repeat (first | apply Kd.R_alloc | apply Kd.R_drewN | apply Kd.R_drew)); exact Kd.R_mono (Kd.R_far (p := ⟨gb413, 3, none⟩) (Kd.R_types HO_414003.out BK413.out (by decide)) (fun _ hk => hk.2) (.slice Ao41 y419.length co41)) (fun _ hk => ⟨hk.1.1, hk.1.2⟩)⟩
        have n3_ : Aside0 (Kd.R (Kd.int .i64) 3 (w40.setCell ⟨gb413, 3, none⟩ (.slice Ao41 y419.length co41)) w.heap.size (fun k_ => some k_ ≠ (.slice Ao12 t398.length co12 : Value).ownBlock) (.slice Ao19 t409.length co19) t409) := ⟨by (with_reducible repeat (first | apply Kd.R_alloc | apply Kd.R_drewN | apply Kd.R_drew)); exact Kd.R_mono (Kd.R_far (p := ⟨gb413, 3, none⟩) (Kd.R_types HO_414004.out BK413.out (by decide)) (fun _ hk => hk.2) (.slice Ao41 y419.length co41)) (fun _ hk => hk.1)⟩
        have n4_ : Aside0 (Kd.R k23 23 (w40.setCell ⟨gb413, 3, none⟩ (.slice Ao41 y419.length co41)) w.heap.size (fun k_ => some k_ ≠ (.slice Ao11 t395.length co11 : Value).ownBlock ∧ some k_ ≠ (.slice Ao18 t406.length co18 : Value).ownBlock) (.slice Ao41 y419.length co41) y419) := ⟨by (with_reducible repeat (first | apply Kd.R_alloc | apply Kd.R_drewN | apply Kd.R_drew)); exact Kd.R_mono (Kd.R_far (p := ⟨gb413, 3, none⟩) (Kd.R_types HO421.out BK413.out (by decide)) (fun _ hk => hk.2) (.slice Ao41 y419.length co41)) (fun _ hk => ⟨hk.1.1, hk.1.2⟩)⟩
        have n5_ : Aside0 ((w40.setCell ⟨gb413, 3, none⟩ (.slice Ao41 y419.length co41)).heap[gb402]? = some (.cells #[.int .i64 t392, .int .i64 t393, .string t394, .slice Ao11 t395.length co11, .slice Ao12 t398.length co12] 33 (0, 0))) := ⟨by (with_reducible repeat (first | refine blk_drewN ?_ _ | refine blk_drew ?_ | refine blk_alloc ?_ _)); refine blk_far ?_ NB402_413.out _; (with_reducible repeat (first | refine blk_drewN ?_ _ | refine blk_drew ?_ | refine blk_alloc ?_ _)); exact BK402.out⟩
        have n6_ : Aside0 ((w40.setCell ⟨gb413, 3, none⟩ (.slice Ao41 y419.length co41)).heap[gb413]? = some (.cells #[.int .i64 t403, .int .i64 t404, .string t405, .slice Ao41 y419.length co41, .slice Ao19 t409.length co19] 33 (0, 0))) := ⟨by (with_reducible repeat (first | refine blk_drewN ?_ _ | refine blk_drew ?_ | refine blk_alloc ?_ _)); refine blk_put (cs := #[.int .i64 t403, .int .i64 t404, .string t405, .slice Ao18 t406.length co18, .slice Ao19 t409.length co19]) ?_ 3 _ rfl; (with_reducible repeat (first | refine blk_drewN ?_ _ | refine blk_drew ?_ | refine blk_alloc ?_ _)); exact BK413.out⟩
        have n7_ : Aside0 (IsS54 w (w40.setCell ⟨gb413, 3, none⟩ (.slice Ao41 y419.length co41)) g391 t389 x392001_4) := ⟨by repeat (first | (with_reducible first | exact HI391.out | apply IsS54.alloc | apply IsS54.drewN | apply IsS54.drew | apply IsS54.set_1 | refine IsS54.far ?_ NB391_402.out _ | refine IsS54.far ?_ NB391_413.out _) | exact HI391.out)⟩
        have n8_ : Aside0 (Below w.heap.size w (w40.setCell ⟨gb413, 3, none⟩ (.slice Ao41 y419.length co41))) := ⟨by repeat (first | (with_reducible first | exact HB.out | apply below_alloc | apply pw_below_drewN | apply below_drew1 | refine below_set ?_ (IsS54.ge HI391.out) | refine below_set ?_ GE402.out | refine below_set ?_ GE413.out) | exact HB.out)⟩
        (try clear HO_403003)
        (try clear HO_403004)
        (try clear HO_414003)
        (try clear HO_414004)
        (try clear HO421)
        (try clear BK402)
        (try clear BK413)
        (try clear HI391)
        (try clear HB)
        generalize (w40.setCell ⟨gb413, 3, none⟩ (.slice Ao41 y419.length co41)) = w44 at n0_ n1_ n2_ n3_ n4_ n5_ n6_ n7_ n8_ ⊢
        have HO_403003 := n0_
        have HO_403004 := n1_
        have HO_414003 := n2_
        have HO_414004 := n3_
        have HO421 := n4_
        have BK402 := n5_
        have BK413 := n6_
        have HI391 := n7_
        have HB := n8_
        clear n0_ n1_ n2_ n3_ n4_ n5_ n6_ n7_ n8_
        have n0_ := Aside0.mk (Kd.R_drew HO_403003.out)
        have n1_ := Aside0.mk (Kd.R_drew HO_403004.out)
        have n2_ := Aside0.mk (Kd.R_drew HO_414003.out)
        have n3_ := Aside0.mk (Kd.R_drew HO_414004.out)
        have n4_ := Aside0.mk (Kd.R_drew HO421.out)
        have n5_ := Aside0.mk (blk_drew BK402.out)
        have n6_ := Aside0.mk (blk_drew BK413.out)
        have n7_ := Aside0.mk (IsS54.drew HI391.out)
        have n8_ := Aside0.mk (below_drew1 HB.out)
        clear HO_403003 HO_403004 HO_414003 HO_414004 HO421 BK402 BK413 HI391 HB
        have HO_403003 := n0_
        have HO_403004 := n1_
        have HO_414003 := n2_
        have HO_414004 := n3_
        have HO421 := n4_
        have BK402 := n5_
        have BK413 := n6_
        have HI391 := n7_
        have HB := n8_
        clear n0_ n1_ n2_ n3_ n4_ n5_ n6_ n7_ n8_
        refine start_ (n := 11) (S := fun w' => w'.cell? ⟨gb413, 0, none⟩ = some (.int .i64 t403) ∧ w'.cell? ⟨gb413, 1, none⟩ = some (.int .i64 t404) ∧ w'.cell? ⟨gb413, 2, none⟩ = some (.string t405) ∧ w'.cell? ⟨gb413, 3, none⟩ = some (.slice Ao41 y419.length co41) ∧ w'.cell? ⟨gb413, 4, none⟩ = some (.slice Ao19 t409.length co19)) (ds := [10]) #[false, false, false, false, false, false, false, false, false, false, false] (by kernel_rfl) rfl rfl ⟨(blk_cell BK413.out 0).trans rfl, (blk_cell BK413.out 1).trans rfl, (blk_cell BK413.out 2).trans rfl, (blk_cell BK413.out 3).trans rfl, (blk_cell BK413.out 4).trans rfl⟩ (fun hHeld => ?_); refine with_tabW awardingbodylaw06_ItemMaterial.tab6 awardingbodylaw06_ItemMaterial.bits6 (fun HT_ HW_ => ?_)
        generalize w44.drew = w45 at HO_403003 HO_403004 HO_414003 HO_414004 HO421 BK402 BK413 HI391 HB hHeld ⊢
        refine pure_ (i := 0) (N := some 26) (v := ?_) (a' := ?_) #[true, false, false, false, false, false, false, false, false, false, false] rfl rfl (any_of HT_.out (by kernel_rfl)) (fun _ _ _ h => h) (Or.inl ⟨by rfl, ?_⟩) ?_ ?_
        rotate_left
        ·intro w'
         go_simp
         with_reducible rfl
        rotate_left
        ·simp only [Act.put, List.setIfInBounds_toArray, List.set_cons_zero, List.set_cons_succ, i64_w, i32_w]
         rfl
        refine pure_ (i := 2) (N := some 28) (v := ?_) (a' := ?_) #[true, false, true, false, false, false, false, false, false, false, false] rfl rfl (any_of HT_.out (by kernel_rfl)) (fun _ _ _ h => h) (Or.inl ⟨by rfl, ?_⟩) ?_ ?_
        rotate_left
        ·intro w'
         go_simp
         with_reducible rfl
        rotate_left
        ·simp only [Act.put, List.setIfInBounds_toArray, List.set_cons_zero, List.set_cons_succ, i64_w, i32_w]
         rfl
        refine pure_ (i := 3) (N := some 29) (v := ?_) (a' := ?_) #[true, false, true, true, false, false, false, false, false, false, false] rfl rfl (any_of HT_.out (by kernel_rfl)) (fun _ _ _ h => h) (Or.inl ⟨by rfl, ?_⟩) ?_ ?_
        rotate_left
        ·intro w'
         go_simp
         with_reducible rfl
        rotate_left
        ·simp only [Act.put, List.setIfInBounds_toArray, List.set_cons_zero, List.set_cons_succ, i64_w, i32_w]
         rfl
        refine pure_ (i := 7) (N := some 33) (v := ?_) (a' := ?_) #[true, false, true, true, false, false, false, true, false, false, false] rfl rfl (any_of HT_.out (by kernel_rfl)) (fun _ _ _ h => h) (Or.inl ⟨by rfl, ?_⟩) ?_ ?_
        rotate_left
        ·intro w'
         go_simp
         with_reducible rfl
        rotate_left
        ·simp only [Act.put, List.setIfInBounds_toArray, List.set_cons_zero, List.set_cons_succ, i64_w, i32_w]
         rfl
        refine take_ (i := 1) (N := some 27) (v := ?_) (a' := ?_) #[true, true, true, true, false, false, false, true, false, false, false] rfl rfl (take_ofW HT_.out HW_.out (by kernel_rfl)) (fun _ _ _ h => h) (Or.inl ⟨by rfl, ?_⟩) hHeld ?_ ?_
        rotate_left
        ·rintro w' ⟨s0, s1, s2, s3, s4⟩
         go_simp
         with_reducible rfl
        rotate_left
        ·simp only [Act.put, List.setIfInBounds_toArray, List.set_cons_zero, List.set_cons_succ, i64_w, i32_w]
         rfl
        refine take_ (i := 4) (N := some 30) (v := ?_) (a' := ?_) #[true, true, true, true, true, false, false, true, false, false, false] rfl rfl (take_ofW HT_.out HW_.out (by kernel_rfl)) (fun _ _ _ h => h) (Or.inl ⟨by rfl, ?_⟩) hHeld ?_ ?_
        rotate_left
        ·rintro w' ⟨s0, s1, s2, s3, s4⟩
         go_simp
         with_reducible rfl
        rotate_left
        ·simp only [Act.put, List.setIfInBounds_toArray, List.set_cons_zero, List.set_cons_succ, i64_w, i32_w]
         rfl
        refine pure_ (i := 5) (N := some 31) (v := ?_) (a' := ?_) #[true, true, true, true, true, true, false, true, false, false, false] rfl rfl (any_of HT_.out (by kernel_rfl)) (fun _ _ _ h => h) (Or.inl ⟨by rfl, ?_⟩) ?_ ?_
        rotate_left
        ·intro w'
         go_simp
         with_reducible rfl
        rotate_left
        ·simp only [Act.put, List.setIfInBounds_toArray, List.set_cons_zero, List.set_cons_succ, i64_w, i32_w]
         rfl
        refine one_ (i := 6) (N := some 32) #[true, true, true, true, true, true, true, true, false, false, false] rfl rfl (one_of HT_.out (by kernel_rfl)) (by decide) (fun K hK => ?_)
        refine goes_ Try.func17 (by kernel_rfl) rfl #[.pointer (some ⟨g391, 0, none⟩), .int .i64 (y419.length : Int)] (by rfl) rfl rfl (by (try simp only [List.map_toArray, List.map_cons, List.map_nil]); first | done | rfl | (simp only [List.length_drop, List.length_take]; rfl)) ?_
        with_reducible refine (awardingbodymake_Tape_Next.calls g391 t389 x392001_4 (y419.length : Int) t422 t423 w _ ?side1 ?side2 A30.out).mono ?_
        (case side1 => repeat (first | (with_reducible first | exact HI391.out | apply IsS54.alloc | apply IsS54.drewN | apply IsS54.drew | apply IsS54.set_1 | refine IsS54.far ?_ NB391_402.out _ | refine IsS54.far ?_ NB391_413.out _) | exact HI391.out))
        (case side2 => repeat (first | (with_reducible first | exact HB.out | apply below_alloc | apply pw_below_drewN | apply below_drew1 | refine below_set ?_ (IsS54.ge HI391.out) | refine below_set ?_ GE402.out | refine below_set ?_ GE413.out) | exact HB.out))
        rintro e w46 ⟨rfl, hi, hb, hk⟩
        refine ⟨_, rfl, ?_⟩
        have n0_ := Aside0.mk (Kd.R_mono (Kd.R_keep (IsS54.apart (show IsS54 w _ g391 t389 x392001_4 from by repeat (first | (with_reducible first | exact HI391.out | apply IsS54.alloc | apply IsS54.drewN | apply IsS54.drew | apply IsS54.set_1 | refine IsS54.far ?_ NB391_402.out _ | refine IsS54.far ?_ NB391_413.out _) | exact HI391.out)) (by (with_reducible repeat (first | apply Kd.R_alloc | apply Kd.R_drewN | apply Kd.R_drew)); exact HO_403003.out) (by decide)) hk (fun _ h => h.2)) (fun _ h => h.1))
        have n1_ := Aside0.mk (Kd.R_mono (Kd.R_keep (IsS54.apart (show IsS54 w _ g391 t389 x392001_4 from by repeat (first | (with_reducible first | exact HI391.out | apply IsS54.alloc | apply IsS54.drewN | apply IsS54.drew | apply IsS54.set_1 | refine IsS54.far ?_ NB391_402.out _ | refine IsS54.far ?_ NB391_413.out _) | exact HI391.out)) (by (with_reducible repeat (first | apply Kd.R_alloc | apply Kd.R_drewN | apply Kd.R_drew)); exact HO_403004.out) (by decide)) hk (fun _ h => h.2)) (fun _ h => h.1))
        have n2_ := Aside0.mk (Kd.R_mono (Kd.R_keep (IsS54.apart (show IsS54 w _ g391 t389 x392001_4 from by repeat (first | (with_reducible first | exact HI391.out | apply IsS54.alloc | apply IsS54.drewN | apply IsS54.drew | apply IsS54.set_1 | refine IsS54.far ?_ NB391_402.out _ | refine IsS54.far ?_ NB391_413.out _) | exact HI391.out)) (by (with_reducible repeat (first | apply Kd.R_alloc | apply Kd.R_drewN | apply Kd.R_drew)); exact HO_414003.out) (by decide)) hk (fun _ h => h.2)) (fun _ h => h.1))
        have n3_ := Aside0.mk (Kd.R_mono (Kd.R_keep (IsS54.apart (show IsS54 w _ g391 t389 x392001_4 from by repeat (first | (with_reducible first | exact HI391.out | apply IsS54.alloc | apply IsS54.drewN | apply IsS54.drew | apply IsS54.set_1 | refine IsS54.far ?_ NB391_402.out _ | refine IsS54.far ?_ NB391_413.out _) | exact HI391.out)) (by (with_reducible repeat (first | apply Kd.R_alloc | apply Kd.R_drewN | apply Kd.R_drew)); exact HO_414004.out) (by decide)) hk (fun _ h => h.2)) (fun _ h => h.1))
        have n4_ := Aside0.mk (KeepBut.blk hk (g' := gb402) (o := .cells #[.int .i64 t392, .int .i64 t393, .string t394, .slice Ao11 t395.length co11, .slice Ao12 t398.length co12] 33 (0, 0)) (by (with_reducible repeat (first | refine blk_drewN ?_ _ | refine blk_drew ?_ | refine blk_alloc ?_ _)); exact BK402.out) NB402_391.out (by simp))
        have n5_ := Aside0.mk (KeepBut.blk hk (g' := gb413) (o := .cells #[.int .i64 t403, .int .i64 t404, .string t405, .slice Ao41 y419.length co41, .slice Ao19 t409.length co19] 33 (0, 0)) (by (with_reducible repeat (first | refine blk_drewN ?_ _ | refine blk_drew ?_ | refine blk_alloc ?_ _)); exact BK413.out) NB413_391.out (by simp))
        have n6_ := Aside0.mk (Kd.R_mono (Kd.R_keep (IsS54.apart (show IsS54 w _ g391 t389 x392001_4 from by repeat (first | (with_reducible first | exact HI391.out | apply IsS54.alloc | apply IsS54.drewN | apply IsS54.drew | apply IsS54.set_1 | refine IsS54.far ?_ NB391_402.out _ | refine IsS54.far ?_ NB391_413.out _) | exact HI391.out)) (by (with_reducible repeat (first | apply Kd.R_alloc | apply Kd.R_drewN | apply Kd.R_drew)); exact HO421.out) (by decide)) hk (fun _ h => h.2)) (fun _ h => h.1))
        have n7_ := Aside0.mk (hb)
        have n8_ := Aside0.mk (hi)
        clear HO_403003 HO_403004 HO_414003 HO_414004 BK402 BK413 HO421 HB HI391
        have HO_403003 := n0_
        have HO_403004 := n1_
        have HO_414003 := n2_
        have HO_414004 := n3_
        have BK402 := n4_
        have BK413 := n5_
        have HO421 := n6_
        have HB := n7_
        have HI391 := n8_
        clear n0_ n1_ n2_ n3_ n4_ n5_ n6_ n7_ n8_
        (try clear hb)
        (try clear hb2)
        (try clear hk)
        (try clear hi)
        refine hK.out _ _ ⟨(blk_cell BK413.out 0).trans rfl, (blk_cell BK413.out 1).trans rfl, (blk_cell BK413.out 2).trans rfl, (blk_cell BK413.out 3).trans rfl, (blk_cell BK413.out 4).trans rfl⟩ (fun hHeld => ?_)
        clear hK K
        refine norm_ (a' := ?_) ?_ ?_
        rotate_left
        ·show Act.put _ (some 32) _ = _
         simp only [Act.put, List.setIfInBounds_toArray, List.set_cons_zero, List.set_cons_succ, i64_w, i32_w]
         rfl
        refine one_ (i := 8) (N := some 34) #[true, true, true, true, true, true, true, true, true, false, false] rfl rfl (one_of HT_.out (by kernel_rfl)) (by decide) (fun K hK => ?_)
        refine goes_ Try.func23 (by kernel_rfl) rfl #[.pointer (some ⟨g391, 0, none⟩), .int .i64 0] (by rfl) rfl rfl (by (try simp only [List.map_toArray, List.map_cons, List.map_nil]); first | done | rfl | (simp only [List.length_drop, List.length_take]; rfl)) ?_
        with_reducible refine (awardingbodymake_Tape_Part.calls kj4 g391 t389 t423 0 t424 t425 t426 t427 t428 t429 t430 w _ ?side1 ?side2 A31.out).mono ?_
        (case side1 => repeat (first | (with_reducible first | exact HI391.out | apply IsS54.alloc | apply IsS54.drewN | apply IsS54.drew | apply IsS54.set_1 | refine IsS54.far ?_ NB391_402.out _ | refine IsS54.far ?_ NB391_413.out _) | exact HI391.out))
        (case side2 => repeat (first | (with_reducible first | exact HB.out | apply below_alloc | apply pw_below_drewN | apply below_drew1 | refine below_set ?_ (IsS54.ge HI391.out) | refine below_set ?_ GE402.out | refine below_set ?_ GE413.out) | exact HB.out))
        rintro e w47 ⟨rfl, hi, hb, hk⟩
        refine ⟨_, rfl, ?_⟩
        have n0_ := Aside0.mk (Kd.R_mono (Kd.R_keep (IsS54.apart (show IsS54 w _ g391 t389 t423 from by repeat (first | (with_reducible first | exact HI391.out | apply IsS54.alloc | apply IsS54.drewN | apply IsS54.drew | apply IsS54.set_1 | refine IsS54.far ?_ NB391_402.out _ | refine IsS54.far ?_ NB391_413.out _) | exact HI391.out)) (by (with_reducible repeat (first | apply Kd.R_alloc | apply Kd.R_drewN | apply Kd.R_drew)); exact HO_403003.out) (by decide)) hk (fun _ h => h.2)) (fun _ h => h.1))
        have n1_ := Aside0.mk (Kd.R_mono (Kd.R_keep (IsS54.apart (show IsS54 w _ g391 t389 t423 from by repeat (first | (with_reducible first | exact HI391.out | apply IsS54.alloc | apply IsS54.drewN | apply IsS54.drew | apply IsS54.set_1 | refine IsS54.far ?_ NB391_402.out _ | refine IsS54.far ?_ NB391_413.out _) | exact HI391.out)) (by (with_reducible repeat (first | apply Kd.R_alloc | apply Kd.R_drewN | apply Kd.R_drew)); exact HO_403004.out) (by decide)) hk (fun _ h => h.2)) (fun _ h => h.1))
        have n2_ := Aside0.mk (Kd.R_mono (Kd.R_keep (IsS54.apart (show IsS54 w _ g391 t389 t423 from by repeat (first | (with_reducible first | exact HI391.out | apply IsS54.alloc | apply IsS54.drewN | apply IsS54.drew | apply IsS54.set_1 | refine IsS54.far ?_ NB391_402.out _ | refine IsS54.far ?_ NB391_413.out _) | exact HI391.out)) (by (with_reducible repeat (first | apply Kd.R_alloc | apply Kd.R_drewN | apply Kd.R_drew)); exact HO_414003.out) (by decide)) hk (fun _ h => h.2)) (fun _ h => h.1))
        have n3_ := Aside0.mk (Kd.R_mono (Kd.R_keep (IsS54.apart (show IsS54 w _ g391 t389 t423 from by repeat (first | (with_reducible first | exact HI391.out | apply IsS54.alloc | apply IsS54.drewN | apply IsS54.drew | apply IsS54.set_1 | refine IsS54.far ?_ NB391_402.out _ | refine IsS54.far ?_ NB391_413.out _) | exact HI391.out)) (by (with_reducible repeat (first | apply Kd.R_alloc | apply Kd.R_drewN | apply Kd.R_drew)); exact HO_414004.out) (by decide)) hk (fun _ h => h.2)) (fun _ h => h.1))
        have n4_ := Aside0.mk (KeepBut.blk hk (g' := gb402) (o := .cells #[.int .i64 t392, .int .i64 t393, .string t394, .slice Ao11 t395.length co11, .slice Ao12 t398.length co12] 33 (0, 0)) (by (with_reducible repeat (first | refine blk_drewN ?_ _ | refine blk_drew ?_ | refine blk_alloc ?_ _)); exact BK402.out) NB402_391.out (by simp))
        have n5_ := Aside0.mk (KeepBut.blk hk (g' := gb413) (o := .cells #[.int .i64 t403, .int .i64 t404, .string t405, .slice Ao41 y419.length co41, .slice Ao19 t409.length co19] 33 (0, 0)) (by (with_reducible repeat (first | refine blk_drewN ?_ _ | refine blk_drew ?_ | refine blk_alloc ?_ _)); exact BK413.out) NB413_391.out (by simp))
        have n6_ := Aside0.mk (Kd.R_mono (Kd.R_keep (IsS54.apart (show IsS54 w _ g391 t389 t423 from by repeat (first | (with_reducible first | exact HI391.out | apply IsS54.alloc | apply IsS54.drewN | apply IsS54.drew | apply IsS54.set_1 | refine IsS54.far ?_ NB391_402.out _ | refine IsS54.far ?_ NB391_413.out _) | exact HI391.out)) (by (with_reducible repeat (first | apply Kd.R_alloc | apply Kd.R_drewN | apply Kd.R_drew)); exact HO421.out) (by decide)) hk (fun _ h => h.2)) (fun _ h => h.1))
        have n7_ := Aside0.mk (hb)
        have n8_ := Aside0.mk (hi)
        clear HO_403003 HO_403004 HO_414003 HO_414004 BK402 BK413 HO421 HB HI391
        have HO_403003 := n0_
        have HO_403004 := n1_
        have HO_414003 := n2_
        have HO_414004 := n3_
        have BK402 := n4_
        have BK413 := n5_
        have HO421 := n6_
        have HB := n7_
        have HI391 := n8_
        clear n0_ n1_ n2_ n3_ n4_ n5_ n6_ n7_ n8_
        (try clear hb)
        (try clear hb2)
        (try clear hk)
        (try clear hi)
        have p34 : 0 ≤ (t422 : Int) := of_decide_eq_true (by first | (with_reducible assumption) | assumption)
        have q34 : (t422 : Int) < ((y419.length : Int) : Int) := of_decide_eq_true (by first | (with_reducible assumption) | assumption)
        obtain ⟨go34, co34, eo34, gb34, gl34, cl34, HG34⟩ := Kd.R_form HO421.out (by omega)
        (first | cases eo34 | (injection eo34 with ea_ en_ ec_; (first | subst ea_ | (injection ea_ with ea_; subst ea_)); subst ec_; clear en_))
        have GB34 := Aside0.mk gb34
        have GG34 := Aside0.mk HG34
        clear gb34 gl34 HG34
        obtain ⟨ce34, hcl34, hM34, hcc34, hfr34⟩ := Kd.R_elem HO421.out z23 (t422 : Int) p34 q34
        obtain rfl := k23_openM hM34
        have hx34_0 : World.cell? _ ⟨go34, (t422 : Int).toNat * 6, none⟩ = some (.int .i64 ((rd_T23 y419 t422).f0)) := hcc34 0 _ rfl
        have hx34_1 : World.cell? _ ⟨go34, (t422 : Int).toNat * 6 + 1, none⟩ = some (.int .i64 ((rd_T23 y419 t422).f1)) := hcc34 1 _ rfl
        have hx34_2 : World.cell? _ ⟨go34, (t422 : Int).toNat * 6 + 2, none⟩ = some (.int .i64 ((rd_T23 y419 t422).f2)) := hcc34 2 _ rfl
        have hx34_3 : World.cell? _ ⟨go34, (t422 : Int).toNat * 6 + 3, none⟩ = some (.int .i64 ((rd_T23 y419 t422).f3)) := hcc34 3 _ rfl
        have hx34_4 : World.cell? _ ⟨go34, (t422 : Int).toNat * 6 + 4, none⟩ = some (.int .i64 ((rd_T23 y419 t422).f4)) := hcc34 4 _ rfl
        have hx34_5 : World.cell? _ ⟨go34, (t422 : Int).toNat * 6 + 5, none⟩ = some (.int .i64 ((rd_T23 y419 t422).f5)) := hcc34 5 _ rfl
        have hf34_0 : World.frozen? _ ⟨go34, (t422 : Int).toNat * 6, none⟩ = false := hfr34 0
        have hf34_1 : World.frozen? _ ⟨go34, (t422 : Int).toNat * 6 + 1, none⟩ = false := hfr34 1
        have hf34_2 : World.frozen? _ ⟨go34, (t422 : Int).toNat * 6 + 2, none⟩ = false := hfr34 2
        have hf34_3 : World.frozen? _ ⟨go34, (t422 : Int).toNat * 6 + 3, none⟩ = false := hfr34 3
        have hf34_4 : World.frozen? _ ⟨go34, (t422 : Int).toNat * 6 + 4, none⟩ = false := hfr34 4
        have hf34_5 : World.frozen? _ ⟨go34, (t422 : Int).toNat * 6 + 5, none⟩ = false := hfr34 5
        clear hcl34 hcc34 hfr34 hM34
        replace p34 := eq_true p34
        replace q34 := eq_true q34
        have HN391_go34 := Aside0.mk (show g391 ≠ go34 from by have h_ := IsS54.own_ne HI391.out HO421.out (by decide); intro e_; exact h_ (by rw [e_]; rfl))
        obtain ⟨ce48, hcl48, hM48, hcc48, hfr48⟩ := Kd.R_elem HO421.out z23 (t422 : Int) (of_decide_eq_true (by first | (with_reducible assumption) | assumption)) (by have h_ : (t422 : Int) < ((y419.length : Int) : Int) := of_decide_eq_true (by first | (with_reducible assumption) | assumption); first | exact h_ | (have e_ := (Kd.R_reads' HO421.out).1; omega) | simpa using h_)
        obtain rfl := k23_openM hM48
        have HP48 := (Kd.R_seg HO421.out (t422 : Int) (of_decide_eq_true (by first | (with_reducible assumption) | assumption)) (by have h_ : (t422 : Int) < ((y419.length : Int) : Int) := of_decide_eq_true (by first | (with_reducible assumption) | assumption); first | exact h_ | (have e_ := (Kd.R_reads' HO421.out).1; omega) | simpa using h_) (seg := [.int .i64 t424, .int .i64 t425, .int .i64 t426, .int .i64 t427, .int .i64 t428, .int .i64 t429]) (j := 0) hcl48 hcc48 (show 6 ≤ 6 from by decide) (x' := (⟨t424, t425, t426, t427, t428, t429⟩ : S23)) (k23_mkM _ _ _ (⟨t424, t425, t426, t427, t428, t429⟩ : S23) ) (fun _ hk => hk)).1
        rw [← Ny431.out] at HP48
        have HQ48 := Aside0.mk HP48
        clear hcl48 hcc48 hfr48 hM48 HP48
        refine hK.out _ _ ⟨(blk_cell BK413.out 0).trans rfl, (blk_cell BK413.out 1).trans rfl, (blk_cell BK413.out 2).trans rfl, (blk_cell BK413.out 3).trans rfl, (blk_cell BK413.out 4).trans rfl⟩ (fun hHeld => ?_)
        clear hK K
        refine norm_ (a' := ?_) ?_ ?_
        rotate_left
        ·show Act.put _ (some 34) _ = _
         simp only [Act.put, List.setIfInBounds_toArray, List.set_cons_zero, List.set_cons_succ, i64_w, i32_w]
         rfl
        refine pure_ (i := 9) (N := some 35) (v := ?_) (a' := ?_) #[true, true, true, true, true, true, true, true, true, true, false] rfl rfl (any_of HT_.out (by kernel_rfl)) (fun _ _ _ h => h) (Or.inl ⟨by rfl, ?_⟩) ?_ ?_
        rotate_left
        ·intro w'
         go_simp
         with_reducible rfl
        rotate_left
        ·simp only [Act.put, List.setIfInBounds_toArray, List.set_cons_zero, List.set_cons_succ, i64_w, i32_w]
         rfl
        refine last_ (i := 10) (N := none) #[true, true, true, true, true, true, true, true, true, true, true] rfl rfl (one_of HT_.out (by kernel_rfl)) (by decide) (fun K hK => ?_)
        refine skip_ (w1 := ?_) (by rfl) rfl ?_ ?_
        rotate_left
        ·go_simp
         rfl
        refine hK.out _ _ ?_
        clear hK K
        refine done_ (done_of HT_.out (by kernel_rfl)) ?_
        try go_wp2
        go_meet
        case rel => exact ⟨_, (t395), (y431), (.slice Ao11 t395.length co11), (.slice (some ⟨go34, 0, none⟩) y419.length co41), H', ⟨by have := HJ4.out; first | omega | exact Nat.le_refl _⟩, ⟨by (with_reducible repeat (first | apply Kd.R_alloc | apply Kd.R_drewN | apply Kd.R_drew)); exact Kd.R_mono (Kd.R_far (p := ⟨go34, (t422 : Int).toNat * 6 + 5, none⟩) (Kd.R_far (p := ⟨go34, (t422 : Int).toNat * 6 + 4, none⟩) (Kd.R_far (p := ⟨go34, (t422 : Int).toNat * 6 + 3, none⟩) (Kd.R_far (p := ⟨go34, (t422 : Int).toNat * 6 + 2, none⟩) (Kd.R_far (p := ⟨go34, (t422 : Int).toNat * 6 + 1, none⟩) (Kd.R_far (p := ⟨go34, (t422 : Int).toNat * 6, none⟩) (Kd.R_mono HO_403003.out (fun k_ hk => (⟨hk, fun e_ => hk.2 (by rw [e_]; rfl)⟩ : _ ∧ k_ ≠ go34))) (fun _ hk => hk.2) (.int .i64 t424)) (fun _ hk => hk.2) (.int .i64 t425)) (fun _ hk => hk.2) (.int .i64 t426)) (fun _ hk => hk.2) (.int .i64 t427)) (fun _ hk => hk.2) (.int .i64 t428)) (fun _ hk => hk.2) (.int .i64 t429)) (fun _ hk => hk.1.2)⟩, ⟨by (with_reducible repeat (first | apply Kd.R_alloc | apply Kd.R_drewN | apply Kd.R_drew)); exact Kd.R_mono (Kd.R_far (p := ⟨go34, (t422 : Int).toNat * 6 + 5, none⟩) (Kd.R_far (p := ⟨go34, (t422 : Int).toNat * 6 + 4, none⟩) (Kd.R_far (p := ⟨go34, (t422 : Int).toNat * 6 + 3, none⟩) (Kd.R_far (p := ⟨go34, (t422 : Int).toNat * 6 + 2, none⟩) (Kd.R_far (p := ⟨go34, (t422 : Int).toNat * 6 + 1, none⟩) (Kd.R_far (p := ⟨go34, (t422 : Int).toNat * 6, none⟩) (Kd.R_types HO_403004.out GG34.out (by decide)) (fun _ hk => hk.2) (.int .i64 t424)) (fun _ hk => hk.2) (.int .i64 t425)) (fun _ hk => hk.2) (.int .i64 t426)) (fun _ hk => hk.2) (.int .i64 t427)) (fun _ hk => hk.2) (.int .i64 t428)) (fun _ hk => hk.2) (.int .i64 t429)) (fun _ hk => hk.1)⟩, ⟨by (with_reducible repeat (first | apply Kd.R_alloc | apply Kd.R_drewN | apply Kd.R_drew)); exact Kd.R_mono HQ48.out (fun _ hk => hk.1)⟩, ⟨by (with_reducible repeat (first | apply Kd.R_alloc | apply Kd.R_drewN | apply Kd.R_drew)); exact Kd.R_mono (Kd.R_far (p := ⟨go34, (t422 : Int).toNat * 6 + 5, none⟩) (Kd.R_far (p := ⟨go34, (t422 : Int).toNat * 6 + 4, none⟩) (Kd.R_far (p := ⟨go34, (t422 : Int).toNat * 6 + 3, none⟩) (Kd.R_far (p := ⟨go34, (t422 : Int).toNat * 6 + 2, none⟩) (Kd.R_far (p := ⟨go34, (t422 : Int).toNat * 6 + 1, none⟩) (Kd.R_far (p := ⟨go34, (t422 : Int).toNat * 6, none⟩) (Kd.R_types HO_414004.out GG34.out (by decide)) (fun _ hk => hk.2) (.int .i64 t424)) (fun _ hk => hk.2) (.int .i64 t425)) (fun _ hk => hk.2) (.int .i64 t426)) (fun _ hk => hk.2) (.int .i64 t427)) (fun _ hk => hk.2) (.int .i64 t428)) (fun _ hk => hk.2) (.int .i64 t429)) (fun _ hk => hk.1)⟩, ⟨by (with_reducible repeat (first | refine blk_drewN ?_ _ | refine blk_drew ?_ | refine blk_alloc ?_ _)); refine blk_far ?_ (by have h_ := Kd.R_ne HO421.out BK402.out (by decide); intro e_; exact h_ (by rw [e_]; rfl)) _; (with_reducible repeat (first | refine blk_drewN ?_ _ | refine blk_drew ?_ | refine blk_alloc ?_ _)); refine blk_far ?_ (by have h_ := Kd.R_ne HO421.out BK402.out (by decide); intro e_; exact h_ (by rw [e_]; rfl)) _; (with_reducible repeat (first | refine blk_drewN ?_ _ | refine blk_drew ?_ | refine blk_alloc ?_ _)); refine blk_far ?_ (by have h_ := Kd.R_ne HO421.out BK402.out (by decide); intro e_; exact h_ (by rw [e_]; rfl)) _; (with_reducible repeat (first | refine blk_drewN ?_ _ | refine blk_drew ?_ | refine blk_alloc ?_ _)); refine blk_far ?_ (by have h_ := Kd.R_ne HO421.out BK402.out (by decide); intro e_; exact h_ (by rw [e_]; rfl)) _; (with_reducible repeat (first | refine blk_drewN ?_ _ | refine blk_drew ?_ | refine blk_alloc ?_ _)); refine blk_far ?_ (by have h_ := Kd.R_ne HO421.out BK402.out (by decide); intro e_; exact h_ (by rw [e_]; rfl)) _; (with_reducible repeat (first | refine blk_drewN ?_ _ | refine blk_drew ?_ | refine blk_alloc ?_ _)); refine blk_far ?_ (by have h_ := Kd.R_ne HO421.out BK402.out (by decide); intro e_; exact h_ (by rw [e_]; rfl)) _; (with_reducible repeat (first | refine blk_drewN ?_ _ | refine blk_drew ?_ | refine blk_alloc ?_ _)); exact BK402.out⟩, ⟨by (with_reducible repeat (first | refine blk_drewN ?_ _ | refine blk_drew ?_ | refine blk_alloc ?_ _)); refine blk_far ?_ (by have h_ := Kd.R_ne HO421.out BK413.out (by decide); intro e_; exact h_ (by rw [e_]; rfl)) _; (with_reducible repeat (first | refine blk_drewN ?_ _ | refine blk_drew ?_ | refine blk_alloc ?_ _)); refine blk_far ?_ (by have h_ := Kd.R_ne HO421.out BK413.out (by decide); intro e_; exact h_ (by rw [e_]; rfl)) _; (with_reducible repeat (first | refine blk_drewN ?_ _ | refine blk_drew ?_ | refine blk_alloc ?_ _)); refine blk_far ?_ (by have h_ := Kd.R_ne HO421.out BK413.out (by decide); intro e_; exact h_ (by rw [e_]; rfl)) _; (with_reducible repeat (first | refine blk_drewN ?_ _ | refine blk_drew ?_ | refine blk_alloc ?_ _)); refine blk_far ?_ (by have h_ := Kd.R_ne HO421.out BK413.out (by decide); intro e_; exact h_ (by rw [e_]; rfl)) _; (with_reducible repeat (first | refine blk_drewN ?_ _ | refine blk_drew ?_ | refine blk_alloc ?_ _)); refine blk_far ?_ (by have h_ := Kd.R_ne HO421.out BK413.out (by decide); intro e_; exact h_ (by rw [e_]; rfl)) _; (with_reducible repeat (first | refine blk_drewN ?_ _ | refine blk_drew ?_ | refine blk_alloc ?_ _)); refine blk_far ?_ (by have h_ := Kd.R_ne HO421.out BK413.out (by decide); intro e_; exact h_ (by rw [e_]; rfl)) _; (with_reducible repeat (first | refine blk_drewN ?_ _ | refine blk_drew ?_ | refine blk_alloc ?_ _)); exact BK413.out⟩, ⟨by repeat (first | (with_reducible first | exact HB.out | apply below_alloc | apply pw_below_drewN | apply below_drew1 | refine below_set ?_ GB34.out | refine below_set ?_ GB34.out | refine below_set ?_ GB34.out | refine below_set ?_ GB34.out | refine below_set ?_ GB34.out | refine below_set ?_ GB34.out | refine below_set ?_ (IsS54.ge HI391.out) | refine below_set ?_ GE402.out | refine below_set ?_ GE413.out) | exact HB.out)⟩⟩
       ·rw [if_neg c33] at H
        exact absurd H (by simp)
      ·rw [if_neg c32] at H
       exact absurd H (by simp)
     ·rw [if_neg c29] at H
      exact absurd H (by simp)
    ·replace c28 := Bool.eq_false_iff.mpr c28
     subst c28
     have H1 : (awardingbodylaw06_ItemMaterial.j1 kj4 t392 t393 t394 t395 t398 t403 t404 t405 t406 t409) = some r := by rw [if_neg (show ¬ (false = true) by decide)] at H; exact H
     clear H
     have H := H1
     clear H1
     have H' := Aside0.mk H
     clear H
     go_wp2
     go_meet
     case rel => exact ⟨_, (t395), (t406), (.slice Ao11 t395.length co11), (.slice Ao18 t406.length co18), H', ⟨by have := HJ4.out; first | omega | exact Nat.le_refl _⟩, ⟨by (with_reducible repeat (first | apply Kd.R_alloc | apply Kd.R_drewN | apply Kd.R_drew)); exact HO_403003.out⟩, ⟨by (with_reducible repeat (first | apply Kd.R_alloc | apply Kd.R_drewN | apply Kd.R_drew)); exact HO_403004.out⟩, ⟨by (with_reducible repeat (first | apply Kd.R_alloc | apply Kd.R_drewN | apply Kd.R_drew)); exact HO_414003.out⟩, ⟨by (with_reducible repeat (first | apply Kd.R_alloc | apply Kd.R_drewN | apply Kd.R_drew)); exact HO_414004.out⟩, ⟨by (with_reducible repeat (first | refine blk_drewN ?_ _ | refine blk_drew ?_ | refine blk_alloc ?_ _)); exact BK402.out⟩, ⟨by (with_reducible repeat (first | refine blk_drewN ?_ _ | refine blk_drew ?_ | refine blk_alloc ?_ _)); exact BK413.out⟩, ⟨by repeat (first | (with_reducible first | exact HB.out | apply below_alloc | apply pw_below_drewN | apply below_drew1 | refine below_set ?_ (IsS54.ge HI391.out) | refine below_set ?_ GE402.out | refine below_set ?_ GE413.out) | exact HB.out)⟩⟩
   case rest =>
    clear HC27
    try clear c1
    try clear c2
    try clear p2
    try clear c3
    try clear p3
    try clear q3
    try clear hx3
    try clear hf3
    try clear c4
    try clear c6
    try clear c9
    try clear c15
    try clear c16
    try clear c17
    try clear c21
    try clear c21b0
    try clear c21b1
    try clear c23
    try clear c24
    try clear c28
    try clear c29
    try clear c32
    try clear c32b0
    try clear c33
    try clear c33b0
    try clear c34
    try clear p34
    try clear q34
    try clear hx34
    try clear hf34
    try clear c37
    try clear c38
    try clear c42
    try clear c48
    try clear hcz10_0
    try clear hcz10_1
    try clear hcz10_2
    try clear hcz10_3
    try clear hcz10_4
    try clear hcz17_0
    try clear hcz17_1
    try clear hcz17_2
    try clear hcz17_3
    try clear hcz17_4
    try clear hcz25_0
    try clear hcz25_1
    try clear hcz25_2
    try clear hcz25_3
    try clear hcz25_4
    try clear hcz39_0
    try clear hcz39_1
    try clear hcz39_2
    try clear hcz39_3
    try clear hcz39_4
    try clear hcz43_0
    try clear hcz43_1
    try clear hcz43_2
    try clear hcz43_3
    try clear hcz43_4
    try clear hfz10_0
    try clear hfz10_1
    try clear hfz10_2
    try clear hfz10_3
    try clear hfz10_4
    try clear hfz17_0
    try clear hfz17_1
    try clear hfz17_2
    try clear hfz17_3
    try clear hfz17_4
    try clear hfz25_0
    try clear hfz25_1
    try clear hfz25_2
    try clear hfz25_3
    try clear hfz25_4
    try clear hfz39_0
    try clear hfz39_1
    try clear hfz39_2
    try clear hfz39_3
    try clear hfz39_4
    try clear hfz43_0
    try clear hfz43_1
    try clear hfz43_2
    try clear hfz43_3
    try clear hfz43_4
    try clear hx34_0
    try clear hx34_1
    try clear hx34_2
    try clear hx34_3
    try clear hx34_4
    try clear hx34_5
    try clear p2
    try clear p34
    try clear q34
    obtain ⟨kq, x403003_26, x414003_26, u403003, u414003, HA, HJ26, HO_403003, HO_403004, HO_414003, HO_414004, BK402, BK413, HB⟩ := hcut
    cases kq with
    | zero => exact absurd HA.out (by simp [awardingbodylaw06_ItemMaterial.j1])
    | succ kj26 =>
     have H := HA.out
     clear HA
     simp only [awardingbodylaw06_ItemMaterial.j1] at H
     replace H := Option.bind_eq_some_iff.mp H
     obtain ⟨t432, A490, H⟩ := H
     replace H : ((awardingbodyref06_Material.f kj26 t392 t393 t394 x403003_26 t398 t403 t404 t405 x414003_26 t409).bind fun t435 => ((awardingbodyref06_Ints.f kj26 t432 t435).bind fun t438 => (if t438 = true then ((item_Material.f kj26 t392 t393 t394 x403003_26 t398 t403 t404 t405 x414003_26 t409).bind fun t439 => ((item_Material.f kj26 t403 t404 t405 x414003_26 t409 t392 t393 t394 x403003_26 t398).bind fun t442 => ((awardingbodyref06_Ints.f kj26 t439 t442).bind fun t445 => (if t445 = true then ((item_Material.f kj26 t392 t393 t394 x403003_26 t398 t392 t393 t394 x403003_26 t398).bind fun t446 => (if (t446.length : Int) = 0 then ((awardingbodylaw06_awake.f kj26).bind fun t449 => (some t449)) else (none))) else (none))))) else (none)))) = some r := H
     have A49 := Aside0.mk A490
     clear A490
     replace H := Option.bind_eq_some_iff.mp H
     obtain ⟨t435, A500, H⟩ := H
     replace H : ((awardingbodyref06_Ints.f kj26 t432 t435).bind fun t438 => (if t438 = true then ((item_Material.f kj26 t392 t393 t394 x403003_26 t398 t403 t404 t405 x414003_26 t409).bind fun t439 => ((item_Material.f kj26 t403 t404 t405 x414003_26 t409 t392 t393 t394 x403003_26 t398).bind fun t442 => ((awardingbodyref06_Ints.f kj26 t439 t442).bind fun t445 => (if t445 = true then ((item_Material.f kj26 t392 t393 t394 x403003_26 t398 t392 t393 t394 x403003_26 t398).bind fun t446 => (if (t446.length : Int) = 0 then ((awardingbodylaw06_awake.f kj26).bind fun t449 => (some t449)) else (none))) else (none))))) else (none))) = some r := H
     have A50 := Aside0.mk A500
     clear A500
     replace H := Option.bind_eq_some_iff.mp H
     obtain ⟨t438, A510, H⟩ := H
     replace H : (if t438 = true then ((item_Material.f kj26 t392 t393 t394 x403003_26 t398 t403 t404 t405 x414003_26 t409).bind fun t439 => ((item_Material.f kj26 t403 t404 t405 x414003_26 t409 t392 t393 t394 x403003_26 t398).bind fun t442 => ((awardingbodyref06_Ints.f kj26 t439 t442).bind fun t445 => (if t445 = true then ((item_Material.f kj26 t392 t393 t394 x403003_26 t398 t392 t393 t394 x403003_26 t398).bind fun t446 => (if (t446.length : Int) = 0 then ((awardingbodylaw06_awake.f kj26).bind fun t449 => (some t449)) else (none))) else (none))))) else (none)) = some r := H
     have A51 := Aside0.mk A510
     clear A510
     by_cases c52 : t438 = true
     ·subst c52
      have H1 : ((item_Material.f kj26 t392 t393 t394 x403003_26 t398 t403 t404 t405 x414003_26 t409).bind fun t439 => ((item_Material.f kj26 t403 t404 t405 x414003_26 t409 t392 t393 t394 x403003_26 t398).bind fun t442 => ((awardingbodyref06_Ints.f kj26 t439 t442).bind fun t445 => (if t445 = true then ((item_Material.f kj26 t392 t393 t394 x403003_26 t398 t392 t393 t394 x403003_26 t398).bind fun t446 => (if (t446.length : Int) = 0 then ((awardingbodylaw06_awake.f kj26).bind fun t449 => (some t449)) else (none))) else (none))))) = some r := by rw [if_pos rfl] at H; exact H
      clear H
      have H := H1
      clear H1
      replace H := Option.bind_eq_some_iff.mp H
      obtain ⟨t439, A530, H⟩ := H
      replace H : ((item_Material.f kj26 t403 t404 t405 x414003_26 t409 t392 t393 t394 x403003_26 t398).bind fun t442 => ((awardingbodyref06_Ints.f kj26 t439 t442).bind fun t445 => (if t445 = true then ((item_Material.f kj26 t392 t393 t394 x403003_26 t398 t392 t393 t394 x403003_26 t398).bind fun t446 => (if (t446.length : Int) = 0 then ((awardingbodylaw06_awake.f kj26).bind fun t449 => (some t449)) else (none))) else (none)))) = some r := H
      have A53 := Aside0.mk A530
      clear A530
      replace H := Option.bind_eq_some_iff.mp H
      obtain ⟨t442, A540, H⟩ := H
      replace H : ((awardingbodyref06_Ints.f kj26 t439 t442).bind fun t445 => (if t445 = true then ((item_Material.f kj26 t392 t393 t394 x403003_26 t398 t392 t393 t394 x403003_26 t398).bind fun t446 => (if (t446.length : Int) = 0 then ((awardingbodylaw06_awake.f kj26).bind fun t449 => (some t449)) else (none))) else (none))) = some r := H
      have A54 := Aside0.mk A540
      clear A540
      replace H := Option.bind_eq_some_iff.mp H
      obtain ⟨t445, A550, H⟩ := H
      replace H : (if t445 = true then ((item_Material.f kj26 t392 t393 t394 x403003_26 t398 t392 t393 t394 x403003_26 t398).bind fun t446 => (if (t446.length : Int) = 0 then ((awardingbodylaw06_awake.f kj26).bind fun t449 => (some t449)) else (none))) else (none)) = some r := H
      have A55 := Aside0.mk A550
      clear A550
      by_cases c56 : t445 = true
      ·subst c56
       have H1 : ((item_Material.f kj26 t392 t393 t394 x403003_26 t398 t392 t393 t394 x403003_26 t398).bind fun t446 => (if (t446.length : Int) = 0 then ((awardingbodylaw06_awake.f kj26).bind fun t449 => (some t449)) else (none))) = some r := by rw [if_pos rfl] at H; exact H
       clear H
       have H := H1
       clear H1
       replace H := Option.bind_eq_some_iff.mp H
       obtain ⟨t446, A570, H⟩ := H
       replace H : (if (t446.length : Int) = 0 then ((awardingbodylaw06_awake.f kj26).bind fun t449 => (some t449)) else (none)) = some r := H
       have A57 := Aside0.mk A570
       clear A570
       by_cases c58 : (t446.length : Int) = 0
       ·rw [if_pos c58] at H
        have c58b0 : ((t446.length : Int) == 0) = true := beq_iff_eq.mpr c58
        have c58b1 : ((t446.length : Int) != 0) = false := bne_eq_false_iff_eq.mpr c58
        clear c58
        replace H := Option.bind_eq_some_iff.mp H
        obtain ⟨t449, A590, H⟩ := H
        replace H : (some t449) = some r := H
        have A59 := Aside0.mk A590
        clear A590
        obtain rfl := Option.some.inj H
        try go_wp2
        have n0_ := Aside0.mk (Kd.R_drew HO_403003.out)
        have n1_ := Aside0.mk (Kd.R_drew HO_403004.out)
        have n2_ := Aside0.mk (Kd.R_drew HO_414003.out)
        have n3_ := Aside0.mk (Kd.R_drew HO_414004.out)
        have n4_ := Aside0.mk (blk_drew BK402.out)
        have n5_ := Aside0.mk (blk_drew BK413.out)
        have n6_ := Aside0.mk (below_drew1 HB.out)
        clear HO_403003 HO_403004 HO_414003 HO_414004 BK402 BK413 HB
        have HO_403003 := n0_
        have HO_403004 := n1_
        have HO_414003 := n2_
        have HO_414004 := n3_
        have BK402 := n4_
        have BK413 := n5_
        have HB := n6_
        clear n0_ n1_ n2_ n3_ n4_ n5_ n6_
        obtain ⟨Ao61, co61, eo61⟩ := Kd.R_slice HO_403003.out
        (first | subst eo61 | (injection eo61 with f1_ f2_ f3_; have f4_ := f1_.symm; have f5_ := f3_.symm; clear f1_ f2_ f3_; subst f4_; subst f5_))
        obtain ⟨Ao62, co62, eo62⟩ := Kd.R_slice HO_414003.out
        (first | subst eo62 | (injection eo62 with f1_ f2_ f3_; have f4_ := f1_.symm; have f5_ := f3_.symm; clear f1_ f2_ f3_; subst f4_; subst f5_))
        refine start_ (n := 27) (S := fun w' => w'.cell? ⟨gb402, 0, none⟩ = some (.int .i64 t392) ∧ w'.cell? ⟨gb402, 1, none⟩ = some (.int .i64 t393) ∧ w'.cell? ⟨gb402, 2, none⟩ = some (.string t394) ∧ w'.cell? ⟨gb402, 3, none⟩ = some (.slice Ao61 x403003_26.length co61) ∧ w'.cell? ⟨gb402, 4, none⟩ = some (.slice Ao12 t398.length co12) ∧ w'.cell? ⟨gb413, 0, none⟩ = some (.int .i64 t403) ∧ w'.cell? ⟨gb413, 1, none⟩ = some (.int .i64 t404) ∧ w'.cell? ⟨gb413, 2, none⟩ = some (.string t405) ∧ w'.cell? ⟨gb413, 3, none⟩ = some (.slice Ao62 x414003_26.length co62) ∧ w'.cell? ⟨gb413, 4, none⟩ = some (.slice Ao19 t409.length co19)) (ds := []) #[false, false, false, false, false, false, false, false, false, false, false, false, false, false, false, false, false, false, false, false, false, false, false, false, false, false, false] (by kernel_rfl) rfl rfl ⟨(blk_cell BK402.out 0).trans rfl, (blk_cell BK402.out 1).trans rfl, (blk_cell BK402.out 2).trans rfl, (blk_cell BK402.out 3).trans rfl, (blk_cell BK402.out 4).trans rfl, (blk_cell BK413.out 0).trans rfl, (blk_cell BK413.out 1).trans rfl, (blk_cell BK413.out 2).trans rfl, (blk_cell BK413.out 3).trans rfl, (blk_cell BK413.out 4).trans rfl⟩ (fun hHeld => ?_); refine with_tabW awardingbodylaw06_ItemMaterial.tab7 awardingbodylaw06_ItemMaterial.bits7 (fun HT_ HW_ => ?_)
        generalize wc.drew = w60 at HO_403003 HO_403004 HO_414003 HO_414004 BK402 BK413 HB hHeld ⊢
        refine take_ (i := 0) (N := some 36) (v := ?_) (a' := ?_) #[true, false, false, false, false, false, false, false, false, false, false, false, false, false, false, false, false, false, false, false, false, false, false, false, false, false, false] rfl rfl (take_ofW HT_.out HW_.out (by kernel_rfl)) (fun _ _ _ h => h) (Or.inl ⟨by rfl, ?_⟩) hHeld ?_ ?_
        rotate_left
        ·rintro w' ⟨s0, s1, s2, s3, s4, s5, s6, s7, s8, s9⟩
         go_simp
         with_reducible rfl
        rotate_left
        ·simp only [Act.put, List.setIfInBounds_toArray, List.set_cons_zero, List.set_cons_succ, i64_w, i32_w]
         rfl
        refine take_ (i := 1) (N := some 37) (v := ?_) (a' := ?_) #[true, true, false, false, false, false, false, false, false, false, false, false, false, false, false, false, false, false, false, false, false, false, false, false, false, false, false] rfl rfl (take_ofW HT_.out HW_.out (by kernel_rfl)) (fun _ _ _ h => h) (Or.inl ⟨by rfl, ?_⟩) hHeld ?_ ?_
        rotate_left
        ·rintro w' ⟨s0, s1, s2, s3, s4, s5, s6, s7, s8, s9⟩
         go_simp
         with_reducible rfl
        rotate_left
        ·simp only [Act.put, List.setIfInBounds_toArray, List.set_cons_zero, List.set_cons_succ, i64_w, i32_w]
         rfl
        refine take_ (i := 3) (N := some 39) (v := ?_) (a' := ?_) #[true, true, false, true, false, false, false, false, false, false, false, false, false, false, false, false, false, false, false, false, false, false, false, false, false, false, false] rfl rfl (take_ofW HT_.out HW_.out (by kernel_rfl)) (fun _ _ _ h => h) (Or.inl ⟨by rfl, ?_⟩) hHeld ?_ ?_
        rotate_left
        ·rintro w' ⟨s0, s1, s2, s3, s4, s5, s6, s7, s8, s9⟩
         go_simp
         with_reducible rfl
        rotate_left
        ·simp only [Act.put, List.setIfInBounds_toArray, List.set_cons_zero, List.set_cons_succ, i64_w, i32_w]
         rfl
        refine take_ (i := 4) (N := some 40) (v := ?_) (a' := ?_) #[true, true, false, true, true, false, false, false, false, false, false, false, false, false, false, false, false, false, false, false, false, false, false, false, false, false, false] rfl rfl (take_ofW HT_.out HW_.out (by kernel_rfl)) (fun _ _ _ h => h) (Or.inl ⟨by rfl, ?_⟩) hHeld ?_ ?_
        rotate_left
        ·rintro w' ⟨s0, s1, s2, s3, s4, s5, s6, s7, s8, s9⟩
         go_simp
         with_reducible rfl
        rotate_left
        ·simp only [Act.put, List.setIfInBounds_toArray, List.set_cons_zero, List.set_cons_succ, i64_w, i32_w]
         rfl
        refine one_ (i := 2) (N := some 38) #[true, true, true, true, true, false, false, false, false, false, false, false, false, false, false, false, false, false, false, false, false, false, false, false, false, false, false] rfl rfl (one_of HT_.out (by kernel_rfl)) (by decide) (fun K hK => ?_)
        refine goes_ Try.func25 (by kernel_rfl) rfl #[.agg #[.int .i64 t392, .int .i64 t393, .string t394, .slice Ao61 x403003_26.length co61, .slice Ao12 t398.length co12], .agg #[.int .i64 t403, .int .i64 t404, .string t405, .slice Ao62 x414003_26.length co62, .slice Ao19 t409.length co19]] (by rfl) rfl rfl (by (try simp only [List.map_toArray, List.map_cons, List.map_nil]); first | done | rfl | (simp only [List.length_drop, List.length_take]; rfl)) ?_
        with_reducible refine (item_Material.calls kj26 t392 t393 t394 _ _ x403003_26 _ _ t398 t403 t404 t405 _ _ x414003_26 _ _ t409 t432 _ ?side1 ?side2 ?side3 ?side4 ?side5 ?side6 ?side7 ?side8 A49.out).mono ?_
        (case side1 => repeat (first | exact (Kd.R_reads' HO_403003.out).2.2 | (with_reducible refine Kd.C_alloc ?_ _) | (with_reducible refine Kd.C_drewN ?_ _) | (with_reducible refine Kd.C_drew ?_)))
        (case side2 => exact (Kd.R_reads' HO_403003.out).2.1)
        (case side3 => repeat (first | exact (Kd.R_reads' HO_403004.out).2.2 | (with_reducible refine Kd.C_alloc ?_ _) | (with_reducible refine Kd.C_drewN ?_ _) | (with_reducible refine Kd.C_drew ?_)))
        (case side4 => exact (Kd.R_reads' HO_403004.out).2.1)
        (case side5 => repeat (first | exact (Kd.R_reads' HO_414003.out).2.2 | (with_reducible refine Kd.C_alloc ?_ _) | (with_reducible refine Kd.C_drewN ?_ _) | (with_reducible refine Kd.C_drew ?_)))
        (case side6 => exact (Kd.R_reads' HO_414003.out).2.1)
        (case side7 => repeat (first | exact (Kd.R_reads' HO_414004.out).2.2 | (with_reducible refine Kd.C_alloc ?_ _) | (with_reducible refine Kd.C_drewN ?_ _) | (with_reducible refine Kd.C_drew ?_)))
        (case side8 => exact (Kd.R_reads' HO_414004.out).2.1)
        rintro e w63 ⟨v433, rfl, ho0, hb⟩
        refine ⟨_, rfl, ?_⟩
        have n0_ := Aside0.mk (Kd.R_below (by (with_reducible repeat (first | apply Kd.R_alloc | apply Kd.R_drewN | apply Kd.R_drew)); exact HO_403003.out) hb)
        have n1_ := Aside0.mk (Kd.R_elder' (by (with_reducible repeat (first | apply Kd.R_alloc | apply Kd.R_drewN | apply Kd.R_drew)); exact HO_403004.out) (Kd.R_base ho0) hb)
        have n2_ := Aside0.mk (Kd.R_below (by (with_reducible repeat (first | apply Kd.R_alloc | apply Kd.R_drewN | apply Kd.R_drew)); exact HO_414003.out) hb)
        have n3_ := Aside0.mk (Kd.R_elder' (by (with_reducible repeat (first | apply Kd.R_alloc | apply Kd.R_drewN | apply Kd.R_drew)); exact HO_414004.out) (Kd.R_base ho0) hb)
        have n4_ := Aside0.mk (Kd.R_lower (Kd.R_new' (Kd.R_new' ho0 (Kd.R_lt (by (with_reducible repeat (first | apply Kd.R_alloc | apply Kd.R_drewN | apply Kd.R_drew)); exact HO_403004.out))) (Kd.R_lt (by (with_reducible repeat (first | apply Kd.R_alloc | apply Kd.R_drewN | apply Kd.R_drew)); exact HO_414004.out))) (below_size (by repeat (first | (with_reducible first | exact HB.out | apply below_alloc | apply pw_below_drewN | apply below_drew1 | refine below_set ?_ GE402.out | refine below_set ?_ GE413.out) | exact HB.out))))
        have n5_ := Aside0.mk (blk_below (g := gb402) (o := .cells #[.int .i64 t392, .int .i64 t393, .string t394, .slice Ao61 x403003_26.length co61, .slice Ao12 t398.length co12] 33 (0, 0)) (by (with_reducible repeat (first | refine blk_drewN ?_ _ | refine blk_drew ?_ | refine blk_alloc ?_ _)); exact BK402.out) hb)
        have n6_ := Aside0.mk (blk_below (g := gb413) (o := .cells #[.int .i64 t403, .int .i64 t404, .string t405, .slice Ao62 x414003_26.length co62, .slice Ao19 t409.length co19] 33 (0, 0)) (by (with_reducible repeat (first | refine blk_drewN ?_ _ | refine blk_drew ?_ | refine blk_alloc ?_ _)); exact BK413.out) hb)
        have n7_ := Aside0.mk (below_step (by repeat (first | (with_reducible first | exact HB.out | apply below_alloc | apply pw_below_drewN | apply below_drew1 | refine below_set ?_ GE402.out | refine below_set ?_ GE413.out) | exact HB.out)) hb)
        clear HO_403003 HO_403004 HO_414003 HO_414004 BK402 BK413 HB
        have HO_403003 := n0_
        have HO_403004 := n1_
        have HO_414003 := n2_
        have HO_414004 := n3_
        have HO434 := n4_
        have BK402 := n5_
        have BK413 := n6_
        have HB := n7_
        clear n0_ n1_ n2_ n3_ n4_ n5_ n6_ n7_
        (try clear hb)
        (try clear hb2)
        (try clear hk)
        (try clear hi)
        (try clear ho0)
        refine hK.out _ _ ⟨(blk_cell BK402.out 0).trans rfl, (blk_cell BK402.out 1).trans rfl, (blk_cell BK402.out 2).trans rfl, (blk_cell BK402.out 3).trans rfl, (blk_cell BK402.out 4).trans rfl, (blk_cell BK413.out 0).trans rfl, (blk_cell BK413.out 1).trans rfl, (blk_cell BK413.out 2).trans rfl, (blk_cell BK413.out 3).trans rfl, (blk_cell BK413.out 4).trans rfl⟩ (fun hHeld => ?_)
        clear hK K
        refine norm_ (a' := ?_) ?_ ?_
        rotate_left
        ·show Act.put _ (some 38) _ = _
         simp only [Act.put, List.setIfInBounds_toArray, List.set_cons_zero, List.set_cons_succ, i64_w, i32_w]
         rfl
        refine one_ (i := 5) (N := some 41) #[true, true, true, true, true, true, false, false, false, false, false, false, false, false, false, false, false, false, false, false, false, false, false, false, false, false, false] rfl rfl (one_of HT_.out (by kernel_rfl)) (by decide) (fun K hK => ?_)
        refine goes_ Try.func26 (by kernel_rfl) rfl #[.agg #[.int .i64 t392, .int .i64 t393, .string t394, .slice Ao61 x403003_26.length co61, .slice Ao12 t398.length co12], .agg #[.int .i64 t403, .int .i64 t404, .string t405, .slice Ao62 x414003_26.length co62, .slice Ao19 t409.length co19]] (by rfl) rfl rfl (by (try simp only [List.map_toArray, List.map_cons, List.map_nil]); first | done | rfl | (simp only [List.length_drop, List.length_take]; rfl)) ?_
        with_reducible refine (awardingbodyref06_Material.calls kj26 t392 t393 t394 _ _ x403003_26 _ _ t398 t403 t404 t405 _ _ x414003_26 _ _ t409 t435 _ ?side1 ?side2 ?side3 ?side4 ?side5 ?side6 ?side7 ?side8 A50.out).mono ?_
        (case side1 => repeat (first | exact (Kd.R_reads' HO_403003.out).2.2 | (with_reducible refine Kd.C_alloc ?_ _) | (with_reducible refine Kd.C_drewN ?_ _) | (with_reducible refine Kd.C_drew ?_)))
        (case side2 => exact (Kd.R_reads' HO_403003.out).2.1)
        (case side3 => repeat (first | exact (Kd.R_reads' HO_403004.out).2.2 | (with_reducible refine Kd.C_alloc ?_ _) | (with_reducible refine Kd.C_drewN ?_ _) | (with_reducible refine Kd.C_drew ?_)))
        (case side4 => exact (Kd.R_reads' HO_403004.out).2.1)
        (case side5 => repeat (first | exact (Kd.R_reads' HO_414003.out).2.2 | (with_reducible refine Kd.C_alloc ?_ _) | (with_reducible refine Kd.C_drewN ?_ _) | (with_reducible refine Kd.C_drew ?_)))
        (case side6 => exact (Kd.R_reads' HO_414003.out).2.1)
        (case side7 => repeat (first | exact (Kd.R_reads' HO_414004.out).2.2 | (with_reducible refine Kd.C_alloc ?_ _) | (with_reducible refine Kd.C_drewN ?_ _) | (with_reducible refine Kd.C_drew ?_)))
        (case side8 => exact (Kd.R_reads' HO_414004.out).2.1)
        rintro e w64 ⟨v436, rfl, ho0, hb⟩
        refine ⟨_, rfl, ?_⟩
        have n0_ := Aside0.mk (Kd.R_below (by (with_reducible repeat (first | apply Kd.R_alloc | apply Kd.R_drewN | apply Kd.R_drew)); exact HO_403003.out) hb)
        have n1_ := Aside0.mk (Kd.R_elder' (by (with_reducible repeat (first | apply Kd.R_alloc | apply Kd.R_drewN | apply Kd.R_drew)); exact HO_403004.out) (Kd.R_base ho0) hb)
        have n2_ := Aside0.mk (Kd.R_below (by (with_reducible repeat (first | apply Kd.R_alloc | apply Kd.R_drewN | apply Kd.R_drew)); exact HO_414003.out) hb)
        have n3_ := Aside0.mk (Kd.R_elder' (by (with_reducible repeat (first | apply Kd.R_alloc | apply Kd.R_drewN | apply Kd.R_drew)); exact HO_414004.out) (Kd.R_base ho0) hb)
        have n4_ := Aside0.mk (Kd.R_elder' (by (with_reducible repeat (first | apply Kd.R_alloc | apply Kd.R_drewN | apply Kd.R_drew)); exact HO434.out) (Kd.R_base ho0) hb)
        have n5_ := Aside0.mk (Kd.R_lower (Kd.R_new' (Kd.R_new' (Kd.R_new' ho0 (Kd.R_lt (by (with_reducible repeat (first | apply Kd.R_alloc | apply Kd.R_drewN | apply Kd.R_drew)); exact HO_403004.out))) (Kd.R_lt (by (with_reducible repeat (first | apply Kd.R_alloc | apply Kd.R_drewN | apply Kd.R_drew)); exact HO_414004.out))) (Kd.R_lt (by (with_reducible repeat (first | apply Kd.R_alloc | apply Kd.R_drewN | apply Kd.R_drew)); exact HO434.out))) (below_size (by repeat (first | (with_reducible first | exact HB.out | apply below_alloc | apply pw_below_drewN | apply below_drew1 | refine below_set ?_ GE402.out | refine below_set ?_ GE413.out) | exact HB.out))))
        have n6_ := Aside0.mk (blk_below (g := gb402) (o := .cells #[.int .i64 t392, .int .i64 t393, .string t394, .slice Ao61 x403003_26.length co61, .slice Ao12 t398.length co12] 33 (0, 0)) (by (with_reducible repeat (first | refine blk_drewN ?_ _ | refine blk_drew ?_ | refine blk_alloc ?_ _)); exact BK402.out) hb)
        have n7_ := Aside0.mk (blk_below (g := gb413) (o := .cells #[.int .i64 t403, .int .i64 t404, .string t405, .slice Ao62 x414003_26.length co62, .slice Ao19 t409.length co19] 33 (0, 0)) (by (with_reducible repeat (first | refine blk_drewN ?_ _ | refine blk_drew ?_ | refine blk_alloc ?_ _)); exact BK413.out) hb)
        have n8_ := Aside0.mk (below_step (by repeat (first | (with_reducible first | exact HB.out | apply below_alloc | apply pw_below_drewN | apply below_drew1 | refine below_set ?_ GE402.out | refine below_set ?_ GE413.out) | exact HB.out)) hb)
        clear HO_403003 HO_403004 HO_414003 HO_414004 HO434 BK402 BK413 HB
        have HO_403003 := n0_
        have HO_403004 := n1_
        have HO_414003 := n2_
        have HO_414004 := n3_
        have HO434 := n4_
        have HO437 := n5_
        have BK402 := n6_
        have BK413 := n7_
        have HB := n8_
        clear n0_ n1_ n2_ n3_ n4_ n5_ n6_ n7_ n8_
        (try clear hb)
        (try clear hb2)
        (try clear hk)
        (try clear hi)
        (try clear ho0)
        obtain ⟨Ao65, co65, eo65⟩ := Kd.R_slice HO434.out
        (first | subst eo65 | (injection eo65 with f1_ f2_ f3_; have f4_ := f1_.symm; have f5_ := f3_.symm; clear f1_ f2_ f3_; subst f4_; subst f5_))
        obtain ⟨Ao66, co66, eo66⟩ := Kd.R_slice HO437.out
        (first | subst eo66 | (injection eo66 with f1_ f2_ f3_; have f4_ := f1_.symm; have f5_ := f3_.symm; clear f1_ f2_ f3_; subst f4_; subst f5_))
        refine hK.out _ _ ⟨(blk_cell BK402.out 0).trans rfl, (blk_cell BK402.out 1).trans rfl, (blk_cell BK402.out 2).trans rfl, (blk_cell BK402.out 3).trans rfl, (blk_cell BK402.out 4).trans rfl, (blk_cell BK413.out 0).trans rfl, (blk_cell BK413.out 1).trans rfl, (blk_cell BK413.out 2).trans rfl, (blk_cell BK413.out 3).trans rfl, (blk_cell BK413.out 4).trans rfl⟩ (fun hHeld => ?_)
        clear hK K
        refine norm_ (a' := ?_) ?_ ?_
        rotate_left
        ·show Act.put _ (some 41) _ = _
         simp only [Act.put, List.setIfInBounds_toArray, List.set_cons_zero, List.set_cons_succ, i64_w, i32_w]
         rfl
        refine one_ (i := 6) (N := some 42) #[true, true, true, true, true, true, true, false, false, false, false, false, false, false, false, false, false, false, false, false, false, false, false, false, false, false, false] rfl rfl (one_of HT_.out (by kernel_rfl)) (by decide) (fun K hK => ?_)
        refine goes_ Try.func24 (by kernel_rfl) rfl #[.slice Ao65 t432.length co65, .slice Ao66 t435.length co66] (by rfl) rfl rfl (by (try simp only [List.map_toArray, List.map_cons, List.map_nil]); first | done | rfl | (simp only [List.length_drop, List.length_take]; rfl)) ?_
        with_reducible refine (awardingbodyref06_Ints.calls kj26 _ _ t432 _ _ t435 true _ ?side1 ?side2 ?side3 ?side4 A51.out).mono ?_
        (case side1 => repeat (first | exact (Kd.R_reads' HO434.out).2.2 | (with_reducible refine Kd.C_alloc ?_ _) | (with_reducible refine Kd.C_drewN ?_ _) | (with_reducible refine Kd.C_drew ?_)))
        (case side2 => exact (Kd.R_reads' HO434.out).2.1)
        (case side3 => repeat (first | exact (Kd.R_reads' HO437.out).2.2 | (with_reducible refine Kd.C_alloc ?_ _) | (with_reducible refine Kd.C_drewN ?_ _) | (with_reducible refine Kd.C_drew ?_)))
        (case side4 => exact (Kd.R_reads' HO437.out).2.1)
        rintro e w' ⟨rfl, ⟨nd, rfl⟩⟩
        refine ⟨_, rfl, ?_⟩
        refine hK.out _ _ ⟨(blk_cell BK402.out 0).trans rfl, (blk_cell BK402.out 1).trans rfl, (blk_cell BK402.out 2).trans rfl, (blk_cell BK402.out 3).trans rfl, (blk_cell BK402.out 4).trans rfl, (blk_cell BK413.out 0).trans rfl, (blk_cell BK413.out 1).trans rfl, (blk_cell BK413.out 2).trans rfl, (blk_cell BK413.out 3).trans rfl, (blk_cell BK413.out 4).trans rfl⟩ (fun hHeld => ?_)
        clear hK K
        refine norm_ (a' := ?_) ?_ ?_
        rotate_left
        ·show Act.put _ (some 42) _ = _
         simp only [Act.put, List.setIfInBounds_toArray, List.set_cons_zero, List.set_cons_succ, i64_w, i32_w]
         rfl
        refine pure_ (i := 7) (N := some 43) (v := ?_) (a' := ?_) #[true, true, true, true, true, true, true, true, false, false, false, false, false, false, false, false, false, false, false, false, false, false, false, false, false, false, false] rfl rfl (any_of HT_.out (by kernel_rfl)) (fun _ _ _ h => h) (Or.inl ⟨by rfl, ?_⟩) ?_ ?_
        rotate_left
        ·intro w'
         go_simp
         with_reducible rfl
        rotate_left
        ·simp only [Act.put, List.setIfInBounds_toArray, List.set_cons_zero, List.set_cons_succ, i64_w, i32_w]
         rfl
        refine take_ (i := 8) (N := some 44) (v := ?_) (a' := ?_) #[true, true, true, true, true, true, true, true, true, false, false, false, false, false, false, false, false, false, false, false, false, false, false, false, false, false, false] rfl rfl (take_ofW HT_.out HW_.out (by kernel_rfl)) (fun _ _ _ h => h) (Or.inl ⟨by rfl, ?_⟩) hHeld ?_ ?_
        rotate_left
        ·rintro w' ⟨s0, s1, s2, s3, s4, s5, s6, s7, s8, s9⟩
         go_simp
         with_reducible rfl
        rotate_left
        ·simp only [Act.put, List.setIfInBounds_toArray, List.set_cons_zero, List.set_cons_succ, i64_w, i32_w]
         rfl
        refine take_ (i := 9) (N := some 45) (v := ?_) (a' := ?_) #[true, true, true, true, true, true, true, true, true, true, false, false, false, false, false, false, false, false, false, false, false, false, false, false, false, false, false] rfl rfl (take_ofW HT_.out HW_.out (by kernel_rfl)) (fun _ _ _ h => h) (Or.inl ⟨by rfl, ?_⟩) hHeld ?_ ?_
        rotate_left
        ·rintro w' ⟨s0, s1, s2, s3, s4, s5, s6, s7, s8, s9⟩
         go_simp
         with_reducible rfl
        rotate_left
        ·simp only [Act.put, List.setIfInBounds_toArray, List.set_cons_zero, List.set_cons_succ, i64_w, i32_w]
         rfl
        refine take_ (i := 11) (N := some 47) (v := ?_) (a' := ?_) #[true, true, true, true, true, true, true, true, true, true, false, true, false, false, false, false, false, false, false, false, false, false, false, false, false, false, false] rfl rfl (take_ofW HT_.out HW_.out (by kernel_rfl)) (fun _ _ _ h => h) (Or.inl ⟨by rfl, ?_⟩) hHeld ?_ ?_
        rotate_left
        ·rintro w' ⟨s0, s1, s2, s3, s4, s5, s6, s7, s8, s9⟩
         go_simp
         with_reducible rfl
        rotate_left
        ·simp only [Act.put, List.setIfInBounds_toArray, List.set_cons_zero, List.set_cons_succ, i64_w, i32_w]
         rfl
        refine take_ (i := 12) (N := some 48) (v := ?_) (a' := ?_) #[true, true, true, true, true, true, true, true, true, true, false, true, true, false, false, false, false, false, false, false, false, false, false, false, false, false, false] rfl rfl (take_ofW HT_.out HW_.out (by kernel_rfl)) (fun _ _ _ h => h) (Or.inl ⟨by rfl, ?_⟩) hHeld ?_ ?_
        rotate_left
        ·rintro w' ⟨s0, s1, s2, s3, s4, s5, s6, s7, s8, s9⟩
         go_simp
         with_reducible rfl
        rotate_left
        ·simp only [Act.put, List.setIfInBounds_toArray, List.set_cons_zero, List.set_cons_succ, i64_w, i32_w]
         rfl
        refine one_ (i := 10) (N := some 46) #[true, true, true, true, true, true, true, true, true, true, true, true, true, false, false, false, false, false, false, false, false, false, false, false, false, false, false] rfl rfl (one_of HT_.out (by kernel_rfl)) (by decide) (fun K hK => ?_)
        refine goes_ Try.func25 (by kernel_rfl) rfl #[.agg #[.int .i64 t392, .int .i64 t393, .string t394, .slice Ao61 x403003_26.length co61, .slice Ao12 t398.length co12], .agg #[.int .i64 t403, .int .i64 t404, .string t405, .slice Ao62 x414003_26.length co62, .slice Ao19 t409.length co19]] (by rfl) rfl rfl (by (try simp only [List.map_toArray, List.map_cons, List.map_nil]); first | done | rfl | (simp only [List.length_drop, List.length_take]; rfl)) ?_
        with_reducible refine (item_Material.calls kj26 t392 t393 t394 _ _ x403003_26 _ _ t398 t403 t404 t405 _ _ x414003_26 _ _ t409 t439 _ ?side1 ?side2 ?side3 ?side4 ?side5 ?side6 ?side7 ?side8 A53.out).mono ?_
        (case side1 => repeat (first | exact (Kd.R_reads' HO_403003.out).2.2 | (with_reducible refine Kd.C_alloc ?_ _) | (with_reducible refine Kd.C_drewN ?_ _) | (with_reducible refine Kd.C_drew ?_)))
        (case side2 => exact (Kd.R_reads' HO_403003.out).2.1)
        (case side3 => repeat (first | exact (Kd.R_reads' HO_403004.out).2.2 | (with_reducible refine Kd.C_alloc ?_ _) | (with_reducible refine Kd.C_drewN ?_ _) | (with_reducible refine Kd.C_drew ?_)))
        (case side4 => exact (Kd.R_reads' HO_403004.out).2.1)
        (case side5 => repeat (first | exact (Kd.R_reads' HO_414003.out).2.2 | (with_reducible refine Kd.C_alloc ?_ _) | (with_reducible refine Kd.C_drewN ?_ _) | (with_reducible refine Kd.C_drew ?_)))
        (case side6 => exact (Kd.R_reads' HO_414003.out).2.1)
        (case side7 => repeat (first | exact (Kd.R_reads' HO_414004.out).2.2 | (with_reducible refine Kd.C_alloc ?_ _) | (with_reducible refine Kd.C_drewN ?_ _) | (with_reducible refine Kd.C_drew ?_)))
        (case side8 => exact (Kd.R_reads' HO_414004.out).2.1)
        rintro e w67 ⟨v440, rfl, ho0, hb⟩
        refine ⟨_, rfl, ?_⟩
        have n0_ := Aside0.mk (Kd.R_below (by (with_reducible repeat (first | apply Kd.R_alloc | apply Kd.R_drewN | apply Kd.R_drew)); exact HO_403003.out) hb)
        have n1_ := Aside0.mk (Kd.R_elder' (by (with_reducible repeat (first | apply Kd.R_alloc | apply Kd.R_drewN | apply Kd.R_drew)); exact HO_403004.out) (Kd.R_base ho0) hb)
        have n2_ := Aside0.mk (Kd.R_below (by (with_reducible repeat (first | apply Kd.R_alloc | apply Kd.R_drewN | apply Kd.R_drew)); exact HO_414003.out) hb)
        have n3_ := Aside0.mk (Kd.R_elder' (by (with_reducible repeat (first | apply Kd.R_alloc | apply Kd.R_drewN | apply Kd.R_drew)); exact HO_414004.out) (Kd.R_base ho0) hb)
        have n4_ := Aside0.mk (Kd.R_elder' (by (with_reducible repeat (first | apply Kd.R_alloc | apply Kd.R_drewN | apply Kd.R_drew)); exact HO434.out) (Kd.R_base ho0) hb)
        have n5_ := Aside0.mk (Kd.R_elder' (by (with_reducible repeat (first | apply Kd.R_alloc | apply Kd.R_drewN | apply Kd.R_drew)); exact HO437.out) (Kd.R_base ho0) hb)
        have n6_ := Aside0.mk (Kd.R_lower (Kd.R_new' (Kd.R_new' (Kd.R_new' (Kd.R_new' ho0 (Kd.R_lt (by (with_reducible repeat (first | apply Kd.R_alloc | apply Kd.R_drewN | apply Kd.R_drew)); exact HO_403004.out))) (Kd.R_lt (by (with_reducible repeat (first | apply Kd.R_alloc | apply Kd.R_drewN | apply Kd.R_drew)); exact HO_414004.out))) (Kd.R_lt (by (with_reducible repeat (first | apply Kd.R_alloc | apply Kd.R_drewN | apply Kd.R_drew)); exact HO434.out))) (Kd.R_lt (by (with_reducible repeat (first | apply Kd.R_alloc | apply Kd.R_drewN | apply Kd.R_drew)); exact HO437.out))) (below_size (by repeat (first | (with_reducible first | exact HB.out | apply below_alloc | apply pw_below_drewN | apply below_drew1 | refine below_set ?_ GE402.out | refine below_set ?_ GE413.out) | exact HB.out))))
        have n7_ := Aside0.mk (blk_below (g := gb402) (o := .cells #[.int .i64 t392, .int .i64 t393, .string t394, .slice Ao61 x403003_26.length co61, .slice Ao12 t398.length co12] 33 (0, 0)) (by (with_reducible repeat (first | refine blk_drewN ?_ _ | refine blk_drew ?_ | refine blk_alloc ?_ _)); exact BK402.out) hb)
        have n8_ := Aside0.mk (blk_below (g := gb413) (o := .cells #[.int .i64 t403, .int .i64 t404, .string t405, .slice Ao62 x414003_26.length co62, .slice Ao19 t409.length co19] 33 (0, 0)) (by (with_reducible repeat (first | refine blk_drewN ?_ _ | refine blk_drew ?_ | refine blk_alloc ?_ _)); exact BK413.out) hb)
        have n9_ := Aside0.mk (below_step (by repeat (first | (with_reducible first | exact HB.out | apply below_alloc | apply pw_below_drewN | apply below_drew1 | refine below_set ?_ GE402.out | refine below_set ?_ GE413.out) | exact HB.out)) hb)
        clear HO_403003 HO_403004 HO_414003 HO_414004 HO434 HO437 BK402 BK413 HB
        have HO_403003 := n0_
        have HO_403004 := n1_
        have HO_414003 := n2_
        have HO_414004 := n3_
        have HO434 := n4_
        have HO437 := n5_
        have HO441 := n6_
        have BK402 := n7_
        have BK413 := n8_
        have HB := n9_
        clear n0_ n1_ n2_ n3_ n4_ n5_ n6_ n7_ n8_ n9_
        (try clear hb)
        (try clear hb2)
        (try clear hk)
        (try clear hi)
        (try clear ho0)
        refine hK.out _ _ ⟨(blk_cell BK402.out 0).trans rfl, (blk_cell BK402.out 1).trans rfl, (blk_cell BK402.out 2).trans rfl, (blk_cell BK402.out 3).trans rfl, (blk_cell BK402.out 4).trans rfl, (blk_cell BK413.out 0).trans rfl, (blk_cell BK413.out 1).trans rfl, (blk_cell BK413.out 2).trans rfl, (blk_cell BK413.out 3).trans rfl, (blk_cell BK413.out 4).trans rfl⟩ (fun hHeld => ?_)
        clear hK K
        refine norm_ (a' := ?_) ?_ ?_
        rotate_left
        ·show Act.put _ (some 46) _ = _
         simp only [Act.put, List.setIfInBounds_toArray, List.set_cons_zero, List.set_cons_succ, i64_w, i32_w]
         rfl
        refine one_ (i := 13) (N := some 49) #[true, true, true, true, true, true, true, true, true, true, true, true, true, true, false, false, false, false, false, false, false, false, false, false, false, false, false] rfl rfl (one_of HT_.out (by kernel_rfl)) (by decide) (fun K hK => ?_)
        refine goes_ Try.func25 (by kernel_rfl) rfl #[.agg #[.int .i64 t403, .int .i64 t404, .string t405, .slice Ao62 x414003_26.length co62, .slice Ao19 t409.length co19], .agg #[.int .i64 t392, .int .i64 t393, .string t394, .slice Ao61 x403003_26.length co61, .slice Ao12 t398.length co12]] (by rfl) rfl rfl (by (try simp only [List.map_toArray, List.map_cons, List.map_nil]); first | done | rfl | (simp only [List.length_drop, List.length_take]; rfl)) ?_
        with_reducible refine (item_Material.calls kj26 t403 t404 t405 _ _ x414003_26 _ _ t409 t392 t393 t394 _ _ x403003_26 _ _ t398 t442 _ ?side1 ?side2 ?side3 ?side4 ?side5 ?side6 ?side7 ?side8 A54.out).mono ?_
        (case side1 => repeat (first | exact (Kd.R_reads' HO_414003.out).2.2 | (with_reducible refine Kd.C_alloc ?_ _) | (with_reducible refine Kd.C_drewN ?_ _) | (with_reducible refine Kd.C_drew ?_)))
        (case side2 => exact (Kd.R_reads' HO_414003.out).2.1)
        (case side3 => repeat (first | exact (Kd.R_reads' HO_414004.out).2.2 | (with_reducible refine Kd.C_alloc ?_ _) | (with_reducible refine Kd.C_drewN ?_ _) | (with_reducible refine Kd.C_drew ?_)))
        (case side4 => exact (Kd.R_reads' HO_414004.out).2.1)
        (case side5 => repeat (first | exact (Kd.R_reads' HO_403003.out).2.2 | (with_reducible refine Kd.C_alloc ?_ _) | (with_reducible refine Kd.C_drewN ?_ _) | (with_reducible refine Kd.C_drew ?_)))
        (case side6 => exact (Kd.R_reads' HO_403003.out).2.1)
        (case side7 => repeat (first | exact (Kd.R_reads' HO_403004.out).2.2 | (with_reducible refine Kd.C_alloc ?_ _) | (with_reducible refine Kd.C_drewN ?_ _) | (with_reducible refine Kd.C_drew ?_)))
        (case side8 => exact (Kd.R_reads' HO_403004.out).2.1)
        rintro e w68 ⟨v443, rfl, ho0, hb⟩
        refine ⟨_, rfl, ?_⟩
        have n0_ := Aside0.mk (Kd.R_below (by (with_reducible repeat (first | apply Kd.R_alloc | apply Kd.R_drewN | apply Kd.R_drew)); exact HO_403003.out) hb)
        have n1_ := Aside0.mk (Kd.R_elder' (by (with_reducible repeat (first | apply Kd.R_alloc | apply Kd.R_drewN | apply Kd.R_drew)); exact HO_403004.out) (Kd.R_base ho0) hb)
        have n2_ := Aside0.mk (Kd.R_below (by (with_reducible repeat (first | apply Kd.R_alloc | apply Kd.R_drewN | apply Kd.R_drew)); exact HO_414003.out) hb)
        have n3_ := Aside0.mk (Kd.R_elder' (by (with_reducible repeat (first | apply Kd.R_alloc | apply Kd.R_drewN | apply Kd.R_drew)); exact HO_414004.out) (Kd.R_base ho0) hb)
        have n4_ := Aside0.mk (Kd.R_elder' (by (with_reducible repeat (first | apply Kd.R_alloc | apply Kd.R_drewN | apply Kd.R_drew)); exact HO434.out) (Kd.R_base ho0) hb)
        have n5_ := Aside0.mk (Kd.R_elder' (by (with_reducible repeat (first | apply Kd.R_alloc | apply Kd.R_drewN | apply Kd.R_drew)); exact HO437.out) (Kd.R_base ho0) hb)
        have n6_ := Aside0.mk (Kd.R_elder' (by (with_reducible repeat (first | apply Kd.R_alloc | apply Kd.R_drewN | apply Kd.R_drew)); exact HO441.out) (Kd.R_base ho0) hb)
        have n7_ := Aside0.mk (Kd.R_lower (Kd.R_new' (Kd.R_new' (Kd.R_new' (Kd.R_new' (Kd.R_new' ho0 (Kd.R_lt (by (with_reducible repeat (first | apply Kd.R_alloc | apply Kd.R_drewN | apply Kd.R_drew)); exact HO_403004.out))) (Kd.R_lt (by (with_reducible repeat (first | apply Kd.R_alloc | apply Kd.R_drewN | apply Kd.R_drew)); exact HO_414004.out))) (Kd.R_lt (by (with_reducible repeat (first | apply Kd.R_alloc | apply Kd.R_drewN | apply Kd.R_drew)); exact HO434.out))) (Kd.R_lt (by (with_reducible repeat (first | apply Kd.R_alloc | apply Kd.R_drewN | apply Kd.R_drew)); exact HO437.out))) (Kd.R_lt (by (with_reducible repeat (first | apply Kd.R_alloc | apply Kd.R_drewN | apply Kd.R_drew)); exact HO441.out))) (below_size (by repeat (first | (with_reducible first | exact HB.out | apply below_alloc | apply pw_below_drewN | apply below_drew1 | refine below_set ?_ GE402.out | refine below_set ?_ GE413.out) | exact HB.out))))
        have n8_ := Aside0.mk (blk_below (g := gb402) (o := .cells #[.int .i64 t392, .int .i64 t393, .string t394, .slice Ao61 x403003_26.length co61, .slice Ao12 t398.length co12] 33 (0, 0)) (by (with_reducible repeat (first | refine blk_drewN ?_ _ | refine blk_drew ?_ | refine blk_alloc ?_ _)); exact BK402.out) hb)
        have n9_ := Aside0.mk (blk_below (g := gb413) (o := .cells #[.int .i64 t403, .int .i64 t404, .string t405, .slice Ao62 x414003_26.length co62, .slice Ao19 t409.length co19] 33 (0, 0)) (by (with_reducible repeat (first | refine blk_drewN ?_ _ | refine blk_drew ?_ | refine blk_alloc ?_ _)); exact BK413.out) hb)
        have n10_ := Aside0.mk (below_step (by repeat (first | (with_reducible first | exact HB.out | apply below_alloc | apply pw_below_drewN | apply below_drew1 | refine below_set ?_ GE402.out | refine below_set ?_ GE413.out) | exact HB.out)) hb)
        clear HO_403003 HO_403004 HO_414003 HO_414004 HO434 HO437 HO441 BK402 BK413 HB
        have HO_403003 := n0_
        have HO_403004 := n1_
        have HO_414003 := n2_
        have HO_414004 := n3_
        have HO434 := n4_
        have HO437 := n5_
        have HO441 := n6_
        have HO444 := n7_
        have BK402 := n8_
        have BK413 := n9_
        have HB := n10_
        clear n0_ n1_ n2_ n3_ n4_ n5_ n6_ n7_ n8_ n9_ n10_
        (try clear hb)
        (try clear hb2)
        (try clear hk)
        (try clear hi)
        (try clear ho0)
        obtain ⟨Ao69, co69, eo69⟩ := Kd.R_slice HO441.out
        (first | subst eo69 | (injection eo69 with f1_ f2_ f3_; have f4_ := f1_.symm; have f5_ := f3_.symm; clear f1_ f2_ f3_; subst f4_; subst f5_))
        obtain ⟨Ao70, co70, eo70⟩ := Kd.R_slice HO444.out
        (first | subst eo70 | (injection eo70 with f1_ f2_ f3_; have f4_ := f1_.symm; have f5_ := f3_.symm; clear f1_ f2_ f3_; subst f4_; subst f5_))
        refine hK.out _ _ ⟨(blk_cell BK402.out 0).trans rfl, (blk_cell BK402.out 1).trans rfl, (blk_cell BK402.out 2).trans rfl, (blk_cell BK402.out 3).trans rfl, (blk_cell BK402.out 4).trans rfl, (blk_cell BK413.out 0).trans rfl, (blk_cell BK413.out 1).trans rfl, (blk_cell BK413.out 2).trans rfl, (blk_cell BK413.out 3).trans rfl, (blk_cell BK413.out 4).trans rfl⟩ (fun hHeld => ?_)
        clear hK K
        refine norm_ (a' := ?_) ?_ ?_
        rotate_left
        ·show Act.put _ (some 49) _ = _
         simp only [Act.put, List.setIfInBounds_toArray, List.set_cons_zero, List.set_cons_succ, i64_w, i32_w]
         rfl
        refine one_ (i := 14) (N := some 50) #[true, true, true, true, true, true, true, true, true, true, true, true, true, true, true, false, false, false, false, false, false, false, false, false, false, false, false] rfl rfl (one_of HT_.out (by kernel_rfl)) (by decide) (fun K hK => ?_)
        refine goes_ Try.func24 (by kernel_rfl) rfl #[.slice Ao69 t439.length co69, .slice Ao70 t442.length co70] (by rfl) rfl rfl (by (try simp only [List.map_toArray, List.map_cons, List.map_nil]); first | done | rfl | (simp only [List.length_drop, List.length_take]; rfl)) ?_
        with_reducible refine (awardingbodyref06_Ints.calls kj26 _ _ t439 _ _ t442 true _ ?side1 ?side2 ?side3 ?side4 A55.out).mono ?_
        (case side1 => repeat (first | exact (Kd.R_reads' HO441.out).2.2 | (with_reducible refine Kd.C_alloc ?_ _) | (with_reducible refine Kd.C_drewN ?_ _) | (with_reducible refine Kd.C_drew ?_)))
        (case side2 => exact (Kd.R_reads' HO441.out).2.1)
        (case side3 => repeat (first | exact (Kd.R_reads' HO444.out).2.2 | (with_reducible refine Kd.C_alloc ?_ _) | (with_reducible refine Kd.C_drewN ?_ _) | (with_reducible refine Kd.C_drew ?_)))
        (case side4 => exact (Kd.R_reads' HO444.out).2.1)
        rintro e w' ⟨rfl, ⟨nd, rfl⟩⟩
        refine ⟨_, rfl, ?_⟩
        refine hK.out _ _ ⟨(blk_cell BK402.out 0).trans rfl, (blk_cell BK402.out 1).trans rfl, (blk_cell BK402.out 2).trans rfl, (blk_cell BK402.out 3).trans rfl, (blk_cell BK402.out 4).trans rfl, (blk_cell BK413.out 0).trans rfl, (blk_cell BK413.out 1).trans rfl, (blk_cell BK413.out 2).trans rfl, (blk_cell BK413.out 3).trans rfl, (blk_cell BK413.out 4).trans rfl⟩ (fun hHeld => ?_)
        clear hK K
        refine norm_ (a' := ?_) ?_ ?_
        rotate_left
        ·show Act.put _ (some 50) _ = _
         simp only [Act.put, List.setIfInBounds_toArray, List.set_cons_zero, List.set_cons_succ, i64_w, i32_w]
         rfl
        refine pure_ (i := 15) (N := some 51) (v := ?_) (a' := ?_) #[true, true, true, true, true, true, true, true, true, true, true, true, true, true, true, true, false, false, false, false, false, false, false, false, false, false, false] rfl rfl (any_of HT_.out (by kernel_rfl)) (fun _ _ _ h => h) (Or.inl ⟨by rfl, ?_⟩) ?_ ?_
        rotate_left
        ·intro w'
         go_simp
         with_reducible rfl
        rotate_left
        ·simp only [Act.put, List.setIfInBounds_toArray, List.set_cons_zero, List.set_cons_succ, i64_w, i32_w]
         rfl
        refine pure_ (i := 16) (N := some 52) (v := ?_) (a' := ?_) #[true, true, true, true, true, true, true, true, true, true, true, true, true, true, true, true, true, false, false, false, false, false, false, false, false, false, false] rfl rfl (any_of HT_.out (by kernel_rfl)) (fun _ _ _ h => h) (Or.inl ⟨by rfl, ?_⟩) ?_ ?_
        rotate_left
        ·intro w'
         go_simp
         with_reducible rfl
        rotate_left
        ·simp only [Act.put, List.setIfInBounds_toArray, List.set_cons_zero, List.set_cons_succ, i64_w, i32_w]
         rfl
        refine take_ (i := 17) (N := some 53) (v := ?_) (a' := ?_) #[true, true, true, true, true, true, true, true, true, true, true, true, true, true, true, true, true, true, false, false, false, false, false, false, false, false, false] rfl rfl (take_ofW HT_.out HW_.out (by kernel_rfl)) (fun _ _ _ h => h) (Or.inl ⟨by rfl, ?_⟩) hHeld ?_ ?_
        rotate_left
        ·rintro w' ⟨s0, s1, s2, s3, s4, s5, s6, s7, s8, s9⟩
         go_simp
         with_reducible rfl
        rotate_left
        ·simp only [Act.put, List.setIfInBounds_toArray, List.set_cons_zero, List.set_cons_succ, i64_w, i32_w]
         rfl
        refine take_ (i := 18) (N := some 54) (v := ?_) (a' := ?_) #[true, true, true, true, true, true, true, true, true, true, true, true, true, true, true, true, true, true, true, false, false, false, false, false, false, false, false] rfl rfl (take_ofW HT_.out HW_.out (by kernel_rfl)) (fun _ _ _ h => h) (Or.inl ⟨by rfl, ?_⟩) hHeld ?_ ?_
        rotate_left
        ·rintro w' ⟨s0, s1, s2, s3, s4, s5, s6, s7, s8, s9⟩
         go_simp
         with_reducible rfl
        rotate_left
        ·simp only [Act.put, List.setIfInBounds_toArray, List.set_cons_zero, List.set_cons_succ, i64_w, i32_w]
         rfl
        refine one_ (i := 19) (N := some 55) #[true, true, true, true, true, true, true, true, true, true, true, true, true, true, true, true, true, true, true, true, false, false, false, false, false, false, false] rfl rfl (one_of HT_.out (by kernel_rfl)) (by decide) (fun K hK => ?_)
        refine goes_ Try.func25 (by kernel_rfl) rfl #[.agg #[.int .i64 t392, .int .i64 t393, .string t394, .slice Ao61 x403003_26.length co61, .slice Ao12 t398.length co12], .agg #[.int .i64 t392, .int .i64 t393, .string t394, .slice Ao61 x403003_26.length co61, .slice Ao12 t398.length co12]] (by rfl) rfl rfl (by (try simp only [List.map_toArray, List.map_cons, List.map_nil]); first | done | rfl | (simp only [List.length_drop, List.length_take]; rfl)) ?_
        with_reducible refine (item_Material.calls kj26 t392 t393 t394 _ _ x403003_26 _ _ t398 t392 t393 t394 _ _ x403003_26 _ _ t398 t446 _ ?side1 ?side2 ?side3 ?side4 ?side5 ?side6 ?side7 ?side8 A57.out).mono ?_
        (case side1 => repeat (first | exact (Kd.R_reads' HO_403003.out).2.2 | (with_reducible refine Kd.C_alloc ?_ _) | (with_reducible refine Kd.C_drewN ?_ _) | (with_reducible refine Kd.C_drew ?_)))
        (case side2 => exact (Kd.R_reads' HO_403003.out).2.1)
        (case side3 => repeat (first | exact (Kd.R_reads' HO_403004.out).2.2 | (with_reducible refine Kd.C_alloc ?_ _) | (with_reducible refine Kd.C_drewN ?_ _) | (with_reducible refine Kd.C_drew ?_)))
        (case side4 => exact (Kd.R_reads' HO_403004.out).2.1)
        (case side5 => repeat (first | exact (Kd.R_reads' HO_403003.out).2.2 | (with_reducible refine Kd.C_alloc ?_ _) | (with_reducible refine Kd.C_drewN ?_ _) | (with_reducible refine Kd.C_drew ?_)))
        (case side6 => exact (Kd.R_reads' HO_403003.out).2.1)
        (case side7 => repeat (first | exact (Kd.R_reads' HO_403004.out).2.2 | (with_reducible refine Kd.C_alloc ?_ _) | (with_reducible refine Kd.C_drewN ?_ _) | (with_reducible refine Kd.C_drew ?_)))
        (case side8 => exact (Kd.R_reads' HO_403004.out).2.1)
        rintro e w71 ⟨v447, rfl, ho0, hb⟩
        refine ⟨_, rfl, ?_⟩
        have n0_ := Aside0.mk (Kd.R_below (by (with_reducible repeat (first | apply Kd.R_alloc | apply Kd.R_drewN | apply Kd.R_drew)); exact HO_403003.out) hb)
        have n1_ := Aside0.mk (Kd.R_elder' (by (with_reducible repeat (first | apply Kd.R_alloc | apply Kd.R_drewN | apply Kd.R_drew)); exact HO_403004.out) (Kd.R_base ho0) hb)
        have n2_ := Aside0.mk (Kd.R_below (by (with_reducible repeat (first | apply Kd.R_alloc | apply Kd.R_drewN | apply Kd.R_drew)); exact HO_414003.out) hb)
        have n3_ := Aside0.mk (Kd.R_elder' (by (with_reducible repeat (first | apply Kd.R_alloc | apply Kd.R_drewN | apply Kd.R_drew)); exact HO_414004.out) (Kd.R_base ho0) hb)
        have n4_ := Aside0.mk (Kd.R_elder' (by (with_reducible repeat (first | apply Kd.R_alloc | apply Kd.R_drewN | apply Kd.R_drew)); exact HO434.out) (Kd.R_base ho0) hb)
        have n5_ := Aside0.mk (Kd.R_elder' (by (with_reducible repeat (first | apply Kd.R_alloc | apply Kd.R_drewN | apply Kd.R_drew)); exact HO437.out) (Kd.R_base ho0) hb)
        have n6_ := Aside0.mk (Kd.R_elder' (by (with_reducible repeat (first | apply Kd.R_alloc | apply Kd.R_drewN | apply Kd.R_drew)); exact HO441.out) (Kd.R_base ho0) hb)
        have n7_ := Aside0.mk (Kd.R_elder' (by (with_reducible repeat (first | apply Kd.R_alloc | apply Kd.R_drewN | apply Kd.R_drew)); exact HO444.out) (Kd.R_base ho0) hb)
        have n8_ := Aside0.mk (Kd.R_lower (Kd.R_new' (Kd.R_new' (Kd.R_new' (Kd.R_new' (Kd.R_new' (Kd.R_new' ho0 (Kd.R_lt (by (with_reducible repeat (first | apply Kd.R_alloc | apply Kd.R_drewN | apply Kd.R_drew)); exact HO_403004.out))) (Kd.R_lt (by (with_reducible repeat (first | apply Kd.R_alloc | apply Kd.R_drewN | apply Kd.R_drew)); exact HO_414004.out))) (Kd.R_lt (by (with_reducible repeat (first | apply Kd.R_alloc | apply Kd.R_drewN | apply Kd.R_drew)); exact HO434.out))) (Kd.R_lt (by (with_reducible repeat (first | apply Kd.R_alloc | apply Kd.R_drewN | apply Kd.R_drew)); exact HO437.out))) (Kd.R_lt (by (with_reducible repeat (first | apply Kd.R_alloc | apply Kd.R_drewN | apply Kd.R_drew)); exact HO441.out))) (Kd.R_lt (by (with_reducible repeat (first | apply Kd.R_alloc | apply Kd.R_drewN | apply Kd.R_drew)); exact HO444.out))) (below_size (by repeat (first | (with_reducible first | exact HB.out | apply below_alloc | apply pw_below_drewN | apply below_drew1 | refine below_set ?_ GE402.out | refine below_set ?_ GE413.out) | exact HB.out))))
        have n9_ := Aside0.mk (blk_below (g := gb402) (o := .cells #[.int .i64 t392, .int .i64 t393, .string t394, .slice Ao61 x403003_26.length co61, .slice Ao12 t398.length co12] 33 (0, 0)) (by (with_reducible repeat (first | refine blk_drewN ?_ _ | refine blk_drew ?_ | refine blk_alloc ?_ _)); exact BK402.out) hb)
        have n10_ := Aside0.mk (blk_below (g := gb413) (o := .cells #[.int .i64 t403, .int .i64 t404, .string t405, .slice Ao62 x414003_26.length co62, .slice Ao19 t409.length co19] 33 (0, 0)) (by (with_reducible repeat (first | refine blk_drewN ?_ _ | refine blk_drew ?_ | refine blk_alloc ?_ _)); exact BK413.out) hb)
        have n11_ := Aside0.mk (below_step (by repeat (first | (with_reducible first | exact HB.out | apply below_alloc | apply pw_below_drewN | apply below_drew1 | refine below_set ?_ GE402.out | refine below_set ?_ GE413.out) | exact HB.out)) hb)
        clear HO_403003 HO_403004 HO_414003 HO_414004 HO434 HO437 HO441 HO444 BK402 BK413 HB
        have HO_403003 := n0_
        have HO_403004 := n1_
        have HO_414003 := n2_
        have HO_414004 := n3_
        have HO434 := n4_
        have HO437 := n5_
        have HO441 := n6_
        have HO444 := n7_
        have HO448 := n8_
        have BK402 := n9_
        have BK413 := n10_
        have HB := n11_
        clear n0_ n1_ n2_ n3_ n4_ n5_ n6_ n7_ n8_ n9_ n10_ n11_
        (try clear hb)
        (try clear hb2)
        (try clear hk)
        (try clear hi)
        (try clear ho0)
        obtain ⟨Ao72, co72, eo72⟩ := Kd.R_slice HO448.out
        (first | subst eo72 | (injection eo72 with f1_ f2_ f3_; have f4_ := f1_.symm; have f5_ := f3_.symm; clear f1_ f2_ f3_; subst f4_; subst f5_))
        refine hK.out _ _ ⟨(blk_cell BK402.out 0).trans rfl, (blk_cell BK402.out 1).trans rfl, (blk_cell BK402.out 2).trans rfl, (blk_cell BK402.out 3).trans rfl, (blk_cell BK402.out 4).trans rfl, (blk_cell BK413.out 0).trans rfl, (blk_cell BK413.out 1).trans rfl, (blk_cell BK413.out 2).trans rfl, (blk_cell BK413.out 3).trans rfl, (blk_cell BK413.out 4).trans rfl⟩ (fun hHeld => ?_)
        clear hK K
        refine norm_ (a' := ?_) ?_ ?_
        rotate_left
        ·show Act.put _ (some 55) _ = _
         simp only [Act.put, List.setIfInBounds_toArray, List.set_cons_zero, List.set_cons_succ, i64_w, i32_w]
         rfl
        refine pure_ (i := 20) (N := some 56) (v := ?_) (a' := ?_) #[true, true, true, true, true, true, true, true, true, true, true, true, true, true, true, true, true, true, true, true, true, false, false, false, false, false, false] rfl rfl (any_of HT_.out (by kernel_rfl)) (fun _ _ _ h => h) (Or.inl ⟨by rfl, ?_⟩) ?_ ?_
        rotate_left
        ·intro w'
         go_simp
         with_reducible rfl
        rotate_left
        ·simp only [Act.put, List.setIfInBounds_toArray, List.set_cons_zero, List.set_cons_succ, i64_w, i32_w]
         rfl
        refine pure_ (i := 21) (N := some 57) (v := ?_) (a' := ?_) #[true, true, true, true, true, true, true, true, true, true, true, true, true, true, true, true, true, true, true, true, true, true, false, false, false, false, false] rfl rfl (any_of HT_.out (by kernel_rfl)) (fun _ _ _ h => h) (Or.inl ⟨by rfl, ?_⟩) ?_ ?_
        rotate_left
        ·intro w'
         go_simp
         with_reducible rfl
        rotate_left
        ·simp only [Act.put, List.setIfInBounds_toArray, List.set_cons_zero, List.set_cons_succ, i64_w, i32_w]
         rfl
        refine pure_ (i := 22) (N := some 58) (v := ?_) (a' := ?_) #[true, true, true, true, true, true, true, true, true, true, true, true, true, true, true, true, true, true, true, true, true, true, true, false, false, false, false] rfl rfl (any_of HT_.out (by kernel_rfl)) (fun _ _ _ h => h) (Or.inl ⟨by rfl, ?_⟩) ?_ ?_
        rotate_left
        ·intro w'
         go_simp
         with_reducible rfl
        rotate_left
        ·simp only [Act.put, List.setIfInBounds_toArray, List.set_cons_zero, List.set_cons_succ, i64_w, i32_w]
         rfl
        refine pure_ (i := 23) (N := some 59) (v := ?_) (a' := ?_) #[true, true, true, true, true, true, true, true, true, true, true, true, true, true, true, true, true, true, true, true, true, true, true, true, false, false, false] rfl rfl (any_of HT_.out (by kernel_rfl)) (fun _ _ _ h => h) (Or.inl ⟨by rfl, ?_⟩) ?_ ?_
        rotate_left
        ·intro w'
         go_simp
         with_reducible rfl
        rotate_left
        ·simp only [Act.put, List.setIfInBounds_toArray, List.set_cons_zero, List.set_cons_succ, i64_w, i32_w]
         rfl
        refine one_ (i := 24) (N := some 60) #[true, true, true, true, true, true, true, true, true, true, true, true, true, true, true, true, true, true, true, true, true, true, true, true, true, false, false] rfl rfl (one_of HT_.out (by kernel_rfl)) (by decide) (fun K hK => ?_)
        refine goes_ Try.func14 (by kernel_rfl) rfl #[] (by rfl) rfl rfl (by (try simp only [List.map_toArray, List.map_cons, List.map_nil]); first | done | rfl | (simp only [List.length_drop, List.length_take]; rfl)) ?_
        with_reducible refine (awardingbodylaw06_awake.calls kj26  t449 _ A59.out).mono ?_
        rintro e w73 ⟨rfl, hb⟩
        refine ⟨_, rfl, ?_⟩
        have n0_ := Aside0.mk (Kd.R_below (by (with_reducible repeat (first | apply Kd.R_alloc | apply Kd.R_drewN | apply Kd.R_drew)); exact HO_403003.out) hb)
        have n1_ := Aside0.mk (Kd.R_below (by (with_reducible repeat (first | apply Kd.R_alloc | apply Kd.R_drewN | apply Kd.R_drew)); exact HO_403004.out) hb)
        have n2_ := Aside0.mk (Kd.R_below (by (with_reducible repeat (first | apply Kd.R_alloc | apply Kd.R_drewN | apply Kd.R_drew)); exact HO_414003.out) hb)
        have n3_ := Aside0.mk (Kd.R_below (by (with_reducible repeat (first | apply Kd.R_alloc | apply Kd.R_drewN | apply Kd.R_drew)); exact HO_414004.out) hb)
        have n4_ := Aside0.mk (Kd.R_below (by (with_reducible repeat (first | apply Kd.R_alloc | apply Kd.R_drewN | apply Kd.R_drew)); exact HO434.out) hb)
        have n5_ := Aside0.mk (Kd.R_below (by (with_reducible repeat (first | apply Kd.R_alloc | apply Kd.R_drewN | apply Kd.R_drew)); exact HO437.out) hb)
        have n6_ := Aside0.mk (Kd.R_below (by (with_reducible repeat (first | apply Kd.R_alloc | apply Kd.R_drewN | apply Kd.R_drew)); exact HO441.out) hb)
        have n7_ := Aside0.mk (Kd.R_below (by (with_reducible repeat (first | apply Kd.R_alloc | apply Kd.R_drewN | apply Kd.R_drew)); exact HO444.out) hb)
        have n8_ := Aside0.mk (Kd.R_below (by (with_reducible repeat (first | apply Kd.R_alloc | apply Kd.R_drewN | apply Kd.R_drew)); exact HO448.out) hb)
        have n9_ := Aside0.mk (blk_below (g := gb402) (o := .cells #[.int .i64 t392, .int .i64 t393, .string t394, .slice Ao61 x403003_26.length co61, .slice Ao12 t398.length co12] 33 (0, 0)) (by (with_reducible repeat (first | refine blk_drewN ?_ _ | refine blk_drew ?_ | refine blk_alloc ?_ _)); exact BK402.out) hb)
        have n10_ := Aside0.mk (blk_below (g := gb413) (o := .cells #[.int .i64 t403, .int .i64 t404, .string t405, .slice Ao62 x414003_26.length co62, .slice Ao19 t409.length co19] 33 (0, 0)) (by (with_reducible repeat (first | refine blk_drewN ?_ _ | refine blk_drew ?_ | refine blk_alloc ?_ _)); exact BK413.out) hb)
        have n11_ := Aside0.mk (below_step (by repeat (first | (with_reducible first | exact HB.out | apply below_alloc | apply pw_below_drewN | apply below_drew1 | refine below_set ?_ GE402.out | refine below_set ?_ GE413.out) | exact HB.out)) hb)
        clear HO_403003 HO_403004 HO_414003 HO_414004 HO434 HO437 HO441 HO444 HO448 BK402 BK413 HB
        have HO_403003 := n0_
        have HO_403004 := n1_
        have HO_414003 := n2_
        have HO_414004 := n3_
        have HO434 := n4_
        have HO437 := n5_
        have HO441 := n6_
        have HO444 := n7_
        have HO448 := n8_
        have BK402 := n9_
        have BK413 := n10_
        have HB := n11_
        clear n0_ n1_ n2_ n3_ n4_ n5_ n6_ n7_ n8_ n9_ n10_ n11_
        (try clear hb)
        (try clear hb2)
        (try clear hk)
        (try clear hi)
        refine hK.out _ _ ⟨(blk_cell BK402.out 0).trans rfl, (blk_cell BK402.out 1).trans rfl, (blk_cell BK402.out 2).trans rfl, (blk_cell BK402.out 3).trans rfl, (blk_cell BK402.out 4).trans rfl, (blk_cell BK413.out 0).trans rfl, (blk_cell BK413.out 1).trans rfl, (blk_cell BK413.out 2).trans rfl, (blk_cell BK413.out 3).trans rfl, (blk_cell BK413.out 4).trans rfl⟩ (fun hHeld => ?_)
        clear hK K
        refine norm_ (a' := ?_) ?_ ?_
        rotate_left
        ·show Act.put _ (some 60) _ = _
         simp only [Act.put, List.setIfInBounds_toArray, List.set_cons_zero, List.set_cons_succ, i64_w, i32_w]
         rfl
        refine pure_ (i := 25) (N := some 61) (v := ?_) (a' := ?_) #[true, true, true, true, true, true, true, true, true, true, true, true, true, true, true, true, true, true, true, true, true, true, true, true, true, true, false] rfl rfl (any_of HT_.out (by kernel_rfl)) (fun _ _ _ h => h) (Or.inl ⟨by rfl, ?_⟩) ?_ ?_
        rotate_left
        ·intro w'
         go_simp
         with_reducible rfl
        rotate_left
        ·simp only [Act.put, List.setIfInBounds_toArray, List.set_cons_zero, List.set_cons_succ, i64_w, i32_w]
         rfl
        refine pure_ (i := 26) (N := some 2) (v := ?_) (a' := ?_) #[true, true, true, true, true, true, true, true, true, true, true, true, true, true, true, true, true, true, true, true, true, true, true, true, true, true, true] rfl rfl (any_of HT_.out (by kernel_rfl)) (fun _ _ _ h => h) (Or.inl ⟨by rfl, ?_⟩) ?_ ?_
        rotate_left
        ·intro w'
         go_simp
         with_reducible rfl
        rotate_left
        ·simp only [Act.put, List.setIfInBounds_toArray, List.set_cons_zero, List.set_cons_succ, i64_w, i32_w]
         rfl
        refine done_ (done_of HT_.out (by kernel_rfl)) ?_
        try go_wp2
        go_ret
        exact ⟨by first | rfl | (simp [errW_none, errW_some] <;> rfl) | (simp [*, errW_none, errW_some] <;> rfl), by repeat (first | (with_reducible first | exact HB.out | apply below_alloc | apply pw_below_drewN | apply below_drew1 | refine below_set ?_ GE402.out | refine below_set ?_ GE413.out) | exact HB.out)⟩
       ·rw [if_neg c58] at H
        have c58b0 : ((t446.length : Int) == 0) = false := beq_eq_false_iff_ne.mpr c58
        have c58b1 : ((t446.length : Int) != 0) = true := bne_iff_ne.mpr c58
        have c58b2 : ¬ (t446 = []) := fun h_ => c58 (by rw [h_]; rfl)
        exact absurd H (by simp)
      ·replace c56 := Bool.eq_false_iff.mpr c56
       subst c56
       have H1 : (none) = some r := by rw [if_neg (show ¬ (false = true) by decide)] at H; exact H
       clear H
       have H := H1
       clear H1
       exact absurd H (by simp)
     ·replace c52 := Bool.eq_false_iff.mpr c52
      subst c52
      have H1 : (none) = some r := by rw [if_neg (show ¬ (false = true) by decide)] at H; exact H
      clear H
      have H := H1
      clear H1
      exact absurd H (by simp)

/-- THE ONE PURE STATEMENT of awardingbodylaw06_ItemMaterial: yours. -/
def awardingbodylaw06_ItemMaterial.Pure : Prop := ∀ (l0 : List Int), l0.length ≤ maxLen → l0.length * 8 ≤ 140737488351232 → (∀ x ∈ l0, (Lit.int .i64 x).wf = true) → ∃ k, awardingbodylaw06_ItemMaterial.f k l0 = some true
theorem awardingbodylaw06_ItemMaterial.walk (P : awardingbodylaw06_ItemMaterial.Pure) (a0 : Option Addr) (len0 cap0 : Nat) (z0 : List Int) (w : World) (w0 : (a0 = none ∧ len0 = 0 ∧ cap0 = 0 ∧ z0 = []) ∨ ∃ x, a0 = some x ∧ len0 ≤ cap0 ∧ cap0 ≤ maxLen ∧ z0.length = cap0 ∧ (∀ i, i < z0.length → w.cell? (x.add i) = some (.int .i64 (z0.getD i 0))) ∧ ∀ n ∈ z0, (Lit.int .i64 n).wf = true) (y0 : len0 * 8 ≤ 140737488351232) :
  Calls Try.prog 6 #[.slice a0 len0 cap0] w fun e w' => e = .returned (.bool true) ∧ Below w.heap.size w w' := by
 obtain ⟨l0, rfl, hr0, hm0, hw0, hc0⟩ := ReadsInt.ofRowC w0
 obtain ⟨k, h⟩ := P l0 hm0 y0 hw0
 refine (awardingbodylaw06_ItemMaterial.calls k _ _ l0 true w (Kd.C_of_reads (d := (0 : Int)) (h1 := fun _ => rfl) hr0) hc0 h).mono ?_
 rintro e w' ⟨rfl, hd⟩
 exact ⟨rfl, hd⟩

end Go.Proofs.Ytinmdoemkejanaa.Print
