/- Item: what ValidPart, Check and Total come to, program and reference alike. Conditions: lists and strings of fewer than 1000000000000 elements. -/
import Derived.Test.YtinmdoemkejanaaPrint7
import Derived.Test.YtinmdoemkejanaaPrint5
import Derived.Test.YtinmdoemkejanaaPrint14
import Derived.Test.YtinmdoemkejanaaPrint4
import Derived.Test.YtinmdoemkejanaaPrint13
import Derived.Test.YtinmdoemkejanaaPrint3
import Derived.Test.YtinmdoemkejanaaTape
namespace Go.Proofs.Ytinmdoemkejanaa.Pure
open Go.RowKit Go.Proofs.Ytinmdoemkejanaa.Print Go.Proofs.YtinmdoemkejanaaW.PrintWords Go.Proofs.YtinmdoemkejanaaW.PrintLast Go.Proofs.YtinmdoemkejanaaW.PrintMore

abbrev Part := S23
theorem awake_ok : awardingbodylaw06_awake.f 30 = some true := by kernel_rfl
theorem awake_ev : Ev (fun k => awardingbodylaw06_awake.f k) true := Ev.of awardingbodylaw06_awake.mono awake_ok

theorem in_eq (a lo hi : Int) : item_in.f a lo hi = some (decide (lo ≤ a ∧ a ≤ hi)) := by
  unfold item_in.f
  by_cases h : a ≥ lo
  · rw [if_pos h]; exact congrArg some (decide_eq_decide.2 (by omega))
  · rw [if_neg h]; exact congrArg some (decide_eq_false (by omega)).symm

def rangeB (m t o : Int) : Bool := decide (1 ≤ m ∧ m ≤ 40 ∧ 0 ≤ t ∧ t ≤ 15 ∧ 0 ≤ o ∧ o ≤ 5)
def kindB (k op ke : Int) : Bool := decide ((k = 1 ∧ op = 0 ∧ ke = 0) ∨ (k = 2 ∧ 2 ≤ op ∧ op ≤ 5 ∧ 0 ≤ ke ∧ ke < op))
def partB (k m t o op ke : Int) : Bool := rangeB m t o && kindB k op ke

theorem part_j0 (x : Bool) (k m t o op ke : Int) : Ev (fun n => item_ValidPart.j0 n x k m t o op ke) (!x && kindB k op ke) := by
  refine ev_step ?_ (fun k => by rw [item_ValidPart.j0])
  refine ev_ite (fun h => ev_some (by rw [h]; rfl)) (fun h => ?_)
  have hx : x = false := by simpa using h
  rw [hx]
  show Ev _ (true && kindB k op ke)
  rw [Bool.true_and]
  refine ev_ite (fun h1 => ev_ite (fun h2 => ev_some ?_) (fun h2 => ev_some ?_)) (fun h1 => ev_ite (fun h2 => ?_) (fun h2 => ev_some ?_))
  · rw [Bool.eq_iff_iff, beq_iff_eq]; unfold kindB; rw [decide_eq_true_eq]; omega
  · exact (decide_eq_false (by omega)).symm
  · rw [in_eq]
    refine ev_bind_now rfl (ev_ite (fun h3 => ?_) (fun h3 => ev_some ?_))
    · rw [decide_eq_true_eq] at h3
      rw [wrap_id (x := op - 1) (by omega) (by omega), in_eq]
      exact ev_bind_now rfl (ev_some (decide_eq_decide.2 (by omega)))
    · rw [decide_eq_true_eq] at h3
      exact (decide_eq_false (by omega)).symm
  · exact (decide_eq_false (by omega)).symm
theorem flag_part {x : Bool} {k m t o op ke : Int} (h : (!x) = rangeB m t o) : (!x && kindB k op ke) = partB k m t o op ke := by unfold partB; rw [h]
theorem part_ev (k m t o op ke : Int) : Ev (fun n => item_ValidPart.f n k m t o op ke) (partB k m t o op ke) := by
  unfold item_ValidPart.f
  rw [in_eq, in_eq, in_eq]
  refine ev_bind_now rfl (ev_ite (fun h1 => ev_bind_now rfl (ev_ite (fun h2 => ev_bind_now rfl ?_) (fun h2 => ?_))) (fun h1 => ?_))
  · rw [decide_eq_true_eq] at h1 h2
    refine ev_eq (part_j0 _ k m t o op ke) (flag_part ?_)
    rw [Bool.not_not]
    exact decide_eq_decide.2 (by omega)
  · rw [decide_eq_true_eq] at h2
    exact ev_eq (part_j0 _ k m t o op ke) (flag_part (decide_eq_false (by omega)).symm)
  · rw [decide_eq_true_eq] at h1
    exact ev_eq (part_j0 _ k m t o op ke) (flag_part (decide_eq_false (by omega)).symm)
theorem rpart_j0 (x : Bool) (k m t o op ke : Int) : Ev (fun n => awardingbodyref06_ValidPart.j0 n x k m t o op ke) (!x && kindB k op ke) := by
  refine ev_step ?_ (fun k => by rw [awardingbodyref06_ValidPart.j0])
  refine ev_ite (fun h => ev_some (by rw [h]; rfl)) (fun h => ?_)
  have hx : x = false := by simpa using h
  rw [hx]
  show Ev _ (true && kindB k op ke)
  rw [Bool.true_and]
  refine ev_ite (fun h1 => ev_ite (fun h2 => ev_some ?_) (fun h2 => ev_some ?_)) (fun h1 => ev_ite (fun h2 => ?_) (fun h2 => ev_some ?_))
  · rw [Bool.eq_iff_iff, beq_iff_eq]; unfold kindB; rw [decide_eq_true_eq]; omega
  · exact (decide_eq_false (by omega)).symm
  · refine ev_ite (fun h3 => ev_ite (fun h4 => ev_ite (fun h5 => ev_some (decide_eq_decide.2 (by omega))) (fun h5 => ev_some ?_)) (fun h4 => ev_some ?_)) (fun h3 => ev_some ?_)
    all_goals exact (decide_eq_false (by omega)).symm
  · exact (decide_eq_false (by omega)).symm
theorem rpart_ev (k m t o op ke : Int) : Ev (fun n => awardingbodyref06_ValidPart.f n k m t o op ke) (partB k m t o op ke) := by
  unfold awardingbodyref06_ValidPart.f
  have bad : ¬ (1 ≤ m ∧ m ≤ 40 ∧ 0 ≤ t ∧ t ≤ 15 ∧ 0 ≤ o ∧ o ≤ 5) → Ev (fun n => awardingbodyref06_ValidPart.j0 n true k m t o op ke) (partB k m t o op ke) := fun h => ev_eq (rpart_j0 _ k m t o op ke) (flag_part (decide_eq_false h).symm)
  refine ev_ite (fun h => bad (by omega)) (fun h1 => ev_ite (fun h => bad (by omega)) (fun h2 => ev_ite (fun h => bad (by omega)) (fun h3 => ev_ite (fun h => bad (by omega)) (fun h4 => ev_ite (fun h => bad (by omega)) (fun h5 => ?_)))))
  refine ev_eq (rpart_j0 _ k m t o op ke) (flag_part ?_)
  unfold rangeB
  rw [← decide_not]
  exact decide_eq_decide.2 (by omega)

def pB (p : Part) : Bool := partB p.f0 p.f1 p.f2 p.f3 p.f4 p.f5
theorem bad_ev (k m t o op ke : Int) : Ev (fun n => item_bad.f n k m t o op ke) (!partB k m t o op ke) := by
  unfold item_bad.f
  exact ev_bind (part_ev k m t o op ke) (ev_some rfl)

theorem range_drop (n i : Nat) (h : i < n) : (List.range n).drop i = i :: (List.range n).drop (i + 1) := by
  rw [drop_cons_at (List.range n) 0 i (by simp; omega)]
  congr 1
  rw [List.getD_eq_getElem?_getD, List.getElem?_range h]; rfl
theorem rd_nat (l : List Int) (i : Nat) : rd l (i : Int) = l.getD i 0 := by unfold rd; rw [Int.toNat_natCast]
theorem rdp_nat (l : List Part) (i : Nat) : rd_T23 l (i : Int) = l.getD i z23 := by unfold rd_T23; rw [Int.toNat_natCast]

/-! Parts: is one of them not valid? -/
def badP (p : Part) : Bool := !pB p
theorem badparts_loop (l : List Part) (hl : l.length ≤ 1000000000000) (d : Nat) : ∀ i : Nat, i + d = l.length →
    ∃ r, Ev (fun k => api_Part_bad_s54.l0 k l (l.length : Int) (i : Int)) r ∧ (0 ≤ r ↔ (l.drop i).any badP = true) := by
  induction d with
  | zero =>
    intro i hi
    refine ⟨-1, ?_, ?_⟩
    · refine ev_step ?_ (fun k => by rw [api_Part_bad_s54.l0])
      exact ev_neg (by omega) (ev_some rfl)
    · rw [List.drop_of_length_le (by omega)]; simp
  | succ d ih =>
    intro i hi
    obtain ⟨r, hr, hk⟩ := ih (i + 1) (by omega)
    rw [drop_cons_at l z23 i (by omega), List.any_cons]
    by_cases h : badP (l.getD i z23) = true
    · refine ⟨i, ?_, by rw [h, Bool.true_or]; exact ⟨fun _ => rfl, fun _ => by omega⟩⟩
      refine ev_step ?_ (fun k => by rw [api_Part_bad_s54.l0])
      rw [rdp_nat]
      exact ev_pos (by omega) (ev_pos (by omega) (ev_pos (by omega) (ev_bind (bad_ev _ _ _ _ _ _) (ev_pos h (ev_some rfl)))))
    · refine ⟨r, ?_, by rw [hk, show badP (l.getD i z23) = false by simpa using h, Bool.false_or]⟩
      refine ev_step ?_ (fun k => by rw [api_Part_bad_s54.l0])
      rw [rdp_nat, next_index i l.length (by omega) hl]
      exact ev_pos (by omega) (ev_pos (by omega) (ev_pos (by omega) (ev_bind (bad_ev _ _ _ _ _ _) (ev_neg h hr))))
theorem ev_contains {g : Nat → Option Int} {r : Int} {b : Bool} (h : Ev g r) (hk : 0 ≤ r ↔ b = true) : Ev (fun k => (g k).bind fun t => some (decide (t ≥ 0))) b := by
  refine ev_bind h (ev_some ?_)
  cases b with
  | true => exact decide_eq_true (hk.2 rfl)
  | false => exact decide_eq_false (fun h2 => by have := hk.1 h2; cases this)
theorem badparts_ev (l : List Part) (hl : l.length ≤ 1000000000000) : Ev (fun k => api_Part_bad_s44.f k l) (l.any badP) := by
  obtain ⟨r, hr, hk⟩ := badparts_loop l hl l.length 0 (by omega)
  unfold api_Part_bad_s44.f
  exact ev_contains (g := fun k => api_Part_bad_s54.f k l) hr (by rw [List.drop_zero] at hk; exact hk)

/-! The stem: is one of its bytes no plain letter? -/
def badC (v : Int) : Bool := decide (v < 32 ∨ 126 < v)
def stemB (s : ByteArray) : Bool := (List.range s.size).any fun i => badC (bt s i)
theorem check1_eq (c : Int) : item_Check_1.f c = some (badC c) := by
  unfold item_Check_1.f badC
  by_cases h : c < 32
  · rw [if_pos h]; exact congrArg some (decide_eq_true (.inl h)).symm
  · rw [if_neg h]; exact congrArg some (decide_eq_decide.2 (by omega))
theorem rd_bytes (s : ByteArray) (i : Nat) (h : i < s.size) : rd (bytesOf s) (i : Int) = bt s (i : Int) := by
  rw [rd_nat]
  have hl := bytesOf_length s
  rw [List.getD_eq_getElem?_getD, List.getElem?_eq_getElem (by omega), Option.getD_some]
  unfold bt bytesOf
  rw [dif_pos (by omega)]
  simp
  rfl
theorem bytes_loop (s : ByteArray) (hl : s.size ≤ 1000000000000) (d : Nat) : ∀ i : Nat, i + d = s.size →
    ∃ r, Ev (fun k => slices_IndexFunc_byte_byte_Check_1_s53.l0 k (bytesOf s) ((bytesOf s).length : Int) (i : Int)) r ∧ (0 ≤ r ↔ ((List.range s.size).drop i).any (fun i => badC (bt s i)) = true) := by
  have hlen := bytesOf_length s
  induction d with
  | zero =>
    intro i hi
    refine ⟨-1, ?_, ?_⟩
    · refine ev_step ?_ (fun k => by rw [slices_IndexFunc_byte_byte_Check_1_s53.l0])
      exact ev_neg (by omega) (ev_some rfl)
    · rw [List.drop_of_length_le (by simp; omega)]; simp
  | succ d ih =>
    intro i hi
    obtain ⟨r, hr, hk⟩ := ih (i + 1) (by omega)
    rw [range_drop s.size i (by omega), List.any_cons]
    by_cases h : badC (bt s (i : Int)) = true
    · refine ⟨i, ?_, by rw [h, Bool.true_or]; exact ⟨fun _ => rfl, fun _ => by omega⟩⟩
      refine ev_step ?_ (fun k => by rw [slices_IndexFunc_byte_byte_Check_1_s53.l0])
      rw [rd_bytes s i (by omega), check1_eq]
      exact ev_pos (by omega) (ev_pos (by omega) (ev_pos (by omega) (ev_pos h (ev_some rfl))))
    · refine ⟨r, ?_, by rw [hk, show badC (bt s (i : Int)) = false by simpa using h, Bool.false_or]⟩
      refine ev_step ?_ (fun k => by rw [slices_IndexFunc_byte_byte_Check_1_s53.l0])
      rw [rd_bytes s i (by omega), check1_eq, next_index i s.size (by omega) hl]
      exact ev_pos (by omega) (ev_pos (by omega) (ev_pos (by omega) (ev_neg h hr)))
theorem stem_ev (s : ByteArray) (hl : s.size ≤ 1000000000000) : Ev (fun k => contains_in_string.f k s) (stemB s) := by
  obtain ⟨r, hr, hk⟩ := bytes_loop s hl s.size 0 (by omega)
  unfold contains_in_string.f slices_ContainsFunc_byte_byte_Check_1_s42.f
  exact ev_pos (by omega) (ev_contains (g := fun k => slices_IndexFunc_byte_byte_Check_1_s53.f k (bytesOf s)) hr (by rw [List.drop_zero] at hk; exact hk))

/-! The enemies. -/
set_option linter.unusedVariables false
set_option linter.unusedSectionVars false
def descI (l : List Int) (i : Nat) : Bool := decide (0 < i ∧ l.getD i 0 ≤ l.getD (i - 1) 0)
def badE (id v : Int) : Bool := decide (v < 0 ∨ 9999 < v ∨ v = id)
def badEI (id : Int) (l : List Int) (i : Nat) : Bool := badE id (l.getD i 0)
theorem rd_pred (l : List Int) (i : Nat) (h : 0 < i) (hi : i ≤ 1000000000000) : wrap64 ((i : Int) - 1) = ((i - 1 : Nat) : Int) := by rw [wrap_id (by omega) (by omega)]; omega
theorem ascending_loop (l : List Int) (hl : l.length ≤ 1000000000000) (d : Nat) : ∀ i : Nat, i + d = l.length →
    Ev (fun k => item_ascending.l0 k l (l.length : Int) (i : Int)) (!((List.range l.length).drop i).any (descI l)) := by
  induction d with
  | zero =>
    intro i hi
    refine ev_step ?_ (fun k => by rw [item_ascending.l0])
    rw [List.drop_of_length_le (by simp; omega)]
    exact ev_neg (by omega) (ev_some rfl)
  | succ d ih =>
    intro i hi
    refine ev_step ?_ (fun k => by rw [item_ascending.l0])
    rw [range_drop l.length i (by omega), List.any_cons, next_index i l.length (by omega) hl]
    refine ev_pos (by omega) (ev_ite (fun h0 => ?_) (fun h0 => ev_eq (ih (i + 1) (by omega)) ?_))
    · rw [rd_pred l i (by omega) (by omega), rd_nat, rd_nat]
      refine ev_pos (by omega) (ev_pos (by omega) (ev_pos (by omega) (ev_pos (by omega) (ev_ite (fun h => ev_some ?_) (fun h => ev_eq (ih (i + 1) (by omega)) ?_)))))
      · have : descI l i = true := decide_eq_true ⟨by omega, h⟩
        rw [this]; rfl
      · have : descI l i = false := decide_eq_false (fun h2 => h h2.2)
        rw [this]; rfl
    · have : descI l i = false := decide_eq_false (fun h2 => by omega)
      rw [this]; rfl
theorem ascending_ev (l : List Int) (hl : l.length ≤ 1000000000000) : Ev (fun k => item_ascending.f k l) (!(List.range l.length).any (descI l)) := by
  have := ascending_loop l hl l.length 0 (by omega)
  rw [List.drop_zero] at this
  exact this
theorem check2_eq (v id : Int) : item_Check_2.f v id = some (badE id v) := by
  unfold item_Check_2.f badE
  rw [in_eq]
  simp only [Option.bind_some, decide_eq_true_eq]
  by_cases h : 0 ≤ v ∧ v ≤ 9999
  · rw [if_pos h]
    refine congrArg some ?_
    rw [Bool.eq_iff_iff, beq_iff_eq, decide_eq_true_eq]; omega
  · rw [if_neg h]; exact congrArg some (decide_eq_true (by omega)).symm
theorem enemies_loop (l : List Int) (id : Int) (hl : l.length ≤ 1000000000000) (d : Nat) : ∀ i : Nat, i + d = l.length →
    ∃ r, Ev (fun k => slices_IndexFunc_int_int_Check_2_s55.l0 k l id (l.length : Int) (i : Int)) r ∧ (0 ≤ r ↔ ((List.range l.length).drop i).any (badEI id l) = true) := by
  induction d with
  | zero =>
    intro i hi
    refine ⟨-1, ?_, ?_⟩
    · refine ev_step ?_ (fun k => by rw [slices_IndexFunc_int_int_Check_2_s55.l0])
      exact ev_neg (by omega) (ev_some rfl)
    · rw [List.drop_of_length_le (by simp; omega)]; simp
  | succ d ih =>
    intro i hi
    obtain ⟨r, hr, hk⟩ := ih (i + 1) (by omega)
    rw [range_drop l.length i (by omega), List.any_cons]
    by_cases h : badEI id l i = true
    · refine ⟨i, ?_, by rw [h, Bool.true_or]; exact ⟨fun _ => rfl, fun _ => by omega⟩⟩
      refine ev_step ?_ (fun k => by rw [slices_IndexFunc_int_int_Check_2_s55.l0])
      rw [rd_nat, check2_eq]
      exact ev_pos (by omega) (ev_pos (by omega) (ev_pos (by omega) (ev_pos h (ev_some rfl))))
    · refine ⟨r, ?_, by rw [hk, show badEI id l i = false by simpa using h, Bool.false_or]⟩
      refine ev_step ?_ (fun k => by rw [slices_IndexFunc_int_int_Check_2_s55.l0])
      rw [rd_nat, check2_eq, next_index i l.length (by omega) hl]
      exact ev_pos (by omega) (ev_pos (by omega) (ev_pos (by omega) (ev_neg h hr)))
theorem enemies_ev (l : List Int) (id : Int) (hl : l.length ≤ 1000000000000) : Ev (fun k => slices_ContainsFunc_int_int_Check_2_s47.f k l id) ((List.range l.length).any (badEI id l)) := by
  obtain ⟨r, hr, hk⟩ := enemies_loop l id hl l.length 0 (by omega)
  unfold slices_ContainsFunc_int_int_Check_2_s47.f
  exact ev_contains (g := fun k => slices_IndexFunc_int_int_Check_2_s55.f k l id) hr (by rw [List.drop_zero] at hk; exact hk)

/-! Check. -/
def enB (id : Int) (l : List Int) : Bool := (List.range l.length).any fun i => badEI id l i || descI l i
def chk2 (id : Int) (s : ByteArray) (ps : List Part) (en : List Int) (x : Bool) : Int := if x then 7 else if (ps.length : Int) = 0 then 10 else if ps.any badP then 1 else if enB id en then 9 else 0
def chk1 (id : Int) (s : ByteArray) (ps : List Part) (en : List Int) (x : Bool) : Int := if x then 3 else if s.toList = ([] : List UInt8) then 7 else chk2 id s ps en (stemB s)
def chk0 (id : Int) (s : ByteArray) (ps : List Part) (en : List Int) (x : Bool) : Int := if x then 2 else chk1 id s ps en (decide ((s.size : Int) > 40 ∨ (ps.length : Int) > 6 ∨ (en.length : Int) > 8))
def checkS (id ver : Int) (s : ByteArray) (ps : List Part) (en : List Int) : Int := chk0 id s ps en (!decide (0 ≤ id ∧ id ≤ 9999 ∧ 1 ≤ ver ∧ ver ≤ 8))

theorem any_or {α : Type} (p q : α → Bool) : ∀ l : List α, l.any (fun x => p x || q x) = (l.any p || l.any q)
  | [] => rfl
  | x :: l => by
    rw [List.any_cons, List.any_cons, List.any_cons, any_or p q l]
    cases p x <;> cases q x <;> simp

section
variable (id ver : Int) (s : ByteArray) (ps : List Part) (en : List Int) (hs : s.size ≤ 1000000000000) (hp : ps.length ≤ 1000000000000) (he : en.length ≤ 1000000000000)
include hs hp he

theorem check_j2 (x : Bool) : Ev (fun k => item_Check.j2 k x id ver s ps en) (chk2 id s ps en x) := by
  refine ev_step ?_ (fun k => by rw [item_Check.j2])
  unfold chk2
  refine ev_ite (fun h => ev_some (by rw [if_pos h])) (fun h => ?_)
  rw [if_neg h]
  refine ev_ite (fun h1 => ev_some (by rw [if_pos h1])) (fun h1 => ?_)
  rw [if_neg h1]
  refine ev_bind (badparts_ev ps hp) (ev_ite (fun h2 => ev_some (by rw [if_pos h2])) (fun h2 => ?_))
  rw [if_neg h2]
  refine ev_bind (ascending_ev en he) ?_
  have e : enB id en = ((List.range en.length).any (badEI id en) || (List.range en.length).any (descI en)) := any_or _ _ _
  rw [e]
  by_cases h3 : (List.range en.length).any (descI en) = true
  · rw [h3, Bool.or_true]
    exact ev_neg (by decide) (ev_some rfl)
  · have h3 : (List.range en.length).any (descI en) = false := by simpa using h3
    rw [h3, Bool.or_false]
    refine ev_pos rfl (ev_bind (enemies_ev en id he) (ev_ite (fun h4 => ev_some (by rw [if_pos h4])) (fun h4 => ev_some (by rw [if_neg h4]))))
theorem check_j1 (x : Bool) : Ev (fun k => item_Check.j1 k x id ver s ps en) (chk1 id s ps en x) := by
  refine ev_step ?_ (fun k => by rw [item_Check.j1])
  unfold chk1
  refine ev_ite (fun h => ev_some (by rw [if_pos h])) (fun h => ?_)
  rw [if_neg h]
  refine ev_ite (fun h1 => ?_) (fun h1 => ?_)
  · rw [if_pos h1]
    exact ev_eq (check_j2 id ver s ps en hs hp he true) rfl
  · rw [if_neg h1]
    exact ev_bind (stem_ev s hs) (check_j2 id ver s ps en hs hp he (stemB s))
theorem check_j0 (x : Bool) : Ev (fun k => item_Check.j0 k x id ver s ps en) (chk0 id s ps en x) := by
  refine ev_step ?_ (fun k => by rw [item_Check.j0])
  unfold chk0
  refine ev_ite (fun h => ev_some (by rw [if_pos h])) (fun h => ?_)
  rw [if_neg h]
  have hj := check_j1 id ver s ps en hs hp he
  refine ev_ite (fun h1 => ?_) (fun h1 => ev_ite (fun h2 => ?_) (fun h2 => ?_))
  · rw [decide_eq_true (.inl h1)]; exact hj true
  · rw [decide_eq_true (.inr (.inl h2))]; exact hj true
  · rw [show decide ((s.size : Int) > 40 ∨ (ps.length : Int) > 6 ∨ (en.length : Int) > 8) = decide ((en.length : Int) > 8) from decide_eq_decide.2 (by omega)]
    exact hj _
theorem check_ev : Ev (fun k => item_Check.f k id ver s ps en) (checkS id ver s ps en) := by
  unfold item_Check.f checkS
  rw [in_eq, in_eq]
  have hj := check_j0 id ver s ps en hs hp he
  refine ev_bind_now rfl (ev_ite (fun h => ev_bind_now rfl ?_) (fun h => ?_))
  · rw [decide_eq_true_eq] at h
    rw [show decide (0 ≤ id ∧ id ≤ 9999 ∧ 1 ≤ ver ∧ ver ≤ 8) = decide (1 ≤ ver ∧ ver ≤ 8) from decide_eq_decide.2 (by omega)]
    exact hj _
  · rw [decide_eq_true_eq] at h
    rw [decide_eq_false (by omega)]
    exact hj true

/-! The reference. -/
theorem rcheck_l2 (d : Nat) : ∀ i : Nat, i + d = en.length → Ev (fun k => awardingbodyref06_Check.l2 k (i : Int) id ver s ps en) (if ((List.range en.length).drop i).any (fun i => badEI id en i || descI en i) = true then 9 else 0) := by
  induction d with
  | zero =>
    intro i hi
    refine ev_step ?_ (fun k => by rw [awardingbodyref06_Check.l2])
    rw [List.drop_of_length_le (by simp; omega)]
    exact ev_neg (by omega) (ev_some rfl)
  | succ d ih =>
    intro i hi
    refine ev_step ?_ (fun k => by rw [awardingbodyref06_Check.l2])
    rw [range_drop en.length i (by omega), next_index i en.length (by omega) he, rd_nat]
    have ih := ih (i + 1) (by omega)
    have yes : (badEI id en i || descI en i) = true → Ev (fun _ => some (9 : Int)) (if (i :: (List.range en.length).drop (i + 1)).any (fun i => badEI id en i || descI en i) = true then 9 else 0) := fun h => ev_some (by rw [if_pos (by rw [List.any_cons, h, Bool.true_or])])
    have no : (badEI id en i || descI en i) = false → Ev (fun k => awardingbodyref06_Check.l2 k ((i + 1 : Nat) : Int) id ver s ps en) (if (i :: (List.range en.length).drop (i + 1)).any (fun i => badEI id en i || descI en i) = true then 9 else 0) := fun h => ev_eq ih (by rw [List.any_cons, h, Bool.false_or])
    have be : ∀ p : Prop, [Decidable p] → (p ↔ (en.getD i 0 < 0 ∨ 9999 < en.getD i 0 ∨ en.getD i 0 = id)) → badEI id en i = decide p := fun p _ h => decide_eq_decide.2 h.symm
    refine ev_pos (by omega) (ev_pos (by omega) (ev_ite (fun h1 => ?_) (fun h1 => ev_ite (fun h2 => ?_) (fun h2 => ev_ite (fun h3 => ?_) (fun h3 => ?_)))))
    · exact yes (by rw [be True ⟨fun _ => .inl h1, fun _ => trivial⟩]; rfl)
    · exact yes (by rw [be True ⟨fun _ => .inr (.inl (by omega)), fun _ => trivial⟩]; rfl)
    · exact yes (by rw [be True ⟨fun _ => .inr (.inr h3), fun _ => trivial⟩]; rfl)
    · have hb : badEI id en i = false := by rw [be False ⟨fun h => h.elim, fun h => by omega⟩]; rfl
      refine ev_ite (fun h4 => ?_) (fun h4 => ?_)
      · rw [rd_pred en i (by omega) (by omega), rd_nat]
        refine ev_pos (by omega) (ev_pos (by omega) (ev_ite (fun h5 => ?_) (fun h5 => ?_)))
        · exact yes (by rw [hb, Bool.false_or]; exact decide_eq_true ⟨by omega, h5⟩)
        · exact no (by rw [hb, Bool.false_or]; exact decide_eq_false (fun h6 => h5 h6.2))
      · exact no (by rw [hb, Bool.false_or]; exact decide_eq_false (fun h6 => by omega))
theorem rcheck_l1 (d : Nat) : ∀ i : Nat, i + d = ps.length → Ev (fun k => awardingbodyref06_Check.l1 k (i : Int) id ver s ps en) (if (ps.drop i).any badP = true then 1 else if enB id en then 9 else 0) := by
  induction d with
  | zero =>
    intro i hi
    refine ev_step ?_ (fun k => by rw [awardingbodyref06_Check.l1])
    rw [List.drop_of_length_le (by omega)]
    have := rcheck_l2 id ver s ps en hs hp he en.length 0 (by omega)
    rw [List.drop_zero] at this
    exact ev_neg (by omega) this
  | succ d ih =>
    intro i hi
    refine ev_step ?_ (fun k => by rw [awardingbodyref06_Check.l1])
    rw [rdp_nat, drop_cons_at ps z23 i (by omega), next_index i ps.length (by omega) hp]
    refine ev_pos (by omega) (ev_pos (by omega) (ev_bind (rpart_ev _ _ _ _ _ _) (ev_ite (fun h => ev_eq (ih (i + 1) (by omega)) ?_) (fun h => ev_some ?_))))
    · have : badP (ps.getD i z23) = false := by unfold badP pB; rw [h]; rfl
      simp only [List.any_cons, this, Bool.false_or]
    · have h : pB (ps.getD i z23) = false := by simpa [pB] using h
      have : badP (ps.getD i z23) = true := by unfold badP; rw [h]; rfl
      simp only [List.any_cons, this, Bool.true_or, if_true]
theorem rcheck_l0 (d : Nat) : ∀ i : Nat, i + d = s.size → Ev (fun k => awardingbodyref06_Check.l0 k (i : Int) id ver s ps en) (chk2 id s ps en (((List.range s.size).drop i).any fun i => badC (bt s i))) := by
  induction d with
  | zero =>
    intro i hi
    refine ev_step ?_ (fun k => by rw [awardingbodyref06_Check.l0])
    rw [List.drop_of_length_le (by simp; omega)]
    show Ev _ (chk2 id s ps en false)
    unfold chk2
    rw [if_neg (by decide : ¬ (false = true))]
    refine ev_neg (by omega) (ev_ite (fun h => ev_some ?_) (fun h => ?_))
    · rw [if_pos h]
    · rw [if_neg h]
      have := rcheck_l1 id ver s ps en hs hp he ps.length 0 (by omega)
      rw [List.drop_zero] at this
      exact this
  | succ d ih =>
    intro i hi
    refine ev_step ?_ (fun k => by rw [awardingbodyref06_Check.l0])
    rw [range_drop s.size i (by omega), next_index i s.size (by omega) hs, List.any_cons]
    refine ev_pos (by omega) (ev_pos (by omega) (ev_ite (fun h => ev_some ?_) (fun h => ev_ite (fun h2 => ev_some ?_) (fun h2 => ev_eq (ih (i + 1) (by omega)) ?_))))
    · rw [show badC (bt s (i : Int)) = true from decide_eq_true (.inl h), Bool.true_or]; rfl
    · rw [show badC (bt s (i : Int)) = true from decide_eq_true (.inr (by omega)), Bool.true_or]; rfl
    · rw [show badC (bt s (i : Int)) = false from decide_eq_false (by omega), Bool.false_or]
theorem rcheck_j1 (x : Bool) : Ev (fun k => awardingbodyref06_Check.j1 k x id ver s ps en) (chk1 id s ps en x) := by
  refine ev_step ?_ (fun k => by rw [awardingbodyref06_Check.j1])
  unfold chk1
  refine ev_ite (fun h => ev_some (by rw [if_pos h])) (fun h => ?_)
  rw [if_neg h]
  refine ev_ite (fun h1 => ev_some (by rw [if_pos h1])) (fun h1 => ?_)
  rw [if_neg h1]
  have := rcheck_l0 id ver s ps en hs hp he s.size 0 (by omega)
  rw [List.drop_zero] at this
  exact this
theorem rcheck_j0 (x : Bool) : Ev (fun k => awardingbodyref06_Check.j0 k x id ver s ps en) (chk0 id s ps en x) := by
  refine ev_step ?_ (fun k => by rw [awardingbodyref06_Check.j0])
  unfold chk0
  refine ev_ite (fun h => ev_some (by rw [if_pos h])) (fun h => ?_)
  rw [if_neg h]
  have hj := rcheck_j1 id ver s ps en hs hp he
  refine ev_ite (fun h1 => ?_) (fun h1 => ev_ite (fun h2 => ?_) (fun h2 => ?_))
  · rw [decide_eq_true (.inl h1)]; exact hj true
  · rw [decide_eq_true (.inr (.inl h2))]; exact hj true
  · rw [show decide ((s.size : Int) > 40 ∨ (ps.length : Int) > 6 ∨ (en.length : Int) > 8) = decide ((en.length : Int) > 8) from decide_eq_decide.2 (by omega)]
    exact hj _
theorem rcheck_ev : Ev (fun k => awardingbodyref06_Check.f k id ver s ps en) (checkS id ver s ps en) := by
  unfold awardingbodyref06_Check.f checkS
  have hj := rcheck_j0 id ver s ps en hs hp he
  refine ev_ite (fun h => ?_) (fun h1 => ev_ite (fun h => ?_) (fun h2 => ev_ite (fun h => ?_) (fun h3 => ?_)))
  · rw [decide_eq_false (by omega)]; exact hj true
  · rw [decide_eq_false (by omega)]; exact hj true
  · rw [decide_eq_false (by omega)]; exact hj true
  · rw [← decide_not, show decide (¬ (0 ≤ id ∧ id ≤ 9999 ∧ 1 ≤ ver ∧ ver ≤ 8)) = decide (ver > 8) from decide_eq_decide.2 (by omega)]
    exact hj _
end

/-! Total. -/
def sumW (l : List Part) (n : Int) : Int := l.foldl (fun s p => wrap64 (s + p.f1)) n
theorem sum_loop (l : List Part) (hl : l.length ≤ 1000000000000) (d : Nat) : ∀ (i : Nat) (n : Int), i + d = l.length → Ev (fun k => item_sum.l0 k n l (l.length : Int) (i : Int)) (sumW (l.drop i) n) := by
  induction d with
  | zero =>
    intro i n hi
    refine ev_step ?_ (fun k => by rw [item_sum.l0])
    rw [List.drop_of_length_le (by omega)]
    exact ev_neg (by omega) (ev_some rfl)
  | succ d ih =>
    intro i n hi
    refine ev_step ?_ (fun k => by rw [item_sum.l0])
    rw [rdp_nat, drop_cons_at l z23 i (by omega), next_index i l.length (by omega) hl]
    exact ev_pos (by omega) (ev_pos (by omega) (ev_pos (by omega) (ih (i + 1) _ (by omega))))
theorem sum_ev (l : List Part) (hl : l.length ≤ 1000000000000) : Ev (fun k => item_sum.f k l) (sumW l 0) := sum_loop l hl l.length 0 0 (by omega)
theorem rtotal_loop (id ver : Int) (s : ByteArray) (l : List Part) (en : List Int) (hl : l.length ≤ 1000000000000) (d : Nat) : ∀ (i : Nat) (n : Int), i + d = l.length → Ev (fun k => awardingbodyref06_Total.l0 k n (i : Int) id ver s l en) (sumW (l.drop i) n) := by
  induction d with
  | zero =>
    intro i n hi
    refine ev_step ?_ (fun k => by rw [awardingbodyref06_Total.l0])
    rw [List.drop_of_length_le (by omega)]
    exact ev_neg (by omega) (ev_some rfl)
  | succ d ih =>
    intro i n hi
    refine ev_step ?_ (fun k => by rw [awardingbodyref06_Total.l0])
    rw [rdp_nat, drop_cons_at l z23 i (by omega), next_index i l.length (by omega) hl]
    exact ev_pos (by omega) (ev_pos (by omega) (ih (i + 1) _ (by omega)))
def totalS (id ver : Int) (s : ByteArray) (ps : List Part) (en : List Int) : Int := if checkS id ver s ps en = 0 then sumW ps 0 else 0
theorem total_ev (id ver : Int) (s : ByteArray) (ps : List Part) (en : List Int) (hs : s.size ≤ 1000000000000) (hp : ps.length ≤ 1000000000000) (he : en.length ≤ 1000000000000) : Ev (fun k => item_Total.f k id ver s ps en) (totalS id ver s ps en) := by
  unfold item_Total.f totalS
  refine ev_bind (check_ev id ver s ps en hs hp he) (ev_ite (fun h => ?_) (fun h => ev_some (by rw [if_neg h])))
  rw [if_pos h]
  exact ev_bind (sum_ev ps hp) (ev_some rfl)
theorem rtotal_ev (id ver : Int) (s : ByteArray) (ps : List Part) (en : List Int) (hs : s.size ≤ 1000000000000) (hp : ps.length ≤ 1000000000000) (he : en.length ≤ 1000000000000) : Ev (fun k => awardingbodyref06_Total.f k id ver s ps en) (totalS id ver s ps en) := by
  unfold awardingbodyref06_Total.f totalS
  refine ev_bind (rcheck_ev id ver s ps en hs hp he) (ev_ite (fun h => ?_) (fun h => ev_some (by rw [if_neg h])))
  rw [if_pos h]
  exact rtotal_loop id ver s ps en hp ps.length 0 0 (by omega)

end Go.Proofs.Ytinmdoemkejanaa.Pure
