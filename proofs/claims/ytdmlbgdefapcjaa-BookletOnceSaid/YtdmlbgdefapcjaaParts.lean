/- Parts and papers: what ValidPart and ValidPaper come to, program and reference alike. Conditions: lists of fewer than 1000000000000 elements. -/
import Derived.Test.YtdmlbgdefapcjaaPrint1
import Derived.Test.YtdmlbgdefapcjaaPrint5
import Derived.Test.YtdmlbgdefapcjaaTape
namespace Go.Proofs.Ytdmlbgdefapcjaa.Pure
open Go.RowKit Go.Proofs.Ytdmlbgdefapcjaa.Print Go.Proofs.YtdmlbgdefapcjaaW.PrintWords Go.Proofs.YtdmlbgdefapcjaaW.PrintLast Go.Proofs.YtdmlbgdefapcjaaW.PrintMore
set_option linter.unusedVariables false

abbrev Part := S23
theorem in_eq (a lo hi : Int) : item_in.f a lo hi = some (decide (lo ≤ a ∧ a ≤ hi)) := by
  unfold item_in.f
  by_cases h : a ≥ lo
  · rw [if_pos h]; exact congrArg some (decide_eq_decide.2 (by omega))
  · rw [if_neg h]; exact congrArg some (decide_eq_false (by omega)).symm

def rangeB (m t o : Int) : Bool := decide (1 ≤ m ∧ m ≤ 40 ∧ 0 ≤ t ∧ t ≤ 15 ∧ 0 ≤ o ∧ o ≤ 5)
def kindB (k op ke : Int) : Bool := decide ((k = 1 ∧ op = 0 ∧ ke = 0) ∨ (k = 2 ∧ 2 ≤ op ∧ op ≤ 5 ∧ 0 ≤ ke ∧ ke < op))
def partB (k m t o op ke : Int) : Bool := rangeB m t o && kindB k op ke

theorem part_j0 (x : Bool) (k m t o op ke : Int) : Ev (fun n => item_ValidPart.j0 n x k m t o op ke) (!x && kindB k op ke) := by
  refine ev_step ?_ (fun k => by rw [item_ValidPart.j0])
  refine ev_ite (fun h => ev_some (by rw [h]; rfl)) (fun h => ?_)
  have hx : x = false := by simpa using h
  rw [hx]
  show Ev _ (true && kindB k op ke)
  rw [Bool.true_and]
  refine ev_ite (fun h1 => ev_ite (fun h2 => ev_some ?_) (fun h2 => ev_some ?_)) (fun h1 => ev_ite (fun h2 => ?_) (fun h2 => ev_some ?_))
  · rw [Bool.eq_iff_iff, beq_iff_eq]; unfold kindB; rw [decide_eq_true_eq]; omega
  · exact (decide_eq_false (by omega)).symm
  · rw [in_eq]
    refine ev_bind_now rfl (ev_ite (fun h3 => ?_) (fun h3 => ev_some ?_))
    · rw [decide_eq_true_eq] at h3
      rw [wrap_id (x := op - 1) (by omega) (by omega), in_eq]
      exact ev_bind_now rfl (ev_some (decide_eq_decide.2 (by omega)))
    · rw [decide_eq_true_eq] at h3
      exact (decide_eq_false (by omega)).symm
  · exact (decide_eq_false (by omega)).symm
theorem flag_part {x : Bool} {k m t o op ke : Int} (h : (!x) = rangeB m t o) : (!x && kindB k op ke) = partB k m t o op ke := by unfold partB; rw [h]
theorem part_ev (k m t o op ke : Int) : Ev (fun n => item_ValidPart.f n k m t o op ke) (partB k m t o op ke) := by
  unfold item_ValidPart.f
  rw [in_eq, in_eq, in_eq]
  refine ev_bind_now rfl (ev_ite (fun h1 => ev_bind_now rfl (ev_ite (fun h2 => ev_bind_now rfl ?_) (fun h2 => ?_))) (fun h1 => ?_))
  · rw [decide_eq_true_eq] at h1 h2
    refine ev_eq (part_j0 _ k m t o op ke) (flag_part ?_)
    rw [Bool.not_not]
    exact decide_eq_decide.2 (by omega)
  · rw [decide_eq_true_eq] at h2
    exact ev_eq (part_j0 _ k m t o op ke) (flag_part (decide_eq_false (by omega)).symm)
  · rw [decide_eq_true_eq] at h1
    exact ev_eq (part_j0 _ k m t o op ke) (flag_part (decide_eq_false (by omega)).symm)
theorem rpart_j0 (x : Bool) (k m t o op ke : Int) : Ev (fun n => awardingbodyref06_ValidPart.j0 n x k m t o op ke) (!x && kindB k op ke) := by
  refine ev_step ?_ (fun k => by rw [awardingbodyref06_ValidPart.j0])
  refine ev_ite (fun h => ev_some (by rw [h]; rfl)) (fun h => ?_)
  have hx : x = false := by simpa using h
  rw [hx]
  show Ev _ (true && kindB k op ke)
  rw [Bool.true_and]
  refine ev_ite (fun h1 => ev_ite (fun h2 => ev_some ?_) (fun h2 => ev_some ?_)) (fun h1 => ev_ite (fun h2 => ?_) (fun h2 => ev_some ?_))
  · rw [Bool.eq_iff_iff, beq_iff_eq]; unfold kindB; rw [decide_eq_true_eq]; omega
  · exact (decide_eq_false (by omega)).symm
  · refine ev_ite (fun h3 => ev_ite (fun h4 => ev_ite (fun h5 => ev_some (decide_eq_decide.2 (by omega))) (fun h5 => ev_some ?_)) (fun h4 => ev_some ?_)) (fun h3 => ev_some ?_)
    all_goals exact (decide_eq_false (by omega)).symm
  · exact (decide_eq_false (by omega)).symm
theorem rpart_ev (k m t o op ke : Int) : Ev (fun n => awardingbodyref06_ValidPart.f n k m t o op ke) (partB k m t o op ke) := by
  unfold awardingbodyref06_ValidPart.f
  have bad : ¬ (1 ≤ m ∧ m ≤ 40 ∧ 0 ≤ t ∧ t ≤ 15 ∧ 0 ≤ o ∧ o ≤ 5) → Ev (fun n => awardingbodyref06_ValidPart.j0 n true k m t o op ke) (partB k m t o op ke) := fun h => ev_eq (rpart_j0 _ k m t o op ke) (flag_part (decide_eq_false h).symm)
  refine ev_ite (fun h => bad (by omega)) (fun h1 => ev_ite (fun h => bad (by omega)) (fun h2 => ev_ite (fun h => bad (by omega)) (fun h3 => ev_ite (fun h => bad (by omega)) (fun h4 => ev_ite (fun h => bad (by omega)) (fun h5 => ?_)))))
  refine ev_eq (rpart_j0 _ k m t o op ke) (flag_part ?_)
  unfold rangeB
  rw [← decide_not]
  exact decide_eq_decide.2 (by omega)

def pB (p : Part) : Bool := partB p.f0 p.f1 p.f2 p.f3 p.f4 p.f5
theorem bad_ev (k m t o op ke : Int) : Ev (fun n => item_bad.f n k m t o op ke) (!partB k m t o op ke) := by
  unfold item_bad.f
  exact ev_bind (part_ev k m t o op ke) (ev_some rfl)

theorem range_drop (n i : Nat) (h : i < n) : (List.range n).drop i = i :: (List.range n).drop (i + 1) := by
  rw [drop_cons_at (List.range n) 0 i (by simp; omega)]
  congr 1
  rw [List.getD_eq_getElem?_getD, List.getElem?_range h]; rfl
theorem rd_nat (l : List Int) (i : Nat) : rd l (i : Int) = l.getD i 0 := by unfold rd; rw [Int.toNat_natCast]
theorem rdp_nat (l : List Part) (i : Nat) : rd_T23 l (i : Int) = l.getD i z23 := by unfold rd_T23; rw [Int.toNat_natCast]

/-! Parts: is one of them not valid? -/
def badP (p : Part) : Bool := !pB p
theorem badparts_loop (l : List Part) (hl : l.length ≤ 1000000000000) (d : Nat) : ∀ i : Nat, i + d = l.length →
    ∃ r, Ev (fun k => api_Part_bad_s51.l0 k l (l.length : Int) (i : Int)) r ∧ (0 ≤ r ↔ (l.drop i).any badP = true) := by
  induction d with
  | zero =>
    intro i hi
    refine ⟨-1, ?_, ?_⟩
    · refine ev_step ?_ (fun k => by rw [api_Part_bad_s51.l0])
      exact ev_neg (by omega) (ev_some rfl)
    · rw [List.drop_of_length_le (by omega)]; simp
  | succ d ih =>
    intro i hi
    obtain ⟨r, hr, hk⟩ := ih (i + 1) (by omega)
    rw [drop_cons_at l z23 i (by omega), List.any_cons]
    by_cases h : badP (l.getD i z23) = true
    · refine ⟨i, ?_, by rw [h, Bool.true_or]; exact ⟨fun _ => rfl, fun _ => by omega⟩⟩
      refine ev_step ?_ (fun k => by rw [api_Part_bad_s51.l0])
      rw [rdp_nat]
      exact ev_pos (by omega) (ev_pos (by omega) (ev_pos (by omega) (ev_bind (bad_ev _ _ _ _ _ _) (ev_pos h (ev_some rfl)))))
    · refine ⟨r, ?_, by rw [hk, show badP (l.getD i z23) = false by simpa using h, Bool.false_or]⟩
      refine ev_step ?_ (fun k => by rw [api_Part_bad_s51.l0])
      rw [rdp_nat, next_index i l.length (by omega) hl]
      exact ev_pos (by omega) (ev_pos (by omega) (ev_pos (by omega) (ev_bind (bad_ev _ _ _ _ _ _) (ev_neg h hr))))
theorem ev_contains {g : Nat → Option Int} {r : Int} {b : Bool} (h : Ev g r) (hk : 0 ≤ r ↔ b = true) : Ev (fun k => (g k).bind fun t => some (decide (t ≥ 0))) b := by
  refine ev_bind h (ev_some ?_)
  cases b with
  | true => exact decide_eq_true (hk.2 rfl)
  | false => exact decide_eq_false (fun h2 => by have := hk.1 h2; cases this)
theorem badparts_ev (l : List Part) (hl : l.length ≤ 1000000000000) : Ev (fun k => api_Part_bad_s47.f k l) (l.any badP) := by
  obtain ⟨r, hr, hk⟩ := badparts_loop l hl l.length 0 (by omega)
  unfold api_Part_bad_s47.f
  exact ev_contains (g := fun k => api_Part_bad_s51.f k l) hr (by rw [List.drop_zero] at hk; exact hk)

def sumW (l : List Part) (n : Int) : Int := l.foldl (fun s p => wrap64 (s + p.f1)) n
theorem sum_loop (l : List Part) (hl : l.length ≤ 1000000000000) (d : Nat) : ∀ (i : Nat) (n : Int), i + d = l.length → Ev (fun k => item_sum.l0 k n l (l.length : Int) (i : Int)) (sumW (l.drop i) n) := by
  induction d with
  | zero =>
    intro i n hi
    refine ev_step ?_ (fun k => by rw [item_sum.l0])
    rw [List.drop_of_length_le (by omega)]
    exact ev_neg (by omega) (ev_some rfl)
  | succ d ih =>
    intro i n hi
    refine ev_step ?_ (fun k => by rw [item_sum.l0])
    rw [rdp_nat, drop_cons_at l z23 i (by omega), next_index i l.length (by omega) hl]
    exact ev_pos (by omega) (ev_pos (by omega) (ev_pos (by omega) (ih (i + 1) _ (by omega))))
theorem sum_ev (l : List Part) (hl : l.length ≤ 1000000000000) : Ev (fun k => item_sum.f k l) (sumW l 0) := sum_loop l hl l.length 0 0 (by omega)
def vpS (c v : Int) (ps : List Part) : Bool := if 0 ≤ c ∧ c ≤ 31 ∧ 0 ≤ v ∧ v ≤ 3 ∧ 1 ≤ ps.length ∧ ps.length ≤ 24 then (if ps.any badP = true then false else decide (sumW ps 0 ≤ 200)) else false
theorem vp_ev (c v : Int) (ps : List Part) (hp : ps.length ≤ 1000000000000) : Ev (fun k => item_ValidPaper.f k c v ps) (vpS c v ps) := by
  unfold item_ValidPaper.f vpS
  rw [in_eq, in_eq, in_eq]
  refine ev_bind_now rfl (ev_ite (fun h1 => ?_) (fun h1 => ?_))
  · rw [decide_eq_true_eq] at h1
    refine ev_bind_now rfl (ev_ite (fun h2 => ?_) (fun h2 => ?_))
    · rw [decide_eq_true_eq] at h2
      refine ev_bind_now rfl (ev_ite (fun h3 => ?_) (fun h3 => ?_))
      · rw [decide_eq_true_eq] at h3
        rw [if_pos (by omega)]
        refine ev_bind (badparts_ev ps hp) (ev_ite (fun h4 => ev_some (by rw [if_pos h4])) (fun h4 => ?_))
        rw [if_neg h4]
        exact ev_bind (sum_ev ps hp) (ev_some rfl)
      · rw [decide_eq_true_eq] at h3
        rw [if_neg (by omega)]; exact ev_some rfl
    · rw [decide_eq_true_eq] at h2
      rw [if_neg (by omega)]; exact ev_some rfl
  · rw [decide_eq_true_eq] at h1
    rw [if_neg (by omega)]; exact ev_some rfl
theorem rvp_loop (c v : Int) (ps : List Part) (hp : ps.length ≤ 1000000000000) (d : Nat) : ∀ (i : Nat) (n : Int), i + d = ps.length →
    Ev (fun k => awardingbodyref06_ValidPaper.l0 k n (i : Int) c v ps) (if (ps.drop i).any badP = true then false else decide (sumW (ps.drop i) n ≤ 200)) := by
  induction d with
  | zero =>
    intro i n hi
    refine ev_step ?_ (fun k => by rw [awardingbodyref06_ValidPaper.l0])
    rw [List.drop_of_length_le (by omega)]
    exact ev_neg (by omega) (ev_some rfl)
  | succ d ih =>
    intro i n hi
    refine ev_step ?_ (fun k => by rw [awardingbodyref06_ValidPaper.l0])
    rw [rdp_nat, drop_cons_at ps z23 i (by omega), next_index i ps.length (by omega) hp]
    refine ev_pos (by omega) (ev_pos (by omega) (ev_bind (rpart_ev _ _ _ _ _ _) (ev_ite (fun h => ev_eq (ih (i + 1) _ (by omega)) ?_) (fun h => ev_some ?_))))
    · have : badP (ps.getD i z23) = false := by unfold badP pB; rw [h]; rfl
      simp only [List.any_cons, this, Bool.false_or]
      rfl
    · have h : pB (ps.getD i z23) = false := by simpa [pB] using h
      have : badP (ps.getD i z23) = true := by unfold badP; rw [h]; rfl
      simp only [List.any_cons, this, Bool.true_or, if_true]
theorem rvp_ev (c v : Int) (ps : List Part) (hp : ps.length ≤ 1000000000000) : Ev (fun k => awardingbodyref06_ValidPaper.f k c v ps) (vpS c v ps) := by
  unfold awardingbodyref06_ValidPaper.f vpS
  have no : ¬ (0 ≤ c ∧ c ≤ 31 ∧ 0 ≤ v ∧ v ≤ 3 ∧ 1 ≤ ps.length ∧ ps.length ≤ 24) → ∀ b, b = true → Ev (fun k => awardingbodyref06_ValidPaper.j0 k b c v ps) (if 0 ≤ c ∧ c ≤ 31 ∧ 0 ≤ v ∧ v ≤ 3 ∧ 1 ≤ ps.length ∧ ps.length ≤ 24 then (if ps.any badP = true then false else decide (sumW ps 0 ≤ 200)) else false) := by
    intro h b hb
    refine ev_step ?_ (fun k => by rw [awardingbodyref06_ValidPaper.j0])
    rw [if_neg h]
    exact ev_pos hb (ev_some rfl)
  refine ev_ite (fun h => no (by omega) _ rfl) (fun h1 => ev_ite (fun h => no (by omega) _ rfl) (fun h2 => ev_ite (fun h => no (by omega) _ rfl) (fun h3 => ev_ite (fun h => no (by omega) _ rfl) (fun h4 => ev_ite (fun h => no (by omega) _ rfl) (fun h5 => ?_)))))
  by_cases h6 : (ps.length : Int) > 24
  · exact no (by omega) _ (decide_eq_true h6)
  · refine ev_step ?_ (fun k => by rw [awardingbodyref06_ValidPaper.j0])
    rw [if_pos (by omega), decide_eq_false h6]
    have := rvp_loop c v ps hp ps.length 0 0 (by omega)
    rw [List.drop_zero] at this
    exact ev_neg (by decide) this

/-- The marks of valid parts. -/
theorem pB_f1 {p : Part} (h : pB p = true) : 1 ≤ p.f1 ∧ p.f1 ≤ 40 := by
  unfold pB partB rangeB at h
  rw [Bool.and_eq_true, decide_eq_true_eq] at h
  exact ⟨h.1.1, h.1.2.1⟩
theorem sumW_ok : ∀ (l : List Part) (n : Int), (∀ p ∈ l, pB p = true) → 0 ≤ n → n + 40 * (l.length : Int) ≤ 1000000000 → n + (l.length : Int) ≤ sumW l n ∧ sumW l n ≤ n + 40 * (l.length : Int)
  | [], n, _, _, _ => by simp [sumW]
  | p :: l, n, h, hn, hb => by
    have hp := pB_f1 (h p (by simp))
    simp only [List.length_cons] at hb ⊢
    have := sumW_ok l (n + p.f1) (fun q hq => h q (by simp [hq])) (by omega) (by omega)
    have e : sumW (p :: l) n = sumW l (wrap64 (n + p.f1)) := rfl
    rw [e, wrap_id (by omega) (by omega)]
    omega

end Go.Proofs.Ytdmlbgdefapcjaa.Pure
