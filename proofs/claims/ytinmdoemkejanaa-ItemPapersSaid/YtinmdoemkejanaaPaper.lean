/- Papers: what ValidPaper, PaperTotal and Choices come to, program and reference alike; the sum of valid parts. Conditions: lists of fewer than 1000000000000 elements. -/
import Derived.Test.YtinmdoemkejanaaPrint19
import Derived.Test.YtinmdoemkejanaaPrint28
import Derived.Test.YtinmdoemkejanaaPartGen
namespace Go.Proofs.Ytinmdoemkejanaa.Pure
open Go.RowKit Go.Proofs.Ytinmdoemkejanaa.Print Go.Proofs.YtinmdoemkejanaaW.PrintWords Go.Proofs.YtinmdoemkejanaaW.PrintLast Go.Proofs.YtinmdoemkejanaaW.PrintMore
set_option linter.unusedVariables false

def vpS (c v : Int) (ps : List Part) : Bool := if 0 ≤ c ∧ c ≤ 31 ∧ 0 ≤ v ∧ v ≤ 3 ∧ 1 ≤ ps.length ∧ ps.length ≤ 24 then (if ps.any badP = true then false else decide (sumW ps 0 ≤ 200)) else false
theorem vp_ev (c v : Int) (ps : List Part) (hp : ps.length ≤ 1000000000000) : Ev (fun k => item_ValidPaper.f k c v ps) (vpS c v ps) := by
  unfold item_ValidPaper.f vpS
  rw [in_eq, in_eq, in_eq]
  refine ev_bind_now rfl (ev_ite (fun h1 => ?_) (fun h1 => ?_))
  · rw [decide_eq_true_eq] at h1
    refine ev_bind_now rfl (ev_ite (fun h2 => ?_) (fun h2 => ?_))
    · rw [decide_eq_true_eq] at h2
      refine ev_bind_now rfl (ev_ite (fun h3 => ?_) (fun h3 => ?_))
      · rw [decide_eq_true_eq] at h3
        rw [if_pos (by omega)]
        refine ev_bind (badparts_ev ps hp) (ev_ite (fun h4 => ev_some (by rw [if_pos h4])) (fun h4 => ?_))
        rw [if_neg h4]
        exact ev_bind (sum_ev ps hp) (ev_some rfl)
      · rw [decide_eq_true_eq] at h3
        rw [if_neg (by omega)]; exact ev_some rfl
    · rw [decide_eq_true_eq] at h2
      rw [if_neg (by omega)]; exact ev_some rfl
  · rw [decide_eq_true_eq] at h1
    rw [if_neg (by omega)]; exact ev_some rfl
theorem rvp_loop (c v : Int) (ps : List Part) (hp : ps.length ≤ 1000000000000) (d : Nat) : ∀ (i : Nat) (n : Int), i + d = ps.length →
    Ev (fun k => awardingbodyref06_ValidPaper.l0 k n (i : Int) c v ps) (if (ps.drop i).any badP = true then false else decide (sumW (ps.drop i) n ≤ 200)) := by
  induction d with
  | zero =>
    intro i n hi
    refine ev_step ?_ (fun k => by rw [awardingbodyref06_ValidPaper.l0])
    rw [List.drop_of_length_le (by omega)]
    exact ev_neg (by omega) (ev_some rfl)
  | succ d ih =>
    intro i n hi
    refine ev_step ?_ (fun k => by rw [awardingbodyref06_ValidPaper.l0])
    rw [rdp_nat, drop_cons_at ps z23 i (by omega), next_index i ps.length (by omega) hp]
    refine ev_pos (by omega) (ev_pos (by omega) (ev_bind (rpart_ev _ _ _ _ _ _) (ev_ite (fun h => ev_eq (ih (i + 1) _ (by omega)) ?_) (fun h => ev_some ?_))))
    · have : badP (ps.getD i z23) = false := by unfold badP pB; rw [h]; rfl
      simp only [List.any_cons, this, Bool.false_or]
      rfl
    · have h : pB (ps.getD i z23) = false := by simpa [pB] using h
      have : badP (ps.getD i z23) = true := by unfold badP; rw [h]; rfl
      simp only [List.any_cons, this, Bool.true_or, if_true]
theorem rvp_ev (c v : Int) (ps : List Part) (hp : ps.length ≤ 1000000000000) : Ev (fun k => awardingbodyref06_ValidPaper.f k c v ps) (vpS c v ps) := by
  unfold awardingbodyref06_ValidPaper.f vpS
  have no : ¬ (0 ≤ c ∧ c ≤ 31 ∧ 0 ≤ v ∧ v ≤ 3 ∧ 1 ≤ ps.length ∧ ps.length ≤ 24) → ∀ b, b = true → Ev (fun k => awardingbodyref06_ValidPaper.j0 k b c v ps) (if 0 ≤ c ∧ c ≤ 31 ∧ 0 ≤ v ∧ v ≤ 3 ∧ 1 ≤ ps.length ∧ ps.length ≤ 24 then (if ps.any badP = true then false else decide (sumW ps 0 ≤ 200)) else false) := by
    intro h b hb
    refine ev_step ?_ (fun k => by rw [awardingbodyref06_ValidPaper.j0])
    rw [if_neg h]
    exact ev_pos hb (ev_some rfl)
  refine ev_ite (fun h => no (by omega) _ rfl) (fun h1 => ev_ite (fun h => no (by omega) _ rfl) (fun h2 => ev_ite (fun h => no (by omega) _ rfl) (fun h3 => ev_ite (fun h => no (by omega) _ rfl) (fun h4 => ev_ite (fun h => no (by omega) _ rfl) (fun h5 => ?_)))))
  by_cases h6 : (ps.length : Int) > 24
  · exact no (by omega) _ (decide_eq_true h6)
  · refine ev_step ?_ (fun k => by rw [awardingbodyref06_ValidPaper.j0])
    rw [if_pos (by omega), decide_eq_false h6]
    have := rvp_loop c v ps hp ps.length 0 0 (by omega)
    rw [List.drop_zero] at this
    exact ev_neg (by decide) this

def ptS (c v : Int) (ps : List Part) : Int := if vpS c v ps = true then sumW ps 0 else 0
theorem pt_ev (c v : Int) (ps : List Part) (hp : ps.length ≤ 1000000000000) : Ev (fun k => item_PaperTotal.f k c v ps) (ptS c v ps) := by
  unfold item_PaperTotal.f ptS
  refine ev_bind (vp_ev c v ps hp) (ev_ite (fun h => ?_) (fun h => ev_some (by rw [if_neg h])))
  rw [if_pos h]
  exact ev_bind (sum_ev ps hp) (ev_some rfl)
theorem rpt_loop (c v : Int) (l : List Part) (hl : l.length ≤ 1000000000000) (d : Nat) : ∀ (i : Nat) (n : Int), i + d = l.length → Ev (fun k => awardingbodyref06_PaperTotal.l0 k n (i : Int) c v l) (sumW (l.drop i) n) := by
  induction d with
  | zero =>
    intro i n hi
    refine ev_step ?_ (fun k => by rw [awardingbodyref06_PaperTotal.l0])
    rw [List.drop_of_length_le (by omega)]
    exact ev_neg (by omega) (ev_some rfl)
  | succ d ih =>
    intro i n hi
    refine ev_step ?_ (fun k => by rw [awardingbodyref06_PaperTotal.l0])
    rw [rdp_nat, drop_cons_at l z23 i (by omega), next_index i l.length (by omega) hl]
    exact ev_pos (by omega) (ev_pos (by omega) (ih (i + 1) _ (by omega)))
theorem rpt_ev (c v : Int) (ps : List Part) (hp : ps.length ≤ 1000000000000) : Ev (fun k => awardingbodyref06_PaperTotal.f k c v ps) (ptS c v ps) := by
  unfold awardingbodyref06_PaperTotal.f ptS
  refine ev_bind (rvp_ev c v ps hp) (ev_ite (fun h => ?_) (fun h => ev_some (by rw [if_neg h])))
  rw [if_pos h]
  exact rpt_loop c v ps hp ps.length 0 0 (by omega)

/-- The numbers of the choice parts. -/
def ch : List Part → Nat → List Int
  | [], _ => []
  | p :: l, i => if p.f0 = 2 then (i : Int) :: ch l (i + 1) else ch l (i + 1)
theorem ch_length : ∀ (l : List Part) (i : Nat), (ch l i).length ≤ l.length
  | [], _ => by simp [ch]
  | p :: l, i => by
    have := ch_length l (i + 1)
    unfold ch
    split
    · simp only [List.length_cons]; omega
    · simp only [List.length_cons]; omega
theorem ch_loop (l : List Part) (hl : l.length ≤ 1000000000000) (d : Nat) : ∀ (i : Nat) (acc : List Int), i + d = l.length → acc.length ≤ i → Ev (fun k => item_Choices.l0 k acc l (l.length : Int) (i : Int)) (acc ++ ch (l.drop i) i) := by
  induction d with
  | zero =>
    intro i acc hi ha
    refine ev_step ?_ (fun k => by rw [item_Choices.l0])
    rw [List.drop_of_length_le (by omega), ch, List.append_nil]
    exact ev_neg (by omega) (ev_some rfl)
  | succ d ih =>
    intro i acc hi ha
    refine ev_step ?_ (fun k => by rw [item_Choices.l0])
    rw [rdp_nat, drop_cons_at l z23 i (by omega), next_index i l.length (by omega) hl, ch]
    refine ev_pos (by omega) (ev_pos (by omega) (ev_pos (by omega) (ev_ite (fun h => ev_pos (by omega) (ev_eq (ih (i + 1) _ (by omega) (by simp; omega)) ?_)) (fun h => ev_eq (ih (i + 1) _ (by omega) (by omega)) ?_))))
    · rw [if_pos h, List.append_assoc]; rfl
    · rw [if_neg h]
theorem rch_loop (c v : Int) (l : List Part) (hl : l.length ≤ 1000000000000) (d : Nat) : ∀ (i : Nat) (acc : List Int), i + d = l.length → acc.length ≤ i → Ev (fun k => awardingbodyref06_Choices.l0 k acc (i : Int) c v l) (acc ++ ch (l.drop i) i) := by
  induction d with
  | zero =>
    intro i acc hi ha
    refine ev_step ?_ (fun k => by rw [awardingbodyref06_Choices.l0])
    rw [List.drop_of_length_le (by omega), ch, List.append_nil]
    exact ev_neg (by omega) (ev_some rfl)
  | succ d ih =>
    intro i acc hi ha
    refine ev_step ?_ (fun k => by rw [awardingbodyref06_Choices.l0])
    rw [rdp_nat, drop_cons_at l z23 i (by omega), next_index i l.length (by omega) hl, ch]
    refine ev_pos (by omega) (ev_pos (by omega) (ev_ite (fun h => ev_pos (by omega) (ev_eq (ih (i + 1) _ (by omega) (by simp; omega)) ?_)) (fun h => ev_eq (ih (i + 1) _ (by omega) (by omega)) ?_)))
    · rw [if_pos h, List.append_assoc]; rfl
    · rw [if_neg h]
def chS (c v : Int) (ps : List Part) : List Int := if vpS c v ps = true then ch ps 0 else []
theorem ch_ev (c v : Int) (ps : List Part) (hp : ps.length ≤ 1000000000000) : Ev (fun k => item_Choices.f k c v ps) (chS c v ps) := by
  unfold item_Choices.f chS
  refine ev_bind (vp_ev c v ps hp) (ev_ite (fun h => ?_) (fun h => ev_some (by rw [if_neg h])))
  rw [if_pos h]
  exact ch_loop ps hp ps.length 0 [] (by omega) (by simp)
theorem rch_ev (c v : Int) (ps : List Part) (hp : ps.length ≤ 1000000000000) : Ev (fun k => awardingbodyref06_Choices.f k c v ps) (chS c v ps) := by
  unfold awardingbodyref06_Choices.f chS
  refine ev_bind (rvp_ev c v ps hp) (ev_ite (fun h => ?_) (fun h => ev_some (by rw [if_neg h])))
  rw [if_pos h]
  exact rch_loop c v ps hp ps.length 0 [] (by omega) (by simp)
theorem chS_length (c v : Int) (ps : List Part) : (chS c v ps).length ≤ ps.length := by
  unfold chS
  split
  · exact ch_length ps 0
  · simp

/-- The marks of valid parts. -/
theorem pB_f1 {p : Part} (h : pB p = true) : 1 ≤ p.f1 ∧ p.f1 ≤ 40 := by
  unfold pB partB rangeB at h
  rw [Bool.and_eq_true, decide_eq_true_eq] at h
  exact ⟨h.1.1, h.1.2.1⟩
theorem sumW_ok : ∀ (l : List Part) (n : Int), (∀ p ∈ l, pB p = true) → 0 ≤ n → n + 40 * (l.length : Int) ≤ 1000000000 → n + (l.length : Int) ≤ sumW l n ∧ sumW l n ≤ n + 40 * (l.length : Int)
  | [], n, _, _, _ => by simp [sumW]
  | p :: l, n, h, hn, hb => by
    have hp := pB_f1 (h p (by simp))
    simp only [List.length_cons] at hb ⊢
    have := sumW_ok l (n + p.f1) (fun q hq => h q (by simp [hq])) (by omega) (by omega)
    have e : sumW (p :: l) n = sumW l (wrap64 (n + p.f1)) := rfl
    rw [e, wrap_id (by omega) (by omega)]
    omega

end Go.Proofs.Ytinmdoemkejanaa.Pure
