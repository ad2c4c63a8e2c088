/- ItemEnemies: for every tape the law answers true. -/
import Derived.Test.YtinmdoemkejanaaPrint17
import Derived.Test.YtinmdoemkejanaaItemGen
namespace Go.Proofs.Ytinmdoemkejanaa.Pure
open Go.RowKit Go.Proofs.Ytinmdoemkejanaa.Print Go.Proofs.YtinmdoemkejanaaW.PrintWords Go.Proofs.YtinmdoemkejanaaW.PrintLast Go.Proofs.YtinmdoemkejanaaW.PrintMore
set_option linter.unusedVariables false
set_option linter.unusedSimpArgs false

theorem index_loop (l : List Int) (v : Int) (hl : l.length ≤ 1000000000000) (d : Nat) : ∀ i : Nat, i + d = l.length →
    ∃ r, Ev (fun k => slices_Index_int_int.l0 k l v (l.length : Int) (i : Int)) r ∧ (0 ≤ r ↔ (l.drop i).any (fun x => decide (x = v)) = true) := by
  induction d with
  | zero =>
    intro i hi
    refine ⟨-1, ?_, ?_⟩
    · refine ev_step ?_ (fun k => by rw [slices_Index_int_int.l0])
      exact ev_neg (by omega) (ev_some rfl)
    · rw [List.drop_of_length_le (by omega)]; simp
  | succ d ih =>
    intro i hi
    obtain ⟨r, hr, hk⟩ := ih (i + 1) (by omega)
    rw [drop_cons_at l 0 i (by omega), List.any_cons]
    by_cases h : l.getD i 0 = v
    · refine ⟨i, ?_, by rw [decide_eq_true h, Bool.true_or]; exact ⟨fun _ => rfl, fun _ => by omega⟩⟩
      refine ev_step ?_ (fun k => by rw [slices_Index_int_int.l0])
      rw [rd_nat]
      exact ev_pos (by omega) (ev_pos (by omega) (ev_pos (by omega) (ev_pos (by first | exact h | exact h.symm) (ev_some rfl))))
    · refine ⟨r, ?_, by rw [hk, decide_eq_false h, Bool.false_or]⟩
      refine ev_step ?_ (fun k => by rw [slices_Index_int_int.l0])
      rw [rd_nat, next_index i l.length (by omega) hl]
      exact ev_pos (by omega) (ev_pos (by omega) (ev_pos (by omega) (ev_neg (by first | exact h | exact fun e => h e.symm) hr)))
def hasB (l : List Int) (v : Int) : Bool := l.any (fun x => decide (x = v))
theorem contains_ev (l : List Int) (v : Int) (hl : l.length ≤ 1000000000000) : Ev (fun k => slices_Contains_int_int.f k l v) (hasB l v) := by
  obtain ⟨r, hr, hk⟩ := index_loop l v hl l.length 0 (by omega)
  unfold slices_Contains_int_int.f
  exact ev_contains (g := fun k => slices_Index_int_int.f k l v) hr (by rw [List.drop_zero] at hk; exact hk)
theorem has_loop (l : List Int) (v : Int) (hl : l.length ≤ 1000000000000) (d : Nat) : ∀ i : Nat, i + d = l.length →
    Ev (fun k => awardingbodyref06_Has.l0 k l v (i : Int)) ((l.drop i).any (fun x => decide (x = v))) := by
  induction d with
  | zero =>
    intro i hi
    refine ev_step ?_ (fun k => by rw [awardingbodyref06_Has.l0])
    rw [List.drop_of_length_le (by omega)]
    exact ev_neg (by omega) (ev_some rfl)
  | succ d ih =>
    intro i hi
    refine ev_step ?_ (fun k => by rw [awardingbodyref06_Has.l0])
    rw [drop_cons_at l 0 i (by omega), List.any_cons, rd_nat, next_index i l.length (by omega) hl]
    refine ev_pos (by omega) (ev_pos (by omega) (ev_ite (fun h => ev_some ?_) (fun h => ev_eq (ih (i + 1) (by omega)) ?_)))
    · rw [decide_eq_true h, Bool.true_or]
    · rw [decide_eq_false h, Bool.false_or]
theorem has_ev (l : List Int) (v : Int) (hl : l.length ≤ 1000000000000) : Ev (fun k => awardingbodyref06_Has.f k l v) (hasB l v) := by
  have := has_loop l v hl l.length 0 (by omega)
  rw [List.drop_zero] at this
  exact this

section
variable (i v : Int) (s : ByteArray) (ps : List Part) (en : List Int) (j w : Int) (t : ByteArray) (qs : List Part) (fo : List Int)
def enemyS : Bool := if checkS i v s ps en = 0 then (if checkS j w t qs fo = 0 then (if i = j then false else (if hasB en j = true then true else hasB fo i)) else false) else false
theorem enemy_ev (h1 : s.size ≤ 1000000000000) (h2 : ps.length ≤ 1000000000000) (h3 : en.length ≤ 1000000000000) (h4 : t.size ≤ 1000000000000) (h5 : qs.length ≤ 1000000000000) (h6 : fo.length ≤ 1000000000000) :
    Ev (fun k => item_Enemy.f k i v s ps en j w t qs fo) (enemyS i v s ps en j w t qs fo) := by
  unfold item_Enemy.f enemyS
  refine ev_bind (check_ev i v s ps en h1 h2 h3) (ev_ite (fun c1 => ?_) (fun c1 => ev_some (by rw [if_neg c1])))
  rw [if_pos c1]
  refine ev_bind (check_ev j w t qs fo h4 h5 h6) (ev_ite (fun c2 => ?_) (fun c2 => ev_some (by rw [if_neg c2])))
  rw [if_pos c2]
  refine ev_ite (fun c3 => ev_some (by rw [if_pos c3])) (fun c3 => ?_)
  rw [if_neg c3]
  refine ev_bind (contains_ev en j h3) (ev_ite (fun c4 => ev_some (by rw [if_pos c4])) (fun c4 => ?_))
  rw [if_neg c4]
  exact ev_bind (contains_ev fo i h6) (ev_some rfl)
theorem renemy_ev (h1 : s.size ≤ 1000000000000) (h2 : ps.length ≤ 1000000000000) (h3 : en.length ≤ 1000000000000) (h4 : t.size ≤ 1000000000000) (h5 : qs.length ≤ 1000000000000) (h6 : fo.length ≤ 1000000000000) :
    Ev (fun k => awardingbodyref06_Enemy.f k i v s ps en j w t qs fo) (enemyS i v s ps en j w t qs fo) := by
  unfold awardingbodyref06_Enemy.f enemyS
  refine ev_bind (rcheck_ev i v s ps en h1 h2 h3) (ev_ite (fun c1 => ?_) (fun c1 => ev_some (by rw [if_neg c1])))
  rw [if_pos c1]
  refine ev_bind (rcheck_ev j w t qs fo h4 h5 h6) (ev_ite (fun c2 => ?_) (fun c2 => ev_some (by rw [if_neg c2])))
  rw [if_pos c2]
  refine ev_ite (fun c3 => ev_some (by rw [if_pos c3])) (fun c3 => ?_)
  rw [if_neg c3]
  refine ev_bind (has_ev en j h3) (ev_ite (fun c4 => ev_some (by rw [if_pos c4])) (fun c4 => ?_))
  rw [if_neg c4]
  exact ev_bind (has_ev fo i h6) (ev_some rfl)
theorem enemy_sym : enemyS i v s ps en j w t qs fo = enemyS j w t qs fo i v s ps en := by
  unfold enemyS
  by_cases c1 : checkS i v s ps en = 0 <;> by_cases c2 : checkS j w t qs fo = 0 <;> by_cases c3 : i = j <;> cases c4 : hasB en j <;> cases c5 : hasB fo i <;> simp [c1, c2, c3, c4, c5, Ne.symm, eq_comm]
theorem enemy_self : enemyS i v s ps en i v s ps en = false := by
  unfold enemyS
  split
  · rw [if_pos rfl]
  · rfl
end

theorem ItemEnemies : awardingbodylaw06_ItemEnemies.Pure := by
  intro l _ _ _
  obtain ⟨M, h0, hp⟩ := new_ok l
  obtain ⟨a, q1, h1, hq1, _⟩ := next_ok hp 3 (by omega)
  obtain ⟨i, v, s, ps, en, q2, h2, hq2, hs, hps, hen, _⟩ := item_gen hq1 a 1 8 (by omega)
  obtain ⟨b, q3, h3, hq3, _⟩ := next_ok hq2 3 (by omega)
  obtain ⟨j, w, t, qs, fo, q4, h4, hq4, ht, hqs, hfo, _⟩ := item_gen hq3 b 1 8 (by omega)
  have ab := enemy_ev i v s ps en j w t qs fo (by omega) (by omega) (by omega) (by omega) (by omega) (by omega)
  have rab := renemy_ev i v s ps en j w t qs fo (by omega) (by omega) (by omega) (by omega) (by omega) (by omega)
  have ba := enemy_ev j w t qs fo i v s ps en (by omega) (by omega) (by omega) (by omega) (by omega) (by omega)
  have aa := enemy_ev i v s ps en i v s ps en (by omega) (by omega) (by omega) (by omega) (by omega) (by omega)
  rw [← enemy_sym] at ba
  rw [enemy_self] at aa
  refine Ev.rounds (g := fun k => awardingbodylaw06_ItemEnemies.f k l) ?_
  unfold awardingbodylaw06_ItemEnemies.f
  refine ev_bind_now h0 (ev_bind_now h1 (ev_bind h2 (ev_bind_now h3 (ev_bind h4 ?_))))
  exact ev_bind ab (ev_bind rab (ev_pos (by simp) (ev_bind ab (ev_bind ba (ev_pos (by simp) (ev_bind aa (ev_neg (by decide) (ev_bind awake_ev (ev_some rfl)))))))))

end Go.Proofs.Ytinmdoemkejanaa.Pure
