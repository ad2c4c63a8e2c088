/- MonitorBetter: for every tape, list of judgements and place the law answers true. -/
import Derived.Test.YtdcfjmkeakkfjaaPrint16
import Derived.Test.YtdcfjmkeakkfjaaMon
namespace Go.Proofs.Ytdcfjmkeakkfjaa.Pure
open Go.RowKit Go.Proofs.Ytdcfjmkeakkfjaa.Print Go.Proofs.YtdcfjmkeakkfjaaW.PrintWords Go.Proofs.YtdcfjmkeakkfjaaW.PrintLast Go.Proofs.YtdcfjmkeakkfjaaW.PrintMore
set_option linter.unusedVariables false
set_option linter.unusedSectionVars false

theorem fl_set : ∀ (l : List Bool) (p : Nat), fl (l.set p true) ≤ fl l
  | [], p => by simp
  | b :: l, 0 => by rw [List.set_cons_zero, fl_cons, fl_cons, if_pos rfl]; omega
  | b :: l, p + 1 => by have := fl_set l p; rw [List.set_cons_succ, fl_cons, fl_cons]; omega
theorem win_set (W : Nat) (l : List Bool) (p i : Nat) : fl (win W (l.set p true) i) ≤ fl (win W l i) := by
  unfold win
  rw [List.take_set, List.drop_set]
  split
  · exact Nat.le_refl _
  · exact fl_set _ _

section
variable (l : List Bool) (g : Int) (e : Nat) (hl : l.length ≤ 60) (he : e ≤ l.length) (hg : LastT l 0 e (-1) g)
include hl he hg
theorem better_loop (d : Nat) : ∀ i : Nat, i + d = e → Ev (fun k => awardingbodylaw27_MonitorBetter.l0 k l g (e : Int) (i : Int)) true := by
  induction d with
  | zero =>
    intro i hi
    refine ev_step ?_ (fun k => by rw [awardingbodylaw27_MonitorBetter.l0])
    refine ev_neg (by omega) ?_
    rcases hg with ⟨a, b⟩ | ⟨j, a, b, c, d, f⟩
    · exact ev_pos a (ev_bind sane_ev (ev_some rfl))
    · subst c
      rw [rdb]
      exact ev_neg (by omega) (ev_pos (by omega) (ev_pos (by omega) (ev_pos (by omega) (ev_pos d (ev_bind sane_ev (ev_some rfl))))))
  | succ d ih =>
    intro i hi
    refine ev_step ?_ (fun k => by rw [awardingbodylaw27_MonitorBetter.l0])
    rw [rdb, next_index i l.length (by omega) (by omega)]
    refine ev_pos (by omega) (ev_pos (by omega) (ev_pos (by omega) (ev_ite (fun h => ev_neg ?_ (ih (i + 1) (by omega))) (fun h => ih (i + 1) (by omega)))))
    rcases hg with ⟨a, b⟩ | ⟨j, a, b, c, d, f⟩
    · have := b i (by omega) (by omega)
      rw [this] at h; cases h
    · intro hgt
      have := f i (by omega) (by omega)
      rw [this] at h; cases h
end

theorem MonitorBetter : awardingbodylaw27_MonitorBetter.Pure := by
  intro t l at_ _ _ _ _ _ ha
  refine Ev.rounds (g := fun k => awardingbodylaw27_MonitorBetter.f k t l at_) ?_
  unfold awardingbodylaw27_MonitorBetter.f
  have skip : ∀ b, b = true → Ev (fun k => awardingbodylaw27_MonitorBetter.j0 k t l at_ b) true := by
    intro b hb
    refine ev_step ?_ (fun k => by rw [awardingbodylaw27_MonitorBetter.j0])
    exact ev_pos hb (ev_bind sane_ev (ev_some rfl))
  refine ev_bind_now rfl (ev_ite (fun h => ev_ite (fun _ => skip _ rfl) (fun hl => ?_)) (fun h => skip _ rfl))
  by_cases h0 : (l.length : Int) = 0
  · exact skip _ (by rw [h0]; rfl)
  · rw [decide_eq_true_eq] at h
    obtain ⟨P, T, W, F, q, hm, _, hr⟩ := rule_ok (L := t) (p := 0) ⟨by omega, by omega, by omega⟩
    have hl : l.length ≤ 60 := by omega
    have hpos : 0 < (l.length : Int) := by omega
    have hw0 : IntKind.u8.min ≤ at_ ∧ at_ ≤ IntKind.u8.max := by simpa [Lit.wf] using ha
    have hw : 0 ≤ at_ ∧ at_ ≤ 255 := ⟨Int.le_trans (by decide) hw0.1, Int.le_trans hw0.2 (by decide)⟩
    have e1 : wrap64 at_ = at_ := wrap_id (by omega) (by omega)
    have t1 := Int.tmod_lt_of_pos at_ hpos
    have t2 := Int.tmod_nonneg (l.length : Int) hw.1
    refine ev_step ?_ (fun k => by rw [awardingbodylaw27_MonitorBetter.j0])
    rw [e1]
    refine ev_neg (by rw [beq_iff_eq]; exact h0) (ev_bind_now rfl (ev_bind hm (ev_pos (by simp only [List.length_nil]; omega) (ev_bind_now rfl (ev_neg h0 (ev_pos t2 ?_))))))
    rw [List.nil_append]
    refine ev_pos t1 ?_
    obtain ⟨p, hp⟩ : ∃ p : Nat, p = (Int.tmod at_ (l.length : Int)).toNat := ⟨_, rfl⟩
    rw [← hp]
    refine ev_bind (run_ev hr l (by omega)) (ev_bind (run_ev hr (l.set p true) (by rw [List.length_set]; omega)) (ev_pos rfl (ev_pos rfl ?_)))
    obtain ⟨e, a1, a2, a3, a4, a5⟩ := runS_spec W F l l.length 0 (-1)
    obtain ⟨f, b1, b2, b3, b4, b5⟩ := runS_spec W F (l.set p true) (l.set p true).length 0 (-1)
    have hsl : (l.set p true).length = l.length := List.length_set
    have fin : Ev (fun k => awardingbodylaw27_MonitorBetter.j1 k l (runS W F l l.length 0 (-1)).1 (runS W F l l.length 0 (-1)).2 false) true := by
      have hb := better_loop l (runS W F l l.length 0 (-1)).2 e hl (by omega) a3 e 0 (by omega)
      refine ev_step ?_ (fun k => by rw [awardingbodylaw27_MonitorBetter.j1])
      refine ev_neg (by decide) ?_
      rcases a4 with ⟨x, y⟩ | ⟨x, y, z⟩
      · refine ev_pos x ?_
        refine ev_step ?_ (fun k => by rw [awardingbodylaw27_MonitorBetter.j2])
        rw [show (l.length : Int) = (e : Int) by omega]
        exact hb
      · refine ev_neg (by omega) ?_
        refine ev_step ?_ (fun k => by rw [awardingbodylaw27_MonitorBetter.j2])
        generalize (runS W F l l.length 0 (-1)).1 = s at x
        subst x
        exact hb
    have hs : e ≤ f := by
      rcases b4 with ⟨x, y⟩ | ⟨x, y, z⟩
      · omega
      · have h1 := win_set W l p (f + 1)
        by_cases hfe : f < e
        · have := a5 f (by omega) hfe; omega
        · omega
    show Ev (fun n => if (runS W F l l.length 0 (-1)).1 = -1 then (if (runS W F (l.set p true) (l.set p true).length 0 (-1)).1 = -1 then _ else _) else (if (runS W F (l.set p true) (l.set p true).length 0 (-1)).1 = -1 then _ else _)) true
    refine ev_ite (fun x => ev_pos ?_ fin) (fun x => ev_ite (fun y => fin) (fun y => ?_))
    · rcases b4 with ⟨y, _⟩ | ⟨y, z, _⟩
      · exact y
      · rcases a4 with ⟨u, v⟩ | ⟨u, v, _⟩
        · omega
        · omega
    · rw [show decide ((runS W F (l.set p true) (l.set p true).length 0 (-1)).1 < (runS W F l l.length 0 (-1)).1) = false from decide_eq_false (by
        rcases b4 with ⟨u, _⟩ | ⟨u, _, _⟩
        · omega
        · rcases a4 with ⟨v, _⟩ | ⟨v, _, _⟩ <;> omega)]
      exact fin

end Go.Proofs.Ytdcfjmkeakkfjaa.Pure
