/- MonitorSteps: for every tape and every list of judgements the law answers true. -/
import Derived.Test.YtdcfjmkeakkfjaaPrint19
import Derived.Test.YtdcfjmkeakkfjaaMon
namespace Go.Proofs.Ytdcfjmkeakkfjaa.Pure
open Go.RowKit Go.Proofs.Ytdcfjmkeakkfjaa.Print Go.Proofs.YtdcfjmkeakkfjaaW.PrintWords Go.Proofs.YtdcfjmkeakkfjaaW.PrintLast Go.Proofs.YtdcfjmkeakkfjaaW.PrintMore
set_option linter.unusedVariables false

theorem win_le (W : Nat) (l : List Bool) (i : Nat) (hi : i ≤ l.length) : (win W l i).length ≤ W := by
  rw [win_length W l i hi]; omega
theorem win_pos (W : Nat) (l : List Bool) (i : Nat) (hi : i < l.length) (hW : 1 ≤ W) : 0 < (win W l (i + 1)).length := by
  rw [win_length W l (i + 1) hi]; omega
theorem win_last (W : Nat) (l : List Bool) (i : Nat) (hi : i < l.length) (hW : 1 ≤ W) : (win W l (i + 1)).getD ((win W l (i + 1)).length - 1) false = l.getD i false := by
  rw [win_length W l (i + 1) hi]
  unfold win
  rw [List.getD_eq_getElem?_getD, List.getElem?_drop, List.getElem?_take, if_pos (by omega), ← List.getD_eq_getElem?_getD]
  congr 1
  omega
theorem win_mn (W : Nat) (l : List Bool) (i : Nat) (hi : i < l.length) (hl : l.length ≤ 1000) : ((win W l (i + 1)).length : Int) = mn (W : Int) (wrap64 ((i : Int) + 1)) := by
  rw [wrap_id (by omega) (by omega), win_length W l (i + 1) hi]
  unfold mn
  split <;> omega
theorem len_pred {n : Nat} (h : 0 < n) (hn : n ≤ 1000) : wrap64 ((n : Int) - 1) = ((n - 1 : Nat) : Int) := by rw [wrap_id (by omega) (by omega)]; omega

section
variable {P T : Int} {W F : Nat} (hr : Rule P T W F) (l : List Bool) (hl : l.length ≤ 60)
include hr hl
theorem steps_loop (d : Nat) : ∀ i : Nat, i + d = l.length → (∀ m, m + 1 < i → fl (win W l (m + 1)) < F) → 
    Ev (fun k => awardingbodylaw27_MonitorSteps.l0 k l (runS W F l l.length 0 (-1)).1 0 l (l.length : Int) (i : Int) P T W F (win W l i) (decide (F ≤ fl (win W l i)))) true := by
  obtain ⟨e, h1, h2, h3, h4, h5⟩ := runS_spec W F l l.length 0 (-1)
  have hF : 1 ≤ F := hr.2.2.2.2.1
  have hW : F ≤ W := hr.2.2.2.2.2.1
  have hw : W ≤ 20 := hr.2.2.2.2.2.2
  have z0 : fl (win W l 0) = 0 := by rw [win_zero]; rfl
  induction d with
  | zero =>
    intro i hi hb
    have hi : i = l.length := by omega
    subst hi
    refine ev_step ?_ (fun k => by rw [awardingbodylaw27_MonitorSteps.l0])
    refine ev_neg (by omega) (ev_pos rfl ?_)
    by_cases h : F ≤ fl (win W l l.length)
    · rw [decide_eq_true h]
      have hp : 0 < l.length := by
        rcases Nat.eq_zero_or_pos l.length with h0 | h0
        · rw [h0] at h; omega
        · exact h0
      have he : (runS W F l l.length 0 (-1)).1 = (l.length : Int) - 1 := by
        rcases h4 with ⟨a, b⟩ | ⟨a, b, c⟩
        · have := h5 (l.length - 1) (by omega) (by omega)
          rw [show l.length - 1 + 1 = l.length by omega] at this
          omega
        · rw [a]
          by_cases hlt : e + 1 < l.length
          · have := hb e hlt; omega
          · omega
      rw [he, wrap_id (by omega) (by omega)]
      exact ev_pos rfl (ev_pos rfl (ev_bind sane_ev (ev_some rfl)))
    · rw [decide_eq_false h]
      have he : (runS W F l l.length 0 (-1)).1 = -1 := by
        rcases h4 with ⟨a, b⟩ | ⟨a, b, c⟩
        · exact a
        · by_cases hlt : e + 1 < l.length
          · have := hb e hlt; omega
          · rw [show e + 1 = l.length by omega] at c; omega
      rw [he, wrap_id (x := (l.length : Int) - 1) (by omega) (by omega)]
      exact ev_ite (fun _ => ev_neg (by decide) (ev_pos rfl (ev_bind sane_ev (ev_some rfl)))) (fun _ => ev_pos rfl (ev_neg (by decide) (ev_bind sane_ev (ev_some rfl))))
  | succ d ih =>
    intro i hi hb
    have hlt : i < l.length := by omega
    have hW1 : 1 ≤ W := by omega
    have hll : l.length ≤ 1000 := by omega
    have hlen := win_le W l i (Nat.le_of_lt hlt)
    refine ev_step ?_ (fun k => by rw [awardingbodylaw27_MonitorSteps.l0])
    rw [rdb]
    refine ev_pos (by omega) (ev_pos (by omega) (ev_pos (by omega) ?_))
    by_cases h : F ≤ fl (win W l i)
    · rw [decide_eq_true h]
      have he : (runS W F l l.length 0 (-1)).1 = (i : Int) - 1 := by
        have hp : 0 < i := by
          rcases Nat.eq_zero_or_pos i with h0 | h0
          · rw [h0] at h; omega
          · exact h0
        rcases h4 with ⟨a, b⟩ | ⟨a, b, c⟩
        · have := h5 (i - 1) (by omega) (by omega)
          rw [show i - 1 + 1 = i by omega] at this
          omega
        · rw [a]
          by_cases hlt : e + 1 < i
          · have := hb e hlt; omega
          · by_cases hgt : i - 1 < e
            · have := h5 (i - 1) (by omega) hgt
              rw [show i - 1 + 1 = i by omega] at this
              omega
            · omega
      refine ev_bind (step_dead hr (win W l i) hlen h _) (ev_pos rfl (ev_pos rfl (ev_pos rfl ?_)))
      rw [he, wrap_id (by omega) (by omega)]
      exact ev_pos rfl (ev_bind sane_ev (ev_some rfl))
    · rw [decide_eq_false h]
      have hs := step_live hr (win W l i) hlen (by omega) (l.getD i false)
      rw [win_nxt W l i (by omega)] at hs
      have hlen1 := win_le W l (i + 1) hlt
      refine ev_bind hs (ev_neg (by decide) (ev_pos rfl (ev_bind (valid_ev hr (win W l (i + 1)) _ hlen1) (ev_pos (by simp) ?_))))
      have hmn := win_mn W l i hlt hll
      have hpos := win_pos W l i hlt hW1
      have hlast := win_last W l i hlt hW1
      refine ev_pos hmn ?_
      show Ev (fun n => if 0 ≤ wrap64 (((win W l (i + 1)).length : Int) - 1) then _ else _) true
      have ew : wrap64 (((win W l (i + 1)).length : Int) - 1) = (((win W l (i + 1)).length - 1 : Nat) : Int) := len_pred hpos (Nat.le_trans hlen1 (Nat.le_trans hw (by decide)))
      rw [ew, rdb, hlast, next_index i l.length hlt (Nat.le_trans hll (by decide))]
      refine ev_pos (Int.natCast_nonneg _) (ev_pos (Int.ofNat_lt.2 (Nat.sub_lt hpos Nat.one_pos)) (ev_neg (by simp) ?_))
      clear ew hlast hpos hmn hs
      refine ih (i + 1) (by omega) (fun m hm => ?_)
      by_cases hmi : m + 1 = i
      · rw [hmi]; omega
      · exact hb m (by omega)
end

theorem MonitorSteps : awardingbodylaw27_MonitorSteps.Pure := by
  intro t l _ _ _ _ _
  refine Ev.rounds (g := fun k => awardingbodylaw27_MonitorSteps.f k t l) ?_
  unfold awardingbodylaw27_MonitorSteps.f
  have skip : ∀ b, b = true → Ev (fun k => awardingbodylaw27_MonitorSteps.j0 k t l b) true := by
    intro b hb
    refine ev_step ?_ (fun k => by rw [awardingbodylaw27_MonitorSteps.j0])
    exact ev_pos hb (ev_bind sane_ev (ev_some rfl))
  refine ev_bind_now rfl (ev_ite (fun h => ?_) (fun h => skip _ rfl))
  by_cases hl : (l.length : Int) > 60
  · exact skip _ (decide_eq_true hl)
  · rw [decide_eq_true_eq] at h
    rw [decide_eq_false hl]
    obtain ⟨P, T, W, F, q, hm, _, hr⟩ := rule_ok (L := t) (p := 0) ⟨by omega, by omega, by omega⟩
    have z0 : fl (win W l 0) = 0 := by rw [win_zero]; rfl
    have hF : 1 ≤ F := hr.2.2.2.2.1
    refine ev_step ?_ (fun k => by rw [awardingbodylaw27_MonitorSteps.j0])
    have := steps_loop hr l (by omega) l.length 0 (by omega) (fun m hm => by omega)
    rw [win_zero, decide_eq_false (by rw [win_zero] at z0; omega)] at this
    exact ev_neg (by decide) (ev_bind_now rfl (ev_bind hm (ev_bind (run_ev hr l (by omega)) this)))

end Go.Proofs.Ytdcfjmkeakkfjaa.Pure
