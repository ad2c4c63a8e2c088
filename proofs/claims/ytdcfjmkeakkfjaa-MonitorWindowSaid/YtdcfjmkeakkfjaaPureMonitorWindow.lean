/- MonitorWindow: for every tape and every list of judgements the law answers true. -/
import Derived.Test.YtdcfjmkeakkfjaaPrint17
import Derived.Test.YtdcfjmkeakkfjaaMon
namespace Go.Proofs.Ytdcfjmkeakkfjaa.Pure
open Go.RowKit Go.Proofs.Ytdcfjmkeakkfjaa.Print Go.Proofs.YtdcfjmkeakkfjaaW.PrintWords Go.Proofs.YtdcfjmkeakkfjaaW.PrintLast Go.Proofs.YtdcfjmkeakkfjaaW.PrintMore
set_option linter.unusedVariables false
set_option linter.unusedSectionVars false

/-- The first judgement that suspends is not good. -/
theorem stop_bad {W F : Nat} (l : List Bool) (e : Nat) (he : e < l.length) (h1 : F ≤ fl (win W l (e + 1))) (h2 : fl (win W l e) < F) : l.getD e false = false := by
  cases hg : l.getD e false with
  | false => rfl
  | true =>
    have h3 := win_nxt W l e he
    rw [hg] at h3
    have h4 : fl (nxt W (win W l e) true) ≤ fl (win W l e) := by
      unfold nxt
      have h5 : fl ((win W l e ++ [true]).drop ((win W l e).length + 1 - W)) ≤ fl (win W l e ++ [true]) := List.Sublist.count_le _ (List.drop_sublist _ _)
      rw [fl_app] at h5
      have : fl [true] = 0 := rfl
      omega
    rw [h3] at h4
    omega

section
variable {P T : Int} {W F : Nat} (hr : Rule P T W F) (l : List Bool) (hl : l.length ≤ 60)
include hr hl
theorem win_fin (x7 : Int) : Ev (fun k => awardingbodylaw27_MonitorWindow.j2 k l (runS W F l l.length 0 (-1)).1 x7 false P T W F) true := by
  obtain ⟨e, h1, h2, h3, h4, h5⟩ := runS_spec W F l l.length 0 (-1)
  refine ev_step ?_ (fun k => by rw [awardingbodylaw27_MonitorWindow.j2])
  refine ev_neg (by decide) (ev_bind (run_ev hr l (by omega)) (ev_pos rfl (ev_pos rfl ?_)))
  rcases h4 with ⟨a, b⟩ | ⟨a, b, c⟩
  · exact ev_pos (by show (runS W F l l.length 0 (-1)).1 < 0; omega) (ev_bind sane_ev (ev_some rfl))
  · refine ev_neg (by show ¬ (runS W F l l.length 0 (-1)).1 < 0; omega) (ev_pos (by show 0 ≤ (runS W F l l.length 0 (-1)).1; omega) (ev_pos (by show (runS W F l l.length 0 (-1)).1 < (l.length : Int); omega) ?_))
    have hb : rdOf false l (runS W F l l.length 0 (-1)).1 = false := by
      rw [a, rdb]
      refine stop_bad l e (by omega) c ?_
      by_cases he : e = 0
      · subst he; rw [win_zero]; have := hr.2.2.2.2.1; simp [fl]; omega
      · have := h5 (e - 1) (by omega) (by omega)
        rwa [show e - 1 + 1 = e by omega] at this
    show Ev (fun n => if rdOf false l (runS W F l l.length 0 (-1)).1 = true then none else _) true
    rw [hb]
    exact ev_neg (by decide) (ev_bind sane_ev (ev_some rfl))
theorem win_l1 (i : Nat) (hi : i < l.length) (x6 : Int) (m : Nat) (hm : m = fl (win W l (i + 1)))
    (ht : F ≤ m → Ev (fun k => awardingbodylaw27_MonitorWindow.l0 k l (i : Int) ((i + 1 : Nat) : Int) P T W F) true)
    (hf : ¬ F ≤ m → Ev (fun k => awardingbodylaw27_MonitorWindow.l0 k l x6 ((i + 1 : Nat) : Int) P T W F) true) (d : Nat) :
    ∀ (j : Nat) (n : Nat), j + d = i + 1 → n + fl ((l.take (i + 1)).drop j) = m → n ≤ j →
    Ev (fun k => awardingbodylaw27_MonitorWindow.l1 k l x6 (i : Int) (n : Int) (j : Int) P T W F) true := by
  induction d with
  | zero =>
    intro j n hj hn hb
    rw [List.drop_of_length_le (by rw [List.length_take]; omega)] at hn
    have hn : n = m := by simpa [fl] using hn
    refine ev_step ?_ (fun k => by rw [awardingbodylaw27_MonitorWindow.l1])
    rw [next_index i l.length hi (by omega)]
    exact ev_neg (by omega) (ev_ite (fun h => ht (by omega)) (fun h => hf (by omega)))
  | succ d ih =>
    intro j n hj hn hb
    have hlt : (l.take (i + 1)).length = i + 1 := by rw [List.length_take]; omega
    rw [drop_cons_at (l.take (i + 1)) false j (by omega), fl_cons] at hn
    have hg : (l.take (i + 1)).getD j false = l.getD j false := by
      rw [List.getD_eq_getElem?_getD, List.getD_eq_getElem?_getD, List.getElem?_take, if_pos (by omega)]
    rw [hg] at hn
    refine ev_step ?_ (fun k => by rw [awardingbodylaw27_MonitorWindow.l1])
    rw [rdb, next_index j l.length (by omega) (by omega), next_index n l.length (by omega) (by omega)]
    refine ev_pos (by omega) (ev_pos (by omega) (ev_pos (by omega) (ev_ite (fun h => ?_) (fun h => ?_))))
    · rw [if_pos h] at hn
      exact ih (j + 1) n (by omega) (by omega) (by omega)
    · rw [if_neg h] at hn
      exact ih (j + 1) (n + 1) (by omega) (by omega) (by omega)
theorem win_l0 (d : Nat) : ∀ i : Nat, i + d = l.length → (∀ m, m < i → fl (win W l (m + 1)) < F) →
    Ev (fun k => awardingbodylaw27_MonitorWindow.l0 k l (-1) (i : Int) P T W F) true := by
  obtain ⟨e, h1, h2, h3, h4, h5⟩ := runS_spec W F l l.length 0 (-1)
  have fin := win_fin hr l hl
  induction d with
  | zero =>
    intro i hi hb
    refine ev_step ?_ (fun k => by rw [awardingbodylaw27_MonitorWindow.l0])
    refine ev_neg (by omega) ?_
    rcases h4 with ⟨a, b⟩ | ⟨a, b, c⟩
    · rw [← a]; exact fin _
    · have := hb e (by omega); omega
  | succ d ih =>
    intro i hi hb
    refine ev_step ?_ (fun k => by rw [awardingbodylaw27_MonitorWindow.l0])
    refine ev_pos (by omega) ?_
    refine ev_step ?_ (fun k => by rw [awardingbodylaw27_MonitorWindow.j2])
    have e1 : mx 0 (wrap64 (wrap64 ((i : Int) - (W : Int)) + 1)) = ((i + 1 - W : Nat) : Int) := by
      have hw : W ≤ 20 := hr.2.2.2.2.2.2
      rw [wrap_id (x := (i : Int) - (W : Int)) (by omega) (by omega), wrap_id (by omega) (by omega)]
      unfold mx
      by_cases h : (0 : Int) < (i : Int) - (W : Int) + 1
      · rw [if_pos h]; omega
      · rw [if_neg h]; omega
    rw [e1]
    refine ev_pos (decide_eq_true (by omega)) ?_
    refine win_l1 hr l hl i (by omega) (-1) (fl (win W l (i + 1))) rfl (fun h => ?_) (fun h => ?_) (i + 1 - (i + 1 - W)) (i + 1 - W) 0 (by omega) (by rw [Nat.zero_add]; rfl) (by omega)
    · have he : (runS W F l l.length 0 (-1)).1 = (i : Int) := by
        rcases h4 with ⟨a, b⟩ | ⟨a, b, c⟩
        · have := h5 i (by omega) (by omega); omega
        · rw [a]
          by_cases hlt : e < i
          · have := hb e hlt; omega
          · by_cases hgt : i < e
            · have := h5 i (by omega) hgt; omega
            · omega
      rw [← he]
      refine ev_step ?_ (fun k => by rw [awardingbodylaw27_MonitorWindow.l0])
      refine ev_ite (fun _ => ?_) (fun _ => fin _)
      rw [show decide ((runS W F l l.length 0 (-1)).1 < 0) = false from decide_eq_false (by omega)]
      exact fin _
    · refine ih (i + 1) (by omega) (fun m hm => ?_)
      by_cases hmi : m = i
      · subst hmi; omega
      · exact hb m (by omega)
end

theorem MonitorWindow : awardingbodylaw27_MonitorWindow.Pure := by
  intro t l _ _ _ _ _
  refine Ev.rounds (g := fun k => awardingbodylaw27_MonitorWindow.f k t l) ?_
  unfold awardingbodylaw27_MonitorWindow.f
  have skip : ∀ b, b = true → Ev (fun k => awardingbodylaw27_MonitorWindow.j0 k t l b) true := by
    intro b hb
    refine ev_step ?_ (fun k => by rw [awardingbodylaw27_MonitorWindow.j0])
    exact ev_pos hb (ev_bind sane_ev (ev_some rfl))
  refine ev_bind_now rfl (ev_ite (fun h => ?_) (fun h => skip _ rfl))
  by_cases hl : (l.length : Int) > 60
  · exact skip _ (decide_eq_true hl)
  · rw [decide_eq_true_eq] at h
    rw [decide_eq_false hl]
    obtain ⟨P, T, W, F, q, hm, _, hr⟩ := rule_ok (L := t) (p := 0) ⟨by omega, by omega, by omega⟩
    refine ev_step ?_ (fun k => by rw [awardingbodylaw27_MonitorWindow.j0])
    exact ev_neg (by decide) (ev_bind_now rfl (ev_bind hm (win_l0 hr l (by omega) l.length 0 (by omega) (fun m hm => by omega))))

end Go.Proofs.Ytdcfjmkeakkfjaa.Pure
