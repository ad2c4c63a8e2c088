/- BubbleEmpty: for every tape the law answers true. No further conditions. -/
import Derived.Test.YthbmpjglkbhhgaaPrint10
import Derived.Test.YthbmpjglkbhhgaaBubGen
namespace Go.Proofs.Ythbmpjglkbhhgaa.Pure
open Go.RowKit Go.Proofs.Ythbmpjglkbhhgaa.Print Go.Proofs.YthbmpjglkbhhgaaW.PrintWords Go.Proofs.YthbmpjglkbhhgaaW.PrintLast

theorem ev_none_false {p : Prop} (h : False) : p := h.elim

theorem empty_j1 (l : List Int) (a F D m : Int) (ha : a < (l.length : Int)) (h1 : F = 0 → a = -1) (h2 : D = 1 → 0 ≤ a) (h3 : D < 2 → a ≠ -2) (h4 : 0 < D → a ≠ -1) (h5 : 0 ≤ a → rd l a = m) (h6 : -2 ≤ a) :
    Ev (fun k => awardingbodylaw20_BubbleEmpty.j1 k l a F D m false) true := by
  refine ev_step ?_ (fun k => by rw [awardingbodylaw20_BubbleEmpty.j1])
  refine ev_neg (by decide) ?_
  by_cases h0 : 0 ≤ a
  · have h5 := h5 h0
    repeat' refine ev_ite (fun _ => ?_) (fun _ => ?_)
    all_goals first | exact ev_bind awake_ev (ev_some rfl) | (exfalso; omega)
  · clear h5
    repeat' refine ev_ite (fun _ => ?_) (fun _ => ?_)
    all_goals first | exact ev_bind awake_ev (ev_some rfl) | (exfalso; omega)

theorem empty_loop (l : List Int) (a d f ld F D : Int) (hl : l.length ≤ 1000) (hend : ∀ m, (∀ j, j < l.length → l.getD j 0 ≤ m) → (m = 0 ∨ ∃ j, j < l.length ∧ l.getD j 0 = m) → Ev (fun k => awardingbodylaw20_BubbleEmpty.j1 k l a F D m false) true) (ha : a < (l.length : Int)) (ha2 : -2 ≤ a) (n : Nat) :
    ∀ (i : Nat) (c e m : Int), i + n = l.length → 0 ≤ c → c ≤ i → 0 ≤ e → e ≤ i → c + darkN f (l.drop i) = F → e + darkN d (l.drop i) = D → (∀ j, j < i → l.getD j 0 ≤ m) → (m = 0 ∨ ∃ j, j < l.length ∧ l.getD j 0 = m) →
      Ev (fun k => awardingbodylaw20_BubbleEmpty.l0 k l a 0 c e m (i : Int) d f ld) true := by
  induction n with
  | zero =>
    intro i c e m hi c0 c1 e0 e1 hc he hm hm2
    refine ev_step ?_ (fun k => by rw [awardingbodylaw20_BubbleEmpty.l0])
    rw [List.drop_of_length_le (by omega)] at hc he
    have z : ∀ x, darkN x [] = 0 := fun _ => rfl
    rw [z, Int.add_zero] at hc he
    subst hc he
    rw [decide_eq_false (show ¬ a < -2 by omega)]
    exact ev_neg (by omega) (ev_pos rfl (ev_neg (by omega) (hend m (fun j hj => hm j (by omega)) hm2)))
  | succ n ih =>
    intro i c e m hi c0 c1 e0 e1 hc he hm hm2
    refine ev_step ?_ (fun k => by rw [awardingbodylaw20_BubbleEmpty.l0])
    rw [drop_cons_at l 0 i (by omega), dark_cons] at hc he
    rw [rd_nat, next_index i l.length (by omega) (by omega), wrap_id (x := c + 1) (by omega) (by omega), wrap_id (x := e + 1) (by omega) (by omega)]
    have hm' : ∀ j, j < i + 1 → l.getD j 0 ≤ mx m (l.getD i 0) := by
      intro j hj
      rw [mx_eq]
      rcases Nat.lt_or_ge j i with h | h
      · have := hm j h; omega
      · have : j = i := by omega
        subst this; omega
    have hm2' : mx m (l.getD i 0) = 0 ∨ ∃ j, j < l.length ∧ l.getD j 0 = mx m (l.getD i 0) := by
      rw [mx_eq]
      by_cases h : m < l.getD i 0
      · exact .inr ⟨i, by omega, by omega⟩
      · rcases hm2 with h2 | ⟨j, hj, h2⟩
        · exact .inl (by omega)
        · exact .inr ⟨j, hj, by omega⟩
    refine ev_pos (by omega) (ev_pos (by omega) (ev_ite (fun h1 => ?_) (fun h1 => ?_)))
    · rw [if_pos (show f ≤ l.getD i 0 by omega)] at hc
      refine ev_ite (fun h2 => ?_) (fun h2 => ?_)
      · rw [if_pos (show d ≤ l.getD i 0 by omega)] at he
        exact ih (i + 1) _ _ _ (by omega) (by omega) (by omega) (by omega) (by omega) (by omega) (by omega) hm' hm2'
      · rw [if_neg (show ¬ d ≤ l.getD i 0 by omega)] at he
        exact ih (i + 1) _ _ _ (by omega) (by omega) (by omega) (by omega) (by omega) (by omega) (by omega) hm' hm2'
    · rw [if_neg (show ¬ f ≤ l.getD i 0 by omega)] at hc
      refine ev_ite (fun h2 => ?_) (fun h2 => ?_)
      · rw [if_pos (show d ≤ l.getD i 0 by omega)] at he
        exact ih (i + 1) _ _ _ (by omega) (by omega) (by omega) (by omega) (by omega) (by omega) (by omega) hm' hm2'
      · rw [if_neg (show ¬ d ≤ l.getD i 0 by omega)] at he
        exact ih (i + 1) _ _ _ (by omega) (by omega) (by omega) (by omega) (by omega) (by omega) (by omega) hm' hm2'

theorem dark_at {d : Int} {l : List Int} {j : Nat} (hj : j < l.length) (h : d ≤ l.getD j 0) : 0 < darkN d l := by
  unfold darkN
  have : 0 < List.countP (fun v => decide (d ≤ v)) l := List.countP_pos_iff.2 ⟨l.getD j 0, by rw [List.getD_eq_getElem?_getD, List.getElem?_eq_getElem hj]; exact List.getElem_mem _, by simpa using h⟩
  omega

theorem BubbleEmpty : awardingbodylaw20_BubbleEmpty.Pure := by
  intro l0 _ _ _
  obtain ⟨M, hM, hp⟩ := new_ok l0
  obtain ⟨d, f, ld, q, ht, hq, hth⟩ := threshold_ok hp 0 (by omega)
  obtain ⟨l, q2, hl, hq2, h2, h5, hin⟩ := values_ok hq
  have hth := hth (by omega)
  have hr : 1 ≤ f ∧ f ≤ d ∧ 1 ≤ ld := by simp [thrB] at hth; omega
  obtain ⟨a, ha, hd1, hcase⟩ := judge_spec d f ld l hth h2 h5 hin
  refine Ev.rounds (g := fun k => awardingbodylaw20_BubbleEmpty.f k l0) ?_
  unfold awardingbodylaw20_BubbleEmpty.f
  refine ev_bind_now hM (ev_bind_now ht (ev_bind hl (ev_bind ha ?_)))
  have hlt : a < (l.length : Int) ∧ -2 ≤ a := by
    rcases hcase with ⟨b, rfl, hb⟩ | ⟨_, e⟩
    · have := hb.1; omega
    · rw [e]; split <;> omega
  refine empty_loop l a d f ld (darkN f l) (darkN d l) (by omega) (fun m hm hm2 => ?_) hlt.1 hlt.2 l.length 0 0 0 0 (by omega) (by omega) (by omega) (by omega) (by omega) (by rw [List.drop_zero]; omega) (by rw [List.drop_zero]; omega) (fun j hj => by omega) (.inl rfl)
  refine empty_j1 l a _ _ m hlt.1 (fun hF => ?_) hd1 (fun hD he => ?_) (fun hD he => ?_) (fun h0 => ?_) hlt.2
  · rcases hcase with ⟨b, rfl, hb⟩ | ⟨_, e⟩
    · have hfb : f ≤ l.getD b 0 := by rcases hb.2.2 with h | h <;> omega
      have := dark_at hb.1 hfb
      omega
    · have : ¬ darkN d l > 1 := by
        intro hgt
        obtain ⟨j, hj, hdj⟩ := dark_pos d l (by omega)
        have := dark_at (d := f) hj (by omega)
        omega
      rw [e, if_neg this]
  · rcases hcase with ⟨b, rfl, hb⟩ | ⟨_, e⟩
    · omega
    · rw [if_neg (by omega)] at e; omega
  · rcases hcase with ⟨b, rfl, hb⟩ | ⟨_, e⟩
    · omega
    · by_cases h1 : darkN d l = 1
      · have := hd1 h1; omega
      · rw [if_pos (by omega)] at e; omega
  · rcases hcase with ⟨b, rfl, hb⟩ | ⟨_, e⟩
    · rw [rd_nat]
      have hb1 := hm b hb.1
      have hb0 := inB_at hin b hb.1
      rcases hm2 with h | ⟨j, hj, h⟩
      · omega
      · by_cases hjb : j = b
        · rw [← hjb]; exact h
        · have := hb.2.1 j hj hjb; omega
    · exfalso; revert e; split <;> omega

end Go.Proofs.Ythbmpjglkbhhgaa.Pure
