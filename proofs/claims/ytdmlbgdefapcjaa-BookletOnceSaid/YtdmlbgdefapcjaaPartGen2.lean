/- The generator of parts: it answers, and what it gives is valid where no mistake is asked for. -/
import Derived.Test.YtdmlbgdefapcjaaPrint4
import Derived.Test.YtdmlbgdefapcjaaParts
namespace Go.Proofs.Ytdmlbgdefapcjaa.Pure
open Go.RowKit Go.Proofs.Ytdmlbgdefapcjaa.Print Go.Proofs.YtdmlbgdefapcjaaW.PrintWords Go.Proofs.YtdmlbgdefapcjaaW.PrintLast Go.Proofs.YtdmlbgdefapcjaaW.PrintMore
set_option linter.unusedVariables false

theorem wild_ok {L : List Int} {p : Int} (h : TP L p) : ∃ v q, awardingbodymake_Tape_Wild.f L p = some (v, q) ∧ TP L q := by
  unfold awardingbodymake_Tape_Wild.f
  obtain ⟨v, q, hr, hq, _⟩ := pick_ok h [(-1), 0, 1, 2, 31, 32, 99, 100, 200, 201, 9999, 10000, 1000000, 1000001, 1152921504606846976, 1152921504606846977, (-1152921504606846976), 9223372036854775807, (-9223372036854775808)] (by simp) (by simp)
  rw [hr]
  exact ⟨v, q, rfl, hq⟩

theorem part_gj1 {L : List Int} {p : Int} (h : TP L p) (b : Bool) (u : Part) :
    ∃ (v : Part) (q : Int), Ev (fun k => awardingbodymake_Tape_Part.j1 k b L p u.f0 u.f1 u.f2 u.f3 u.f4 u.f5) (v.f0, v.f1, v.f2, v.f3, v.f4, v.f5, q) ∧ TP L q ∧ (b = false → v = u) := by
  by_cases hb : b = true
  · subst hb
    obtain ⟨c, q, hr, hq, _⟩ := next_ok h 6 (by omega)
    by_cases h0 : c = 0
    · obtain ⟨x, q2, hr2, hq2, _⟩ := range_ok hq (-1) 3 (by omega) (by omega) (by omega)
      exact ⟨⟨x, u.f1, u.f2, u.f3, u.f4, u.f5⟩, q2, (by refine ev_step ?_ (fun k => by rw [awardingbodymake_Tape_Part.j1]); exact ev_pos rfl (ev_bind_now hr (ev_pos h0 (ev_bind_now hr2 (ev_some rfl))))), hq2, fun h => by cases h⟩
    by_cases h1 : c = 1
    · obtain ⟨x, q2, hr2, hq2, _⟩ := pick_ok hq [0, 40, 41, (-1)] (by simp) (by simp)
      exact ⟨⟨u.f0, x, u.f2, u.f3, u.f4, u.f5⟩, q2, (by refine ev_step ?_ (fun k => by rw [awardingbodymake_Tape_Part.j1]); exact ev_pos rfl (ev_bind_now hr (ev_neg h0 (ev_pos h1 (ev_bind_now hr2 (ev_some rfl)))))), hq2, fun h => by cases h⟩
    by_cases h2 : c = 2
    · obtain ⟨x, q2, hr2, hq2⟩ := wild_ok hq
      exact ⟨⟨u.f0, u.f1, x, u.f3, u.f4, u.f5⟩, q2, (by refine ev_step ?_ (fun k => by rw [awardingbodymake_Tape_Part.j1]); exact ev_pos rfl (ev_bind_now hr (ev_neg h0 (ev_neg h1 (ev_pos h2 (ev_bind_now hr2 (ev_some rfl))))))), hq2, fun h => by cases h⟩
    by_cases h3 : c = 3
    · obtain ⟨x, q2, hr2, hq2⟩ := wild_ok hq
      exact ⟨⟨u.f0, u.f1, u.f2, x, u.f4, u.f5⟩, q2, (by refine ev_step ?_ (fun k => by rw [awardingbodymake_Tape_Part.j1]); exact ev_pos rfl (ev_bind_now hr (ev_neg h0 (ev_neg h1 (ev_neg h2 (ev_pos h3 (ev_bind_now hr2 (ev_some rfl)))))))), hq2, fun h => by cases h⟩
    by_cases h4 : c = 4
    · obtain ⟨x, q2, hr2, hq2, _⟩ := range_ok hq (-1) 6 (by omega) (by omega) (by omega)
      exact ⟨⟨u.f0, u.f1, u.f2, u.f3, x, u.f5⟩, q2, (by refine ev_step ?_ (fun k => by rw [awardingbodymake_Tape_Part.j1]); exact ev_pos rfl (ev_bind_now hr (ev_neg h0 (ev_neg h1 (ev_neg h2 (ev_neg h3 (ev_pos h4 (ev_bind_now hr2 (ev_some rfl))))))))), hq2, fun h => by cases h⟩
    · obtain ⟨x, q2, hr2, hq2, _⟩ := range_ok hq (-1) 5 (by omega) (by omega) (by omega)
      exact ⟨⟨u.f0, u.f1, u.f2, u.f3, u.f4, x⟩, q2, (by refine ev_step ?_ (fun k => by rw [awardingbodymake_Tape_Part.j1]); exact ev_pos rfl (ev_bind_now hr (ev_neg h0 (ev_neg h1 (ev_neg h2 (ev_neg h3 (ev_neg h4 (ev_bind_now hr2 (ev_some rfl))))))))), hq2, fun h => by cases h⟩
  · exact ⟨u, p, (by refine ev_step ?_ (fun k => by rw [awardingbodymake_Tape_Part.j1]); exact ev_neg hb (ev_some rfl)), h, fun _ => rfl⟩
theorem part_gj0 {L : List Int} {p : Int} (h : TP L p) (n : Int) (hn : n ≤ 1000000) (u : Part) :
    ∃ (v : Part) (q : Int), Ev (fun k => awardingbodymake_Tape_Part.j0 k n L p u.f0 u.f1 u.f2 u.f3 u.f4 u.f5) (v.f0, v.f1, v.f2, v.f3, v.f4, v.f5, q) ∧ TP L q ∧ (n ≤ 0 → v = u) := by
  by_cases h0 : n > 0
  · obtain ⟨b, q, hr, hq⟩ := one_ok h n (by omega)
    obtain ⟨v, q2, he, hq2, _⟩ := part_gj1 hq b u
    exact ⟨v, q2, (by refine ev_step ?_ (fun k => by rw [awardingbodymake_Tape_Part.j0]); exact ev_pos h0 (ev_bind_now hr he)), hq2, by omega⟩
  · obtain ⟨v, q2, he, hq2, hk⟩ := part_gj1 h false u
    exact ⟨v, q2, (by refine ev_step ?_ (fun k => by rw [awardingbodymake_Tape_Part.j0]); exact ev_neg h0 he), hq2, fun _ => hk rfl⟩
theorem part_gen {L : List Int} {p : Int} (h : TP L p) (n : Int) (hn : n ≤ 1000000) :
    ∃ (v : Part) (q : Int), Ev (fun k => awardingbodymake_Tape_Part.f k L p n) (v.f0, v.f1, v.f2, v.f3, v.f4, v.f5, q) ∧ TP L q ∧ (n ≤ 0 → pB v = true) := by
  obtain ⟨m, q1, h1, hq1, hm⟩ := range_ok h 1 12 (by omega) (by omega) (by omega)
  obtain ⟨t, q2, h2, hq2, ht, _⟩ := next_ok hq1 4 (by omega)
  obtain ⟨o, q3, h3, hq3, ho, _⟩ := next_ok hq2 3 (by omega)
  obtain ⟨c, q4, h4, hq4, hc, _⟩ := next_ok hq3 3 (by omega)
  have ht := ht (by omega)
  have ho := ho (by omega)
  unfold awardingbodymake_Tape_Part.f
  by_cases hc0 : c = 0
  · obtain ⟨op, q5, h5, hq5, hop⟩ := range_ok hq4 2 5 (by omega) (by omega) (by omega)
    obtain ⟨ke, q6, h6, hq6, hke, _⟩ := next_ok hq5 op (by omega)
    obtain ⟨m2, q7, h7, hq7, hm2⟩ := range_ok hq6 1 3 (by omega) (by omega) (by omega)
    have hke := hke (by omega)
    obtain ⟨v, q, he, hq, hk⟩ := part_gj0 hq7 n hn ⟨2, m2, t, o, op, ke⟩
    refine ⟨v, q, ev_bind_now h1 (ev_bind_now h2 (ev_bind_now h3 (ev_bind_now h4 (ev_pos hc0 (ev_bind_now h5 (ev_bind_now h6 (ev_bind_now h7 he))))))), hq, fun h0 => ?_⟩
    rw [hk h0]
    show partB 2 m2 t o op ke = true
    unfold partB rangeB kindB
    rw [decide_eq_true (by omega), decide_eq_true (.inr ⟨rfl, by omega, by omega, by omega, by omega⟩)]
    rfl
  · obtain ⟨v, q, he, hq, hk⟩ := part_gj0 hq4 n hn ⟨1, m, t, o, 0, 0⟩
    refine ⟨v, q, ev_bind_now h1 (ev_bind_now h2 (ev_bind_now h3 (ev_bind_now h4 (ev_neg hc0 he)))), hq, fun h0 => ?_⟩
    rw [hk h0]
    show partB 1 m t o 0 0 = true
    unfold partB rangeB kindB
    rw [decide_eq_true (by omega), decide_eq_true (.inl ⟨rfl, rfl, rfl⟩)]
    rfl

end Go.Proofs.Ytdmlbgdefapcjaa.Pure
