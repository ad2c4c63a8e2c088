/- AccessOthers: for every tape and time the law answers true. No further conditions. -/
import Derived.Test.YtbgeoadaeihgkaaPrint24
import Derived.Test.YtbgeoadaeihgkaaAccGen
namespace Go.Proofs.Ytbgeoadaeihgkaa.Pure
open Go.RowKit Go.Proofs.Ytbgeoadaeihgkaa.Print Go.Proofs.YtbgeoadaeihgkaaW.PrintWords Go.Proofs.YtbgeoadaeihgkaaW.PrintLast

theorem others_ok {rules : List Rule} (h1 : rules.length ≤ 12) (h2 : ∀ r ∈ rules, ruleOk r = true) : checkS rules = 0 := by
  unfold checkS
  rw [if_neg (by omega), List.all_eq_true.2 h2]
  rfl
theorem others_app (l : List Evid) (t : Int) (r : Rule) (hr : ruleOk r = true) :
    app (l ++ [(⟨1, 1, 9, 0, 99⟩ : Evid), ⟨0, 1, 9, t + 1, 99⟩, ⟨0, 1, 10, 0, 99⟩, ⟨0, 10, 9, 0, 99⟩, ⟨0, 1, 9, -9, t - 1⟩]) 0 t r = app l 0 t r := by
  have hp := (ruleOk_parts hr).1
  unfold app
  rw [List.any_append]
  have e : [(⟨1, 1, 9, 0, 99⟩ : Evid), ⟨0, 1, 9, t + 1, 99⟩, ⟨0, 1, 10, 0, 99⟩, ⟨0, 10, 9, 0, 99⟩, ⟨0, 1, 9, -9, t - 1⟩].any (fits r.f0 r.f1 0 t) = false := by
    rw [List.any_eq_false]
    intro x hx
    unfold fits
    rw [decide_eq_true_eq]
    rcases List.mem_cons.1 hx with rfl | hx
    · rintro ⟨h, _⟩; exact absurd h (by decide)
    rcases List.mem_cons.1 hx with rfl | hx
    · rintro ⟨_, _, _, _, h, _⟩; exact absurd h (show ¬ t + 1 ≤ t by omega)
    rcases List.mem_cons.1 hx with rfl | hx
    · rintro ⟨_, _, _, h, _⟩; exact absurd h (by decide)
    rcases List.mem_cons.1 hx with rfl | hx
    · rintro ⟨_, h, _⟩; exact absurd (show (10 : Int) = r.f0 from h) (by omega)
    rcases List.mem_cons.1 hx with rfl | hx
    · rintro ⟨_, _, _, _, _, h⟩; exact absurd h (show ¬ t ≤ t - 1 by omega)
    cases hx
  rw [e, Bool.or_false]

theorem AccessOthers : awardingbodylaw14_AccessOthers.Pure := by
  intro l0 a1 _ _ _ _
  obtain ⟨M, hM, hp⟩ := new_ok l0
  obtain ⟨rules, q1, h1, hq1, _, hr⟩ := rules_ok hp 0 (by omega)
  obtain ⟨hrl, hro⟩ := hr (by omega)
  obtain ⟨l, q2, h2, hq2, hl⟩ := evidence_ok hq1
  obtain ⟨t, ht, h3, _⟩ := cut_ok a1 30 (by omega)
  have h3 := h3 (by omega)
  refine Ev.rounds (g := fun k => awardingbodylaw14_AccessOthers.f k l0 a1) ?_
  unfold awardingbodylaw14_AccessOthers.f
  refine ev_bind_now hM (ev_bind h1 (ev_bind h2 (ev_bind_now ht (ev_pos (by omega) (ev_pos (by omega) (ev_bind_now rfl (ev_bind_now rfl (ev_pos ?_ ?_))))))))
  · rw [List.length_take]; simp only [List.length_cons, List.length_nil]; omega
  · rw [wrap_id (x := t + 1) (by omega) (by omega), wrap_id (x := t - 1) (by omega) (by omega), List.take_of_length_le (by show l.length ≤ ((l.length : Int)).toNat; omega)]
    have hz := others_ok (by omega) hro
    have hg : (grantS rules l 0 t).2.2 = 0 := by unfold grantS; rw [if_pos hz]
    have e : grantS rules (l ++ [(⟨1, 1, 9, 0, 99⟩ : Evid), ⟨0, 1, 9, t + 1, 99⟩, ⟨0, 1, 10, 0, 99⟩, ⟨0, 10, 9, 0, 99⟩, ⟨0, 1, 9, -9, t - 1⟩]) 0 t = grantS rules l 0 t := by
      have e2 : gsum (l ++ [(⟨1, 1, 9, 0, 99⟩ : Evid), ⟨0, 1, 9, t + 1, 99⟩, ⟨0, 1, 10, 0, 99⟩, ⟨0, 10, 9, 0, 99⟩, ⟨0, 1, 9, -9, t - 1⟩]) 0 t rules = gsum l 0 t rules := by
        unfold gsum grantedS
        rw [List.filter_congr (fun r hr => others_app l t r (hro r hr))]
      unfold grantS
      rw [e2]
    refine ev_bind (grant_ev rules l 0 t (by omega) (by omega)) (ev_bind (grant_ev rules _ 0 t (by omega) (by simp; omega)) ?_)
    simp only [e]
    exact ev_pos hg (ev_pos hg (ev_pos (by simp) (ev_bind awake_ev (ev_some rfl))))

end Go.Proofs.Ytbgeoadaeihgkaa.Pure
