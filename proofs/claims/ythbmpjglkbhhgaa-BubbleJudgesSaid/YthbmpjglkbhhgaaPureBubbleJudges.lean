/- BubbleJudges: for every tape and list the law answers true. No further conditions. -/
import Derived.Test.YthbmpjglkbhhgaaPrint6
import Derived.Test.YthbmpjglkbhhgaaBubGen
namespace Go.Proofs.Ythbmpjglkbhhgaa.Pure
open Go.RowKit Go.Proofs.Ythbmpjglkbhhgaa.Print Go.Proofs.YthbmpjglkbhhgaaW.PrintWords Go.Proofs.YthbmpjglkbhhgaaW.PrintLast

theorem judges_j1 (l1 l : List Int) (hl : l.length ≤ 100) (d f ld : Int) : Ev (fun k => awardingbodylaw20_BubbleJudges.j1 k l1 l d f ld) true := by
  refine ev_step ?_ (fun k => by rw [awardingbodylaw20_BubbleJudges.j1])
  refine ev_ite (fun _ => ev_some rfl) (fun h => ?_)
  obtain ⟨r, h1, h2⟩ := judge_same d f ld l (by omega)
  obtain ⟨q, h3, h4⟩ := judge_same d f ld l1 (by omega)
  exact ev_bind h1 (ev_bind h2 (ev_bind h3 (ev_bind h4 (ev_pos rfl (ev_pos rfl (ev_pos rfl (ev_pos rfl (ev_bind awake_ev (ev_some rfl)))))))))

theorem BubbleJudges : awardingbodylaw20_BubbleJudges.Pure := by
  intro l0 l1 _ _ _ _ _ _
  obtain ⟨M, hM, hp⟩ := new_ok l0
  obtain ⟨d, f, ld, q, ht, hq, _⟩ := threshold_ok hp 10 (by omega)
  obtain ⟨l, q2, hl, hq2, hlen, _⟩ := ints_ok hq 6 0 9 (by omega) (by omega) (by omega) (by omega)
  refine Ev.rounds (g := fun k => awardingbodylaw20_BubbleJudges.f k l0 l1) ?_
  unfold awardingbodylaw20_BubbleJudges.f
  refine ev_bind_now hM (ev_bind_now ht (ev_bind hl (ev_ite (fun h => ?_) (fun h => ?_))))
  · have h : (l.length : Int) > 0 := h
    obtain ⟨b, q3, hb, hq3⟩ := one_ok hq2 10 (by omega)
    refine ev_bind_now hb ?_
    refine ev_step ?_ (fun k => by rw [awardingbodylaw20_BubbleJudges.j0])
    refine ev_ite (fun hb => ?_) (fun hb => judges_j1 l1 l (by omega) d f ld)
    obtain ⟨v, q4, hv, hq4, hr, _⟩ := next_ok hq3 (l.length : Int) (by omega)
    obtain ⟨u, q5, hu, _, _⟩ := pick_ok hq4 [(-1), 10] (by simp) (by simp)
    have hr := hr (by omega)
    exact ev_bind_now hv (ev_bind_now hu (ev_pos hr.1 (ev_pos hr.2 (judges_j1 l1 (l.set v.toNat u) (by rw [List.length_set]; omega) d f ld))))
  · refine ev_step ?_ (fun k => by rw [awardingbodylaw20_BubbleJudges.j0])
    exact ev_neg (by decide) (judges_j1 l1 l (by omega) d f ld)

end Go.Proofs.Ythbmpjglkbhhgaa.Pure
