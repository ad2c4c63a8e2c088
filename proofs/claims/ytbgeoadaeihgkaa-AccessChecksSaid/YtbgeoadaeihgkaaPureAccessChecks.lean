/- AccessChecks: for every tape and all four numbers the law answers true. No further conditions. -/
import Derived.Test.YtbgeoadaeihgkaaPrint10
import Derived.Test.YtbgeoadaeihgkaaAccGen
namespace Go.Proofs.Ytbgeoadaeihgkaa.Pure
open Go.RowKit Go.Proofs.Ytbgeoadaeihgkaa.Print Go.Proofs.YtbgeoadaeihgkaaW.PrintWords Go.Proofs.YtbgeoadaeihgkaaW.PrintLast

theorem AccessChecks : awardingbodylaw14_AccessChecks.Pure := by
  intro l0 a1 a2 a3 a4 _ _ _ _ _ _ _
  obtain ⟨M, hM, hp⟩ := new_ok l0
  obtain ⟨rules, q, h1, hq, hl, _⟩ := rules_ok hp 3 (by omega)
  refine Ev.rounds (g := fun k => awardingbodylaw14_AccessChecks.f k l0 a1 a2 a3 a4) ?_
  unfold awardingbodylaw14_AccessChecks.f
  refine ev_bind_now hM (ev_bind h1 (ev_pos (by omega) (ev_pos (by omega) (ev_bind_now rfl (ev_bind_now rfl (ev_pos ?_ (ev_bind_now rfl ?_)))))))
  · rw [List.length_take]; simp only [List.length_cons, List.length_nil]; omega
  · refine ev_bind (check_ev rules (by omega)) (ev_bind (rcheck_ev rules (by omega)) (ev_pos rfl ?_))
    refine ev_bind (check_ev _ ?_) (ev_bind (rcheck_ev _ ?_) (ev_pos rfl (ev_bind awake_ev (ev_some rfl)))) <;>
    · rw [List.length_append, List.length_take]; simp only [List.length_cons, List.length_nil]; omega

end Go.Proofs.Ytbgeoadaeihgkaa.Pure
