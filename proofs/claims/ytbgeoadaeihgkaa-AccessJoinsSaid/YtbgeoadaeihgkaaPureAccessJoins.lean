/- AccessJoins: for all four numbers the law answers true. No further conditions. -/
import Derived.Test.YtbgeoadaeihgkaaPrint15
import Derived.Test.YtbgeoadaeihgkaaAccGen
namespace Go.Proofs.Ytbgeoadaeihgkaa.Pure
open Go.RowKit Go.Proofs.Ytbgeoadaeihgkaa.Print Go.Proofs.YtbgeoadaeihgkaaW.PrintWords Go.Proofs.YtbgeoadaeihgkaaW.PrintLast

theorem AccessJoins : awardingbodylaw14_AccessJoins.Pure := by
  intro a0 a1 a2 a3 _ _ _ _
  obtain ⟨x, hx, _⟩ := cut_ok a0 102 (by omega)
  obtain ⟨y, hy, _⟩ := cut_ok a1 65 (by omega)
  obtain ⟨z, hz, _⟩ := cut_ok a2 102 (by omega)
  obtain ⟨u, hu, _⟩ := cut_ok a3 65 (by omega)
  refine Ev.rounds (g := fun k => awardingbodylaw14_AccessJoins.f k a0 a1 a2 a3) ?_
  unfold awardingbodylaw14_AccessJoins.f
  refine ev_bind_now hx (ev_bind_now hy (ev_bind_now hz (ev_bind_now hu ?_)))
  refine ev_bind (join_ev a0 a1 a2 a3) (ev_bind_now (rjoin_eq a0 a1 a2 a3) (ev_pos (by simp) ?_))
  refine ev_bind (join_ev x y z u) (ev_bind_now (rjoin_eq x y z u) (ev_pos (by simp) ?_))
  refine ev_bind_now (imply_eq a0 a1) (ev_bind_now (rimply_eq a0 a1) (ev_pos (by simp) ?_))
  refine ev_bind_now (imply_eq x y) (ev_bind_now (rimply_eq x y) (ev_pos (by simp) ?_))
  exact ev_bind awake_ev (ev_some rfl)

end Go.Proofs.Ytbgeoadaeihgkaa.Pure
