/- BookletNeeds: for all four numbers the law answers true. No further conditions. -/
import Derived.Test.YtdmlbgdefapcjaaPrint9
import Derived.Test.YtdmlbgdefapcjaaBook
namespace Go.Proofs.Ytdmlbgdefapcjaa.Pure
open Go.RowKit Go.Proofs.Ytdmlbgdefapcjaa.Print Go.Proofs.YtdmlbgdefapcjaaW.PrintWords Go.Proofs.YtdmlbgdefapcjaaW.PrintLast

theorem BookletNeeds : awardingbodylaw12_BookletNeeds.Pure := by
  intro a0 a1 a2 a3 _ _ _ _
  obtain ⟨x, hx, _⟩ := cut_ok a1 43 (by omega)
  obtain ⟨y, hy, _⟩ := cut_ok a2 7 (by omega)
  obtain ⟨z, hz, _⟩ := cut_ok a3 6 (by omega)
  refine Ev.rounds (g := fun k => awardingbodylaw12_BookletNeeds.f k a0 a1 a2 a3) ?_
  unfold awardingbodylaw12_BookletNeeds.f
  refine ev_bind_now hx (ev_bind_now hy (ev_bind_now hz ?_))
  refine ev_bind (need_ev ⟨a0, a1, 0, 0, a2, a3⟩) (ev_bind (rneed_ev ⟨a0, a1, 0, 0, a2, a3⟩) (ev_pos rfl ?_))
  refine ev_bind (need_ev ⟨1, x, 0, 0, 0, 0⟩) (ev_bind (rneed_ev ⟨1, x, 0, 0, 0, 0⟩) (ev_pos rfl ?_))
  refine ev_bind (need_ev ⟨2, 1, 0, 0, y, z⟩) (ev_bind (rneed_ev ⟨2, 1, 0, 0, y, z⟩) (ev_pos rfl ?_))
  exact ev_bind awake_ev (ev_some rfl)

end Go.Proofs.Ytdmlbgdefapcjaa.Pure
