/- ItemParts: for all numbers the law answers true. -/
import Derived.Test.YtinmdoemkejanaaPrint8
import Derived.Test.YtinmdoemkejanaaItem
namespace Go.Proofs.Ytinmdoemkejanaa.Pure
open Go.RowKit Go.Proofs.Ytinmdoemkejanaa.Print Go.Proofs.YtinmdoemkejanaaW.PrintWords Go.Proofs.YtinmdoemkejanaaW.PrintLast Go.Proofs.YtinmdoemkejanaaW.PrintMore

theorem ItemParts : awardingbodylaw06_ItemParts.Pure := by
  intro a0 a1 a2 a3 a4 a5 _ _ _ _ _ _
  obtain ⟨b0, h0, _⟩ := cut_ok a0 2 (by omega)
  obtain ⟨b1, h1, _⟩ := cut_ok a1 43 (by omega)
  obtain ⟨b2, h2, _⟩ := cut_ok a2 18 (by omega)
  obtain ⟨b3, h3, _⟩ := cut_ok a3 8 (by omega)
  obtain ⟨b4, h4, _⟩ := cut_ok a4 7 (by omega)
  obtain ⟨b5, h5, _⟩ := cut_ok a5 6 (by omega)
  obtain ⟨c1, g1, _⟩ := cut_ok a1 40 (by omega)
  obtain ⟨c2, g2, _⟩ := cut_ok a2 16 (by omega)
  obtain ⟨c3, g3, _⟩ := cut_ok a3 6 (by omega)
  refine Ev.rounds (g := fun k => awardingbodylaw06_ItemParts.f k a0 a1 a2 a3 a4 a5) ?_
  unfold awardingbodylaw06_ItemParts.f
  refine ev_bind_now h0 (ev_bind_now h1 (ev_bind_now h2 (ev_bind_now h3 (ev_bind_now h4 (ev_bind_now h5 (ev_bind_now g1 (ev_bind_now g2 (ev_bind_now g3 ?_))))))))
  refine ev_bind (part_ev _ _ _ _ _ _) (ev_bind (rpart_ev _ _ _ _ _ _) (ev_pos (by simp) ?_))
  refine ev_bind (part_ev _ _ _ _ _ _) (ev_bind (rpart_ev _ _ _ _ _ _) (ev_pos (by simp) ?_))
  refine ev_bind (part_ev _ _ _ _ _ _) (ev_bind (rpart_ev _ _ _ _ _ _) (ev_pos (by simp) ?_))
  exact ev_bind awake_ev (ev_some rfl)

end Go.Proofs.Ytinmdoemkejanaa.Pure
