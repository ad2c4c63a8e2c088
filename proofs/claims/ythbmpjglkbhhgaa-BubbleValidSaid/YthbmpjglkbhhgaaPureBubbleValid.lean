/- BubbleValid: for all three numbers the law answers true. No further conditions. -/
import Derived.Test.YthbmpjglkbhhgaaPrint3
import Derived.Test.YthbmpjglkbhhgaaBubGen
namespace Go.Proofs.Ythbmpjglkbhhgaa.Pure
open Go.RowKit Go.Proofs.Ythbmpjglkbhhgaa.Print Go.Proofs.YthbmpjglkbhhgaaW.PrintWords Go.Proofs.YthbmpjglkbhhgaaW.PrintLast

theorem BubbleValid : awardingbodylaw20_BubbleValid.Pure := by
  intro a0 a1 a2 _ _ _
  obtain ⟨x, hx, _⟩ := cut_ok a0 12 (by omega)
  obtain ⟨y, hy, _⟩ := cut_ok a1 12 (by omega)
  obtain ⟨z, hz, _⟩ := cut_ok a2 12 (by omega)
  refine Ev.rounds (g := fun k => awardingbodylaw20_BubbleValid.f k a0 a1 a2) ?_
  unfold awardingbodylaw20_BubbleValid.f
  refine ev_bind_now hx (ev_bind_now hy (ev_bind_now hz (ev_bind_now (thr_eq _ _ _) (ev_bind_now (rthr_eq _ _ _) (ev_pos (by simp) ?_)))))
  exact ev_bind_now (thr_eq _ _ _) (ev_bind_now (rthr_eq _ _ _) (ev_pos (by simp) (ev_bind awake_ev (ev_some rfl))))

end Go.Proofs.Ythbmpjglkbhhgaa.Pure
