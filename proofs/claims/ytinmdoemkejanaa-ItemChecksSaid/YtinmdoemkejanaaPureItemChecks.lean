/- ItemChecks: for every tape the law answers true. -/
import Derived.Test.YtinmdoemkejanaaPrint11
import Derived.Test.YtinmdoemkejanaaItemGen
namespace Go.Proofs.Ytinmdoemkejanaa.Pure
open Go.RowKit Go.Proofs.Ytinmdoemkejanaa.Print Go.Proofs.YtinmdoemkejanaaW.PrintWords Go.Proofs.YtinmdoemkejanaaW.PrintLast Go.Proofs.YtinmdoemkejanaaW.PrintMore

theorem ItemChecks : awardingbodylaw06_ItemChecks.Pure := by
  intro l _ _ _
  obtain ⟨M, h0, hp⟩ := new_ok l
  obtain ⟨id, q1, h1, hq1, _⟩ := next_ok hp 6 (by omega)
  obtain ⟨ver, q2, h2, hq2, _⟩ := range_ok hq1 1 8 (by omega) (by omega) (by omega)
  obtain ⟨i, v, s, ps, en, q3, h3, hq3, hs, hps, hen, _⟩ := item_gen hq2 id ver 2 (by omega)
  have hs : s.size ≤ 1000000000000 := by omega
  have hps : ps.length ≤ 1000000000000 := by omega
  have hen : en.length ≤ 1000000000000 := by omega
  refine Ev.rounds (g := fun k => awardingbodylaw06_ItemChecks.f k l) ?_
  unfold awardingbodylaw06_ItemChecks.f
  refine ev_bind_now h0 (ev_bind_now h1 (ev_bind_now h2 (ev_bind h3 ?_)))
  refine ev_bind (check_ev i v s ps en hs hps hen) (ev_bind (rcheck_ev i v s ps en hs hps hen) (ev_pos rfl ?_))
  refine ev_bind (total_ev i v s ps en hs hps hen) (ev_bind (rtotal_ev i v s ps en hs hps hen) (ev_pos rfl ?_))
  exact ev_bind awake_ev (ev_some rfl)

end Go.Proofs.Ytinmdoemkejanaa.Pure
