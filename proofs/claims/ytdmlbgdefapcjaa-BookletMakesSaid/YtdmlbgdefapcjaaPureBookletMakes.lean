/- BookletMakes: for every tape the law answers true. No further conditions. -/
import Derived.Test.YtdmlbgdefapcjaaPrint18
import Derived.Test.YtdmlbgdefapcjaaBook
import Derived.Test.YtdmlbgdefapcjaaPaperGen
namespace Go.Proofs.Ytdmlbgdefapcjaa.Pure
open Go.RowKit Go.Proofs.Ytdmlbgdefapcjaa.Print Go.Proofs.YtdmlbgdefapcjaaW.PrintWords Go.Proofs.YtdmlbgdefapcjaaW.PrintLast

theorem BookletMakes : awardingbodylaw12_BookletMakes.Pure := by
  intro l0 _ _ _
  obtain ⟨M, hM, hp⟩ := new_ok l0
  obtain ⟨c, v, ps, q, h1, hq, hl⟩ := loose_ok hp 4 (by omega)
  obtain ⟨ps2, q2, h2, hq2, hg⟩ := long_ok hq
  have hl2 := grown_len hg
  obtain ⟨a1, a2⟩ := makeS_rows c v ps (by omega)
  obtain ⟨b1, b2⟩ := makeS_rows 0 0 ps2 (by omega)
  refine Ev.rounds (g := fun k => awardingbodylaw12_BookletMakes.f k l0) ?_
  unfold awardingbodylaw12_BookletMakes.f
  refine ev_bind_now hM (ev_bind h1 (ev_bind h2 (ev_bind (make_ev c v ps (by omega)) (ev_bind (rmake_ev c v ps (by omega)) (ev_bind (make_ev 0 0 ps2 (by omega)) (ev_bind (rmake_ev 0 0 ps2 (by omega)) ?_))))))
  exact ev_bind (same_self _ (by omega) a2) (ev_pos rfl (ev_pos rfl (ev_bind (same_self _ (by omega) b2) (ev_pos rfl (ev_pos rfl (ev_bind awake_ev (ev_some rfl)))))))

end Go.Proofs.Ytdmlbgdefapcjaa.Pure
