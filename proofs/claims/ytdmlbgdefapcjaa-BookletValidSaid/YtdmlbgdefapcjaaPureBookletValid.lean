/- BookletValid: for every tape the law answers true. No further conditions. -/
import Derived.Test.YtdmlbgdefapcjaaPrint22
import Derived.Test.YtdmlbgdefapcjaaBook2
import Derived.Test.YtdmlbgdefapcjaaPaperGen
namespace Go.Proofs.Ytdmlbgdefapcjaa.Pure
open Go.RowKit Go.Proofs.Ytdmlbgdefapcjaa.Print Go.Proofs.YtdmlbgdefapcjaaW.PrintWords Go.Proofs.YtdmlbgdefapcjaaW.PrintLast

theorem valid_j0 (L : List Int) (c v : Int) (ps : List Part) (p : Int) (hp : TP L p) (hl : ps.length ≤ 1000) : Ev (fun k => awardingbodylaw12_BookletValid.j0 k L p c v ps) true := by
  obtain ⟨B, q, hB, hq, hb, hs⟩ := shaped_ok hp c v ps hl
  have hr : ∀ r ∈ B, r.length ≤ 1000000 := fun r h => by have := hs.2 r h; omega
  refine ev_step ?_ (fun k => by rw [awardingbodylaw12_BookletValid.j0])
  exact ev_bind hB (ev_bind (bvalid_ev c v ps B hl hb hr) (ev_bind (rbvalid_ev c v ps B hl hb hr) (ev_pos (by simp) (ev_bind awake_ev (ev_some rfl)))))

theorem BookletValid : awardingbodylaw12_BookletValid.Pure := by
  intro l0 _ _ _
  obtain ⟨M, hM, hp⟩ := new_ok l0
  obtain ⟨c, v, ps, q, h1, hq, hl⟩ := loose_ok hp 10 (by omega)
  obtain ⟨t, q2, h2, hq2, _⟩ := next_ok hq 2 (by omega)
  refine Ev.rounds (g := fun k => awardingbodylaw12_BookletValid.f k l0) ?_
  unfold awardingbodylaw12_BookletValid.f
  refine ev_bind_now hM (ev_bind h1 (ev_bind_now h2 (ev_ite (fun _ => ?_) (fun _ => valid_j0 M c v ps q2 hq2 (by omega)))))
  obtain ⟨ps2, q3, h3, hq3, hg⟩ := long_ok hq2
  exact ev_bind h3 (valid_j0 M 0 0 ps2 q3 hq3 (by have := grown_len hg; omega))

end Go.Proofs.Ytdmlbgdefapcjaa.Pure
