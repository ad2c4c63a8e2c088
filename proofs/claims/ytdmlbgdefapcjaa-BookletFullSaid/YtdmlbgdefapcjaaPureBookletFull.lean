/- BookletFull: for both numbers the law answers true. No further conditions. -/
import Derived.Test.YtdmlbgdefapcjaaPrint19
import Derived.Test.YtdmlbgdefapcjaaBook
namespace Go.Proofs.Ytdmlbgdefapcjaa.Pure
open Go.RowKit Go.Proofs.Ytdmlbgdefapcjaa.Print Go.Proofs.YtdmlbgdefapcjaaW.PrintWords Go.Proofs.YtdmlbgdefapcjaaW.PrintLast

theorem full_loop (m : Int) (d : Nat) : ∀ ps : List Part, ps.length + d ≤ 1000 → Ev (fun k => awardingbodylaw12_BookletFull.l0 k m (d : Int) 0 0 ps) true := by
  obtain ⟨t, ht, _⟩ := cut_ok m 40 (by omega)
  induction d with
  | zero =>
    intro ps hp
    refine ev_step ?_ (fun k => by rw [awardingbodylaw12_BookletFull.l0])
    obtain ⟨h1, h2⟩ := makeS_rows 0 0 ps (by omega)
    refine ev_neg (by omega) (ev_bind (make_ev 0 0 ps (by omega)) (ev_bind (rmake_ev 0 0 ps (by omega)) (ev_bind (same_self _ (by omega) h2) (ev_pos rfl (ev_pos rfl (ev_bind awake_ev (ev_some rfl)))))))
  | succ d ih =>
    intro ps hp
    refine ev_step ?_ (fun k => by rw [awardingbodylaw12_BookletFull.l0])
    rw [wrap_id (x := ((d + 1 : Nat) : Int) - 1) (by omega) (by omega), show ((d + 1 : Nat) : Int) - 1 = (d : Int) by omega]
    exact ev_pos (by omega) (ev_bind_now ht (ev_pos (by omega) (ih _ (by rw [List.length_append, List.length_singleton]; omega))))

theorem BookletFull : awardingbodylaw12_BookletFull.Pure := by
  intro a0 a1 _ _
  obtain ⟨n, hn, h1, _⟩ := cut_ok a0 25 (by omega)
  have h1 := h1 (by omega)
  obtain ⟨d, rfl⟩ : ∃ d : Nat, n = d := ⟨n.toNat, by omega⟩
  refine Ev.rounds (g := fun k => awardingbodylaw12_BookletFull.f k a0 a1) ?_
  unfold awardingbodylaw12_BookletFull.f
  exact ev_bind_now hn (full_loop a1 d [] (by simp; omega))

end Go.Proofs.Ytdmlbgdefapcjaa.Pure
