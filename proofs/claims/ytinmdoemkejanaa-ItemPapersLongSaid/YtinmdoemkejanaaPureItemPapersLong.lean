/- ItemPapersLong: for all numbers the law answers true. -/
import Derived.Test.YtinmdoemkejanaaPrint20
import Derived.Test.YtinmdoemkejanaaPaper
namespace Go.Proofs.Ytinmdoemkejanaa.Pure
open Go.RowKit Go.Proofs.Ytinmdoemkejanaa.Print Go.Proofs.YtinmdoemkejanaaW.PrintWords Go.Proofs.YtinmdoemkejanaaW.PrintLast Go.Proofs.YtinmdoemkejanaaW.PrintMore

theorem long_loop (a1 a2 a3 c v : Int) (d : Nat) : ∀ (ps : List Part), ps.length + d ≤ 90 →
    Ev (fun k => awardingbodylaw06_ItemPapersLong.l0 k a1 a2 a3 (d : Int) c v ps) true := by
  induction d with
  | zero =>
    intro ps hl
    have hp : ps.length ≤ 1000000000000 := by omega
    refine ev_step ?_ (fun k => by rw [awardingbodylaw06_ItemPapersLong.l0])
    refine ev_neg (by omega) ?_
    refine ev_bind (vp_ev c v ps hp) (ev_bind (rvp_ev c v ps hp) (ev_pos (by simp) ?_))
    refine ev_bind (pt_ev c v ps hp) (ev_bind (rpt_ev c v ps hp) (ev_pos rfl ?_))
    refine ev_bind (vp_ev a2 a3 ps hp) (ev_bind (rvp_ev a2 a3 ps hp) (ev_pos (by simp) ?_))
    exact ev_bind awake_ev (ev_some rfl)
  | succ d ih =>
    intro ps hl
    obtain ⟨m, hm, _⟩ := cut_ok a1 40 (by omega)
    have := ih (ps ++ [⟨1, wrap64 (1 + m), 0, 0, 0, 0⟩]) (by simp; omega)
    refine ev_step ?_ (fun k => by rw [awardingbodylaw06_ItemPapersLong.l0])
    refine ev_pos (by omega) (ev_bind_now hm (ev_pos (by omega) ?_))
    rw [wrap_id (x := ((d + 1 : Nat) : Int) - 1) (by omega) (by omega), show ((d + 1 : Nat) : Int) - 1 = (d : Int) by omega]
    exact this

theorem ItemPapersLong : awardingbodylaw06_ItemPapersLong.Pure := by
  intro a0 a1 a2 a3 _ _ _ _
  obtain ⟨c, h1, _⟩ := cut_ok a2 33 (by omega)
  obtain ⟨v, h2, _⟩ := cut_ok a3 5 (by omega)
  obtain ⟨d, h3, hd, _⟩ := cut_ok a0 27 (by omega)
  have hd := hd (by omega)
  obtain ⟨d, rfl⟩ : ∃ m : Nat, d = m := ⟨d.toNat, by omega⟩
  refine Ev.rounds (g := fun k => awardingbodylaw06_ItemPapersLong.f k a0 a1 a2 a3) ?_
  unfold awardingbodylaw06_ItemPapersLong.f
  exact ev_bind_now h1 (ev_bind_now h2 (ev_bind_now h3 (long_loop a1 a2 a3 c v d [] (by simp; omega))))

end Go.Proofs.Ytinmdoemkejanaa.Pure
