/- ItemLoose: for every tape and all numbers, stems and enemies the law answers true. No further conditions. -/
import Derived.Test.YtinmdoemkejanaaPrint16
import Derived.Test.YtinmdoemkejanaaItemGen
namespace Go.Proofs.Ytinmdoemkejanaa.Pure
open Go.RowKit Go.Proofs.Ytinmdoemkejanaa.Print Go.Proofs.YtinmdoemkejanaaW.PrintWords Go.Proofs.YtinmdoemkejanaaW.PrintLast Go.Proofs.YtinmdoemkejanaaW.PrintMore

theorem loose_end (a1 a2 : Int) (a3 : ByteArray) (l4 : List Int) (i v : Int) (s : ByteArray) (ps : List Part) (en : List Int) (h3 : a3.size ≤ 60) (h4 : l4.length ≤ 12) (hs : s.size ≤ 1000000000000) (hps : ps.length ≤ 1000000000000) (hen : en.length ≤ 1000000000000) :
    Ev (fun k => awardingbodylaw06_ItemLoose.j0 k a1 a2 a3 l4 false i v s ps en) true := by
  refine ev_step ?_ (fun k => by rw [awardingbodylaw06_ItemLoose.j0])
  refine ev_neg (by simp) ?_
  refine ev_bind (check_ev a1 v s ps en hs hps hen) (ev_bind (rcheck_ev a1 v s ps en hs hps hen) (ev_pos rfl ?_))
  refine ev_bind (check_ev i a2 s ps en hs hps hen) (ev_bind (rcheck_ev i a2 s ps en hs hps hen) (ev_pos rfl ?_))
  refine ev_bind (check_ev i v a3 ps en (by omega) hps hen) (ev_bind (rcheck_ev i v a3 ps en (by omega) hps hen) (ev_pos rfl ?_))
  refine ev_bind (check_ev i v s ps l4 hs hps (by omega)) (ev_bind (rcheck_ev i v s ps l4 hs hps (by omega)) (ev_pos rfl ?_))
  refine ev_bind (total_ev i v s ps l4 hs hps (by omega)) (ev_bind (rtotal_ev i v s ps l4 hs hps (by omega)) (ev_pos rfl ?_))
  exact ev_bind awake_ev (ev_some rfl)
theorem loose_out (a1 a2 : Int) (a3 : ByteArray) (l4 : List Int) (i v : Int) (s : ByteArray) (ps : List Part) (en : List Int) : Ev (fun k => awardingbodylaw06_ItemLoose.j0 k a1 a2 a3 l4 true i v s ps en) true := by
  refine ev_step ?_ (fun k => by rw [awardingbodylaw06_ItemLoose.j0])
  exact ev_pos rfl (ev_some rfl)

theorem ItemLoose : awardingbodylaw06_ItemLoose.Pure := by
  intro l a1 a2 a3 l4 _ _ _ _ _ _ _ _ _
  obtain ⟨M, h0, hp⟩ := new_ok l
  obtain ⟨i, v, s, ps, en, q3, h3, hq3, hs, hps, hen, _⟩ := item_gen hp 3 1 0 (by omega)
  have hs : s.size ≤ 1000000000000 := by omega
  have hps : ps.length ≤ 1000000000000 := by omega
  have hen : en.length ≤ 1000000000000 := by omega
  refine Ev.rounds (g := fun k => awardingbodylaw06_ItemLoose.f k l a1 a2 a3 l4) ?_
  unfold awardingbodylaw06_ItemLoose.f
  refine ev_bind_now h0 (ev_bind h3 (ev_ite (fun _ => loose_out _ _ _ _ _ _ _ _ _) (fun hz => ?_)))
  by_cases hl : (l4.length : Int) > 12
  · rw [decide_eq_true hl]; exact loose_out _ _ _ _ _ _ _ _ _
  · rw [decide_eq_false hl]; exact loose_end a1 a2 a3 l4 _ _ _ _ _ (by omega) (by omega) hs hps hen

end Go.Proofs.Ytinmdoemkejanaa.Pure
