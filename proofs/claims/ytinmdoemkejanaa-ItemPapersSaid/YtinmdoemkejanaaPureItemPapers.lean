/- ItemPapers: for every tape the law answers true. -/
import Derived.Test.YtinmdoemkejanaaPrint29
import Derived.Test.YtinmdoemkejanaaInts
import Derived.Test.YtinmdoemkejanaaPaper
namespace Go.Proofs.Ytinmdoemkejanaa.Pure
open Go.RowKit Go.Proofs.Ytinmdoemkejanaa.Print Go.Proofs.YtinmdoemkejanaaW.PrintWords Go.Proofs.YtinmdoemkejanaaW.PrintLast Go.Proofs.YtinmdoemkejanaaW.PrintMore
set_option linter.unusedVariables false

theorem paper_loop (L : List Int) (c v : Int) (d : Nat) : ∀ (ps : List Part) (p : Int), ps.length + d ≤ 90 → TP L p →
    ∃ (ps' : List Part) (q : Int), Ev (fun k => awardingbodymake_Tape_Paper.l0 k (d : Int) L p c v ps) (c, v, ps', q) ∧ TP L q ∧ ps'.length = ps.length + d := by
  induction d with
  | zero =>
    intro ps p hl hp
    exact ⟨ps, p, (by refine ev_step ?_ (fun k => by rw [awardingbodymake_Tape_Paper.l0]); exact ev_neg (by omega) (ev_some rfl)), hp, by omega⟩
  | succ d ih =>
    intro ps p hl hp
    obtain ⟨x, q1, hr, hq1, _⟩ := part_gen hp 0 (by omega)
    obtain ⟨ps', q, hv, hq, hk⟩ := ih (ps ++ [x]) q1 (by simp; omega) hq1
    refine ⟨ps', q, (by refine ev_step ?_ (fun k => by rw [awardingbodymake_Tape_Paper.l0]); refine ev_pos (by omega) (ev_bind hr (ev_pos (by omega) ?_)); rw [wrap_id (x := ((d + 1 : Nat) : Int) - 1) (by omega) (by omega), show ((d + 1 : Nat) : Int) - 1 = (d : Int) by omega]; exact hv), hq, ?_⟩
    rw [hk]; simp; omega
theorem paper_gen {L : List Int} {p : Int} (h : TP L p) (c v : Int) :
    ∃ (ps' : List Part) (q : Int), Ev (fun k => awardingbodymake_Tape_Paper.f k L p c v) (c, v, ps', q) ∧ TP L q ∧ ps'.length ≤ 6 := by
  obtain ⟨d, q1, hr, hq1, hd⟩ := range_ok h 1 6 (by omega) (by omega) (by omega)
  obtain ⟨d, rfl⟩ : ∃ m : Nat, d = m := ⟨d.toNat, by omega⟩
  obtain ⟨ps', q, hv, hq, hk⟩ := paper_loop L c v d [] q1 (by simp; omega) hq1
  refine ⟨ps', q, ?_, hq, by simp at hk; omega⟩
  unfold awardingbodymake_Tape_Paper.f
  exact ev_bind_now hr hv
theorem loose_l0 (L : List Int) (c v : Int) (p : Int) (d : Nat) : ∀ (e : Int) (ps : List Part), e + d = 6 → 0 ≤ e → ps.length + d ≤ 90 →
    ∃ ps' : List Part, Ev (fun k => awardingbodymake_Tape_LoosePaper.l0 k e L p c v ps) (c, v, ps', p) ∧ ps'.length = ps.length + d := by
  induction d with
  | zero =>
    intro e ps he h0 hl
    exact ⟨ps, (by refine ev_step ?_ (fun k => by rw [awardingbodymake_Tape_LoosePaper.l0]); exact ev_neg (by omega) (ev_some rfl)), by omega⟩
  | succ d ih =>
    intro e ps he h0 hl
    obtain ⟨ps', hv, hk⟩ := ih (e + 1) (ps ++ [⟨1, 40, 0, 0, 0, 0⟩]) (by omega) (by omega) (by simp; omega)
    refine ⟨ps', (by refine ev_step ?_ (fun k => by rw [awardingbodymake_Tape_LoosePaper.l0]); refine ev_pos (by omega) (ev_pos (by omega) ?_); rw [wrap_id (x := e + 1) (by omega) (by omega)]; exact hv), ?_⟩
    rw [hk]; simp; omega
theorem loose_j0 {L : List Int} {p : Int} (h : TP L p) (b : Bool) (c v : Int) (ps : List Part) (hl : ps.length ≤ 20) :
    ∃ (c' v' : Int) (ps' : List Part) (q : Int), Ev (fun k => awardingbodymake_Tape_LoosePaper.j0 k b L p c v ps) (c', v', ps', q) ∧ ps'.length ≤ 100 := by
  by_cases hb : b = true
  · obtain ⟨m, q, hr, hq, _⟩ := next_ok h 5 (by omega)
    by_cases m0 : m = 0
    · obtain ⟨x, q2, hr2, hq2⟩ := wild_ok hq
      exact ⟨x, v, ps, q2, (by refine ev_step ?_ (fun k => by rw [awardingbodymake_Tape_LoosePaper.j0]); exact ev_pos hb (ev_bind_now hr (ev_pos m0 (ev_bind_now hr2 (ev_some rfl))))), by omega⟩
    by_cases m1 : m = 1
    · obtain ⟨x, q2, hr2, hq2, _⟩ := range_ok hq (-1) 5 (by omega) (by omega) (by omega)
      exact ⟨c, x, ps, q2, (by refine ev_step ?_ (fun k => by rw [awardingbodymake_Tape_LoosePaper.j0]); exact ev_pos hb (ev_bind_now hr (ev_neg m0 (ev_pos m1 (ev_bind_now hr2 (ev_some rfl)))))), by omega⟩
    by_cases m2 : m = 2
    · exact ⟨c, v, [], q, (by refine ev_step ?_ (fun k => by rw [awardingbodymake_Tape_LoosePaper.j0]); exact ev_pos hb (ev_bind_now hr (ev_neg m0 (ev_neg m1 (ev_pos m2 (ev_some rfl)))))), by simp⟩
    by_cases m3 : m = 3
    · obtain ⟨x, q2, hr2, hq2, _⟩ := part_gen hq 1 (by omega)
      exact ⟨c, v, ps ++ [x], q2, (by refine ev_step ?_ (fun k => by rw [awardingbodymake_Tape_LoosePaper.j0]); exact ev_pos hb (ev_bind_now hr (ev_neg m0 (ev_neg m1 (ev_neg m2 (ev_pos m3 (ev_bind hr2 (ev_pos (by omega) (ev_some rfl)))))))) ), by simp; omega⟩
    · obtain ⟨ps', hv, hk⟩ := loose_l0 L c v q 6 0 ps (by omega) (by omega) (by omega)
      exact ⟨c, v, ps', q, (by refine ev_step ?_ (fun k => by rw [awardingbodymake_Tape_LoosePaper.j0]); exact ev_pos hb (ev_bind_now hr (ev_neg m0 (ev_neg m1 (ev_neg m2 (ev_neg m3 hv)))))), by omega⟩
  · exact ⟨c, v, ps, p, (by refine ev_step ?_ (fun k => by rw [awardingbodymake_Tape_LoosePaper.j0]); exact ev_neg hb (ev_some rfl)), by omega⟩

theorem ItemPapers : awardingbodylaw06_ItemPapers.Pure := by
  intro l _ _ _
  obtain ⟨M, h0, hp⟩ := new_ok l
  obtain ⟨c, q1, h1, hq1, _⟩ := range_ok hp 0 3 (by omega) (by omega) (by omega)
  obtain ⟨v, q2, h2, hq2, _⟩ := next_ok hq1 3 (by omega)
  obtain ⟨ps, q3, h3, hq3, hl⟩ := paper_gen hq2 c v
  obtain ⟨b, q4, h4, hq4⟩ := one_ok hq3 2 (by omega)
  obtain ⟨c', v', ps', q5, h5, hl5⟩ := loose_j0 hq4 b c v ps (by omega)
  have hp' : ps'.length ≤ 1000000000000 := by omega
  have hc := chS_length c' v' ps'
  have loose : Ev (fun k => awardingbodymake_Tape_LoosePaper.f k M 0 2) (c', v', ps', q5) := by
    unfold awardingbodymake_Tape_LoosePaper.f
    exact ev_bind_now h1 (ev_bind_now h2 (ev_bind h3 (ev_pos (by omega) (ev_bind_now h4 h5))))
  refine Ev.rounds (g := fun k => awardingbodylaw06_ItemPapers.f k l) ?_
  unfold awardingbodylaw06_ItemPapers.f
  refine ev_bind_now h0 (ev_bind loose ?_)
  refine ev_bind (vp_ev c' v' ps' hp') (ev_bind (rvp_ev c' v' ps' hp') (ev_pos (by simp) ?_))
  refine ev_bind (pt_ev c' v' ps' hp') (ev_bind (rpt_ev c' v' ps' hp') (ev_pos rfl ?_))
  refine ev_bind (ch_ev c' v' ps' hp') (ev_bind (rch_ev c' v' ps' hp') (ev_bind (ints_self _ (by omega)) (ev_pos rfl ?_)))
  exact ev_bind awake_ev (ev_some rfl)

end Go.Proofs.Ytinmdoemkejanaa.Pure
