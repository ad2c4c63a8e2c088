/- AccessGrants: for every tape and time the law answers true. No further conditions. -/
import Derived.Test.YtbgeoadaeihgkaaPrint9
import Derived.Test.YtbgeoadaeihgkaaAccGen
namespace Go.Proofs.Ytbgeoadaeihgkaa.Pure
open Go.RowKit Go.Proofs.Ytbgeoadaeihgkaa.Print Go.Proofs.YtbgeoadaeihgkaaW.PrintWords Go.Proofs.YtbgeoadaeihgkaaW.PrintLast

theorem grants_loop (rules : List Rule) (l : List Evid) (hr : rules.length ≤ 1000) (hl : l.length ≤ 1000) (L : List Int) (d : Nat) : ∀ (i : Nat) (t p : Int), i + d = 2 → TP L p →
    Ev (fun k => awardingbodylaw14_AccessGrants.l0 k t rules l (i : Int) L p) true := by
  induction d with
  | zero =>
    intro i t p hi hp
    refine ev_step ?_ (fun k => by rw [awardingbodylaw14_AccessGrants.l0])
    exact ev_neg (by omega) (ev_bind awake_ev (ev_some rfl))
  | succ d ih =>
    intro i t p hi hp
    refine ev_step ?_ (fun k => by rw [awardingbodylaw14_AccessGrants.l0])
    obtain ⟨v, q, hv, hq, _⟩ := range_ok hp 0 30 (by omega) (by omega) (by omega)
    refine ev_pos (by omega) (ev_bind (grant_ev rules l (i : Int) t (by omega) (by omega)) (ev_bind (rgrant_ev rules l (i : Int) t (by omega) (by omega)) (ev_neg (by simp) (ev_pos rfl ?_))))
    refine ev_bind (reasons_ev rules l (i : Int) t (by omega) (by omega)) (ev_bind (rreasons_ev rules l (i : Int) t (by omega) (by omega)) (ev_bind (ints_self _ ?_) (ev_pos rfl (ev_bind_now hv ?_))))
    · have := resFrom_length l (i : Int) t rules 0
      split
      · omega
      · simp
    · rw [wrap_id (x := (i : Int) + 1) (by omega) (by omega), show (i : Int) + 1 = ((i + 1 : Nat) : Int) by omega]
      exact ih (i + 1) v q (by omega) hq

theorem AccessGrants : awardingbodylaw14_AccessGrants.Pure := by
  intro l0 a1 _ _ _ _
  obtain ⟨M, hM, hp⟩ := new_ok l0
  obtain ⟨rules, q, h1, hq, hl, _⟩ := rules_ok hp 8 (by omega)
  obtain ⟨l, q2, h2, hq2, hl2⟩ := evidence_ok hq
  refine Ev.rounds (g := fun k => awardingbodylaw14_AccessGrants.f k l0 a1) ?_
  unfold awardingbodylaw14_AccessGrants.f
  exact ev_bind_now hM (ev_bind h1 (ev_bind h2 (grants_loop rules l (by omega) (by omega) M 2 0 a1 q2 (by omega) hq2)))

end Go.Proofs.Ytbgeoadaeihgkaa.Pure
