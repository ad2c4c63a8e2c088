/- AccessMany: for every number the law answers true. No further conditions. -/
import Derived.Test.YtbgeoadaeihgkaaPrint6
import Derived.Test.YtbgeoadaeihgkaaAccGen
namespace Go.Proofs.Ytbgeoadaeihgkaa.Pure
open Go.RowKit Go.Proofs.Ytbgeoadaeihgkaa.Print Go.Proofs.YtbgeoadaeihgkaaW.PrintWords Go.Proofs.YtbgeoadaeihgkaaW.PrintLast

theorem many_loop (d : Nat) : ∀ acc : List Rule, acc.length + d ≤ 1000 → (∀ r ∈ acc, ruleOk r = true) → Ev (fun k => awardingbodylaw14_AccessMany.l0 k acc (d : Int)) true := by
  induction d with
  | zero =>
    intro acc hl ho
    refine ev_step ?_ (fun k => by rw [awardingbodylaw14_AccessMany.l0])
    refine ev_neg (by omega) (ev_ite (fun h => ?_) (fun h => ?_))
    · refine ev_bind (check_ev acc (by omega)) (ev_pos ?_ (ev_bind awake_ev (ev_some rfl)))
      unfold checkS
      rw [if_pos (by omega)]
    · refine ev_bind (check_ev acc (by omega)) (ev_pos ?_ (ev_bind awake_ev (ev_some rfl)))
      unfold checkS
      rw [if_neg (by omega), List.all_eq_true.2 ho]
      rfl
  | succ d ih =>
    intro acc hl ho
    refine ev_step ?_ (fun k => by rw [awardingbodylaw14_AccessMany.l0])
    refine ev_pos (by omega) (ev_pos (by omega) ?_)
    rw [wrap_id (x := ((d + 1 : Nat) : Int) - 1) (by omega) (by omega), show ((d + 1 : Nat) : Int) - 1 = (d : Int) by omega]
    refine ih _ (by simp; omega) (fun r hr => ?_)
    rcases List.mem_append.1 hr with hr | hr
    · exact ho r hr
    · rw [List.mem_singleton.1 hr]; decide

theorem AccessMany : awardingbodylaw14_AccessMany.Pure := by
  intro a0 _
  obtain ⟨v, hv, h, _⟩ := cut_ok a0 5 (by omega)
  obtain ⟨d, hd⟩ : ∃ d : Nat, 10 + v = d := ⟨(10 + v).toNat, by omega⟩
  refine Ev.rounds (g := fun k => awardingbodylaw14_AccessMany.f k a0) ?_
  unfold awardingbodylaw14_AccessMany.f
  refine ev_bind_now hv ?_
  rw [wrap_id (by omega) (by omega), hd]
  exact many_loop d [] (by simp; omega) (by simp)

end Go.Proofs.Ytbgeoadaeihgkaa.Pure
