/- Ints finds a list equal to itself. -/
import Derived.Test.YtinmdoemkejanaaPrint5
import Derived.Test.YtinmdoemkejanaaTape
namespace Go.Proofs.Ytinmdoemkejanaa.Pure
open Go.RowKit Go.Proofs.Ytinmdoemkejanaa.Print Go.Proofs.YtinmdoemkejanaaW.PrintWords Go.Proofs.YtinmdoemkejanaaW.PrintLast Go.Proofs.YtinmdoemkejanaaW.PrintMore

theorem ints_loop (l : List Int) (hl : l.length ≤ 1000000000000) (d : Nat) : ∀ i : Nat, i + d = l.length → Ev (fun k => awardingbodyref06_Ints.l0 k l l (i : Int)) true := by
  induction d with
  | zero =>
    intro i hi
    refine ev_step ?_ (fun k => by rw [awardingbodyref06_Ints.l0])
    exact ev_neg (by omega) (ev_some rfl)
  | succ d ih =>
    intro i hi
    refine ev_step ?_ (fun k => by rw [awardingbodyref06_Ints.l0])
    refine ev_pos (by omega) (ev_pos (by omega) (ev_pos (by omega) (ev_pos rfl ?_)))
    rw [next_index i l.length (by omega) hl]
    exact ih (i + 1) (by omega)
theorem ints_self (l : List Int) (hl : l.length ≤ 1000000000000) : Ev (fun k => awardingbodyref06_Ints.f k l l) true := by
  unfold awardingbodyref06_Ints.f
  exact ev_pos rfl (ints_loop l hl l.length 0 (by omega))

end Go.Proofs.Ytinmdoemkejanaa.Pure
