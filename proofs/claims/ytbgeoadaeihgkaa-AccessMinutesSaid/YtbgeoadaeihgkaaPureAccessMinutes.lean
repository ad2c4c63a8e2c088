/- AccessMinutes: for all three numbers the law answers true (the law's row follows from it). No further conditions. -/
import Derived.Test.YtbgeoadaeihgkaaPrint11
import Derived.Test.YtbgeoadaeihgkaaTape
namespace Go.Proofs.Ytbgeoadaeihgkaa.Pure
open Go.RowKit Go.Proofs.Ytbgeoadaeihgkaa.Print Go.Proofs.YtbgeoadaeihgkaaW.PrintWords Go.Proofs.YtbgeoadaeihgkaaW.PrintLast

theorem minutes_same (k : Nat) (a b c : Int) : access_Minutes.f k a b c = awardingbodyref14_Minutes.f k a b c := by
  have hv : ∀ x y, access_valid.f x y = awardingbodyref14_Valid.f x y := fun _ _ => rfl
  have hj : ∀ k a b c d, access_Minutes.j0 k a b c d = awardingbodyref14_Minutes.j0 k a b c d := by
    intro k a b c d
    cases k <;> rfl
  unfold access_Minutes.f awardingbodyref14_Minutes.f
  simp only [hv, hj]

theorem valid_total (x y : Int) : ∃ b, access_valid.f x y = some b := by
  unfold access_valid.f
  repeat' split
  all_goals exact ⟨_, rfl⟩

theorem minutes_total (k : Nat) (a b c : Int) : ∃ r, access_Minutes.f (k + 1) a b c = some r := by
  obtain ⟨v, hv⟩ := valid_total b c
  unfold access_Minutes.f
  rw [hv]; simp only [Option.bind_some, access_Minutes.j0]
  repeat' split
  all_goals exact ⟨_, rfl⟩

theorem awake_ok : awardingbodylaw14_awake.f 8 = some true := by kernel_rfl

theorem AccessMinutes : awardingbodylaw14_AccessMinutes.Pure := by
  intro a0 a1 a2 _ _ _
  obtain ⟨x, hx, _⟩ := cut_ok a1 102 (by omega)
  obtain ⟨y, hy, _⟩ := cut_ok a2 65 (by omega)
  obtain ⟨z, hz, _⟩ := cut_ok a0 603 (by omega)
  obtain ⟨r, hr⟩ := minutes_total 7 a0 a1 a2
  obtain ⟨q, hq⟩ := minutes_total 7 z x y
  refine ⟨8, ?_⟩
  unfold awardingbodylaw14_AccessMinutes.f
  simp only [hx, hy, hz, ← minutes_same, hr, hq, Option.bind_some, awake_ok, if_true]

end Go.Proofs.Ytbgeoadaeihgkaa.Pure
