/- The generator of thresholds: it answers; where no mistake is asked for, the threshold is valid. -/
import Derived.Test.YthbmpjglkbhhgaaPrint3
import Derived.Test.YthbmpjglkbhhgaaBub
import Derived.Test.YthbmpjglkbhhgaaPartGen2
namespace Go.Proofs.Ythbmpjglkbhhgaa.Pure
open Go.RowKit Go.Proofs.Ythbmpjglkbhhgaa.Print Go.Proofs.YthbmpjglkbhhgaaW.PrintWords Go.Proofs.YthbmpjglkbhhgaaW.PrintLast Go.Proofs.YthbmpjglkbhhgaaW.PrintMore

theorem spoil_ok {L : List Int} {p : Int} (h : TP L p) (x n : Int) (hn : n ≤ 1000000) : ∃ v q, awardingbodymake_Tape_Spoil.f L p x n = some (v, q) ∧ TP L q ∧ (n ≤ 0 → v = x) := by
  unfold awardingbodymake_Tape_Spoil.f
  by_cases hp : n > 0
  · obtain ⟨b, q, hr, hq⟩ := one_ok h n (by omega)
    obtain ⟨v, q2, hr2, hq2⟩ := Bk.wild_ok hq
    rw [if_pos hp, hr]
    simp only [Option.bind_some]
    by_cases hb : b = true
    · rw [if_pos hb, hr2]; exact ⟨v, q2, rfl, hq2, by omega⟩
    · rw [if_neg hb]; exact ⟨x, q, rfl, hq, by omega⟩
  · rw [if_neg hp]; exact ⟨x, p, rfl, h, fun _ => rfl⟩
theorem threshold_ok {L : List Int} {p : Int} (h : TP L p) (n : Int) (hn : n ≤ 1000000) :
    ∃ d f ld q, awardingbodymake_Tape_Threshold.f L p n = some (d, f, ld, q) ∧ TP L q ∧ (n ≤ 0 → thrB d f ld = true) := by
  obtain ⟨v1, q1, h1, hq1, hv1⟩ := range_ok h 3 8 (by omega) (by omega) (by omega)
  obtain ⟨v2, q2, h2, hq2, hv2⟩ := spoil_ok hq1 v1 n hn
  obtain ⟨v3, q3, h3, hq3, hv3⟩ := range_ok hq2 1 v1 (by omega) (by omega) (by omega)
  obtain ⟨v4, q4, h4, hq4, hv4⟩ := spoil_ok hq3 v3 n hn
  obtain ⟨v5, q5, h5, hq5, hv5⟩ := range_ok hq4 1 4 (by omega) (by omega) (by omega)
  obtain ⟨v6, q6, h6, hq6, hv6⟩ := spoil_ok hq5 v5 n hn
  refine ⟨v2, v4, v6, q6, ?_, hq6, fun h0 => ?_⟩
  · unfold awardingbodymake_Tape_Threshold.f
    simp only [h1, h2, h3, h4, h5, h6, Option.bind_some]
  · have := hv2 h0
    have := hv4 h0
    have := hv6 h0
    exact decide_eq_true (by omega)

end Go.Proofs.Ythbmpjglkbhhgaa.Pure
