/- The generators of rules, evidence and accesses: they answer; the rules are few, and valid where no mistake is asked for. -/
import Derived.Test.YtbgeoadaeihgkaaPrint3
import Derived.Test.YtbgeoadaeihgkaaPrint12
import Derived.Test.YtbgeoadaeihgkaaPrint27
import Derived.Test.YtbgeoadaeihgkaaAcc2
namespace Go.Proofs.Ytbgeoadaeihgkaa.Pure
open Go.RowKit Go.Proofs.Ytbgeoadaeihgkaa.Print Go.Proofs.YtbgeoadaeihgkaaW.PrintWords Go.Proofs.YtbgeoadaeihgkaaW.PrintLast Go.Proofs.YtbgeoadaeihgkaaW.PrintMore

theorem wild_ok {L : List Int} {p : Int} (h : TP L p) : ∃ v q, awardingbodymake_Tape_Wild.f L p = some (v, q) ∧ TP L q := by
  unfold awardingbodymake_Tape_Wild.f
  obtain ⟨v, q, hr, hq, _⟩ := pick_ok h [(-1), 0, 1, 2, 31, 32, 99, 100, 200, 201, 9999, 10000, 1000000, 1000001, 1152921504606846976, 1152921504606846977, (-1152921504606846976), 9223372036854775807, (-9223372036854775808)] (by simp) (by simp)
  rw [hr]
  exact ⟨v, q, rfl, hq⟩
theorem spoil_ok {L : List Int} {p : Int} (h : TP L p) (x n : Int) (hn : n ≤ 1000000) : ∃ v q, awardingbodymake_Tape_Spoil.f L p x n = some (v, q) ∧ TP L q ∧ (n ≤ 0 → v = x) := by
  unfold awardingbodymake_Tape_Spoil.f
  by_cases hp : n > 0
  · obtain ⟨b, q, hr, hq⟩ := one_ok h n (by omega)
    obtain ⟨v, q2, hr2, hq2⟩ := wild_ok hq
    rw [if_pos hp, hr]
    simp only [Option.bind_some]
    by_cases hb : b = true
    · rw [if_pos hb, hr2]; exact ⟨v, q2, rfl, hq2, by omega⟩
    · rw [if_neg hb]; exact ⟨x, q, rfl, hq, by omega⟩
  · rw [if_neg hp]; exact ⟨x, p, rfl, h, fun _ => rfl⟩

theorem mem6 {v : Int} (h : v ∈ ([0, 10, 25, 26, 50, 100] : List Int)) : 0 ≤ v ∧ v ≤ 100 := by
  simp only [List.mem_cons, List.not_mem_nil, or_false] at h; omega
theorem mem8 {v : Int} (h : v ∈ ([0, 2, 4, 8, 16, 32, 6, 63] : List Int)) : Nd v := by
  simp only [List.mem_cons, List.not_mem_nil, or_false] at h; unfold Nd; omega

theorem rules_loop (L : List Int) (n : Int) (hn : n ≤ 1000000) (d : Nat) : ∀ (acc : List Rule) (p : Int), acc.length + d ≤ 1000 → (∀ r ∈ acc, ruleOk r = true) → TP L p →
    ∃ out q, Ev (fun k => awardingbodymake_Tape_Rules.l0 k n acc (d : Int) L p) (out, q) ∧ TP L q ∧ out.length ≤ acc.length + d + 1 ∧ (n ≤ 0 → out.length = acc.length + d ∧ ∀ r ∈ out, ruleOk r = true) := by
  induction d with
  | zero =>
    intro acc p hl ho hp
    by_cases h : n > 0
    · obtain ⟨b, q, hr, hq⟩ := one_ok hp n (by omega)
      by_cases hb : b = true
      · obtain ⟨v1, q1, h1, hq1, _⟩ := pick_ok hq [0, 1, 9, 10] (by simp) (by simp)
        obtain ⟨v2, q2, h2, hq2, _⟩ := pick_ok hq1 [0, 1, 9, 10] (by simp) (by simp)
        obtain ⟨v3, q3, h3, hq3, _⟩ := pick_ok hq2 [(-1), 0, 100, 101] (by simp) (by simp)
        obtain ⟨v4, q4, h4, hq4, _⟩ := pick_ok hq3 [(-1), 0, 63, 64] (by simp) (by simp)
        refine ⟨acc ++ [⟨v1, v2, v3, v4⟩], q4, ?_, hq4, by simp, by omega⟩
        refine ev_step ?_ (fun k => by rw [awardingbodymake_Tape_Rules.l0])
        refine ev_neg (by omega) (ev_pos h (ev_bind_now hr ?_))
        refine ev_step ?_ (fun k => by rw [awardingbodymake_Tape_Rules.j1])
        exact ev_pos hb (ev_bind_now h1 (ev_bind_now h2 (ev_bind_now h3 (ev_bind_now h4 (ev_pos (by omega) (ev_some rfl))))))
      · refine ⟨acc, q, ?_, hq, by omega, by omega⟩
        refine ev_step ?_ (fun k => by rw [awardingbodymake_Tape_Rules.l0])
        refine ev_neg (by omega) (ev_pos h (ev_bind_now hr ?_))
        refine ev_step ?_ (fun k => by rw [awardingbodymake_Tape_Rules.j1])
        exact ev_neg hb (ev_some rfl)
    · refine ⟨acc, p, ?_, hp, by omega, fun _ => ⟨by omega, ho⟩⟩
      refine ev_step ?_ (fun k => by rw [awardingbodymake_Tape_Rules.l0])
      refine ev_neg (by omega) (ev_neg h ?_)
      refine ev_step ?_ (fun k => by rw [awardingbodymake_Tape_Rules.j1])
      exact ev_neg (by decide) (ev_some rfl)
  | succ d ih =>
    intro acc p hl ho hp
    obtain ⟨v1, q1, h1, hq1, hv1⟩ := range_ok hp 1 3 (by omega) (by omega) (by omega)
    obtain ⟨v2, q2, h2, hq2, hv2⟩ := range_ok hq1 1 9 (by omega) (by omega) (by omega)
    obtain ⟨v3, q3, h3, hq3, hv3⟩ := pick_ok hq2 [0, 10, 25, 26, 50, 100] (by simp) (by simp)
    obtain ⟨v4, q4, h4, hq4, hv4⟩ := pick_ok hq3 [0, 2, 4, 8, 16, 32, 6, 63] (by simp) (by simp)
    have hok : ruleOk (⟨v1, v2, v3, v4⟩ : Rule) = true := by
      have a := mem6 hv3
      have b := mem8 hv4
      simp only [ruleOk, Bool.and_eq_true, decide_eq_true_eq, validB_iff]
      exact ⟨by omega, by omega, by omega, b⟩
    obtain ⟨out, q, he, hq, hlen, hk⟩ := ih (acc ++ [⟨v1, v2, v3, v4⟩]) q4 (by simp; omega) (fun r hr => by
      rcases List.mem_append.1 hr with hr | hr
      · exact ho r hr
      · rw [List.mem_singleton.1 hr]; exact hok) hq4
    refine ⟨out, q, ?_, hq, by simp at hlen; omega, fun hn0 => ⟨by have := (hk hn0).1; simp at this; omega, (hk hn0).2⟩⟩
    refine ev_step ?_ (fun k => by rw [awardingbodymake_Tape_Rules.l0])
    refine ev_pos (by omega) (ev_bind_now h1 (ev_bind_now h2 (ev_bind_now h3 (ev_bind_now h4 (ev_pos (by omega) ?_)))))
    rw [wrap_id (x := ((d + 1 : Nat) : Int) - 1) (by omega) (by omega), show ((d + 1 : Nat) : Int) - 1 = (d : Int) by omega]
    exact he

theorem rules_ok {L : List Int} {p : Int} (h : TP L p) (n : Int) (hn : n ≤ 1000000) :
    ∃ out q, Ev (fun k => awardingbodymake_Tape_Rules.f k L p n) (out, q) ∧ TP L q ∧ out.length ≤ 6 ∧ (n ≤ 0 → out.length ≤ 5 ∧ ∀ r ∈ out, ruleOk r = true) := by
  obtain ⟨v, q, hr, hq, hv, _⟩ := next_ok h 6 (by omega)
  obtain ⟨d, rfl⟩ : ∃ d : Nat, v = d := ⟨v.toNat, by omega⟩
  obtain ⟨out, q2, he, hq2, hl, hk⟩ := rules_loop L n hn d [] q (by simp; omega) (by simp) hq
  refine ⟨out, q2, ?_, hq2, by simp at hl; omega, fun hn0 => ⟨by have := (hk hn0).1; simp at this; omega, (hk hn0).2⟩⟩
  unfold awardingbodymake_Tape_Rules.f
  exact ev_bind_now hr he

theorem evidence_loop (L : List Int) (d : Nat) : ∀ (acc : List Evid) (p : Int), acc.length + d ≤ 1000 → TP L p →
    ∃ out q, Ev (fun k => awardingbodymake_Tape_Evidence.l0 k acc (d : Int) L p) (out, q) ∧ TP L q ∧ out.length = acc.length + d := by
  induction d with
  | zero =>
    intro acc p hl hp
    refine ⟨acc, p, ?_, hp, by omega⟩
    refine ev_step ?_ (fun k => by rw [awardingbodymake_Tape_Evidence.l0])
    exact ev_neg (by omega) (ev_some rfl)
  | succ d ih =>
    intro acc p hl hp
    obtain ⟨v1, q1, h1, hq1, hv1⟩ := range_ok hp 0 20 (by omega) (by omega) (by omega)
    obtain ⟨v2, q2, h2, hq2, hv2, _⟩ := next_ok hq1 2 (by omega)
    obtain ⟨v3, q3, h3, hq3, hv3⟩ := range_ok hq2 1 3 (by omega) (by omega) (by omega)
    obtain ⟨v4, q4, h4, hq4, _⟩ := spoil_ok hq3 v3 10 (by omega)
    obtain ⟨v5, q5, h5, hq5, hv5⟩ := range_ok hq4 1 9 (by omega) (by omega) (by omega)
    obtain ⟨v6, q6, h6, hq6, _⟩ := spoil_ok hq5 v5 10 (by omega)
    obtain ⟨v7, q7, h7, hq7, hv7⟩ := range_ok hq6 (-1) 12 (by omega) (by omega) (by omega)
    obtain ⟨out, q, he, hq, hlen⟩ := ih (acc ++ [⟨v2, v4, v6, v1, wrap64 (v1 + v7)⟩]) q7 (by simp; omega) hq7
    refine ⟨out, q, ?_, hq, by simp at hlen; omega⟩
    refine ev_step ?_ (fun k => by rw [awardingbodymake_Tape_Evidence.l0])
    refine ev_pos (by omega) (ev_bind_now h1 (ev_bind_now h2 (ev_bind_now h3 (ev_bind_now h4 (ev_bind_now h5 (ev_bind_now h6 (ev_bind_now h7 (ev_pos (by omega) ?_))))))))
    rw [wrap_id (x := ((d + 1 : Nat) : Int) - 1) (by omega) (by omega), show ((d + 1 : Nat) : Int) - 1 = (d : Int) by omega]
    exact he

theorem evidence_ok {L : List Int} {p : Int} (h : TP L p) :
    ∃ out q, Ev (fun k => awardingbodymake_Tape_Evidence.f k L p) (out, q) ∧ TP L q ∧ out.length ≤ 6 := by
  obtain ⟨v, q, hr, hq, hv, _⟩ := next_ok h 7 (by omega)
  obtain ⟨d, rfl⟩ : ∃ d : Nat, v = d := ⟨v.toNat, by omega⟩
  obtain ⟨out, q2, he, hq2, hl⟩ := evidence_loop L d [] q (by simp; omega) hq
  refine ⟨out, q2, ?_, hq2, by simp at hl; omega⟩
  unfold awardingbodymake_Tape_Evidence.f
  exact ev_bind_now hr he

theorem access_ok {L : List Int} {p : Int} (h : TP L p) : ∃ e n q, awardingbodymake_Tape_Access.f L p 0 = some (e, n, q) ∧ TP L q ∧ validB e n = true := by
  obtain ⟨v1, q1, h1, hq1, hv1⟩ := pick_ok h [0, 5, 25, 26, 50, 100] (by simp) (by simp)
  obtain ⟨v2, q2, h2, hq2, hv2⟩ := spoil_ok hq1 v1 0 (by omega)
  obtain ⟨v3, q3, h3, hq3, hv3⟩ := range_ok hq2 0 63 (by omega) (by omega) (by omega)
  obtain ⟨v4, q4, h4, hq4, hv4⟩ := spoil_ok hq3 v3 0 (by omega)
  obtain rfl := hv2 (by omega)
  obtain rfl := hv4 (by omega)
  refine ⟨v2, v4, q4, ?_, hq4, ?_⟩
  · unfold awardingbodymake_Tape_Access.f
    rw [h1]; simp only [Option.bind_some]
    rw [h2]; simp only [Option.bind_some]
    rw [h3]; simp only [Option.bind_some]
    rw [h4]; rfl
  · simp only [List.mem_cons, List.not_mem_nil, or_false] at hv1
    exact validB_iff.2 ⟨by omega, by omega, by unfold Nd; omega⟩

theorem ints_loop (l : List Int) (hl : l.length ≤ 1000000000000) (d : Nat) : ∀ i : Nat, i + d = l.length → Ev (fun k => awardingbodyref06_Ints.l0 k l l (i : Int)) true := by
  induction d with
  | zero =>
    intro i hi
    refine ev_step ?_ (fun k => by rw [awardingbodyref06_Ints.l0])
    exact ev_neg (by omega) (ev_some rfl)
  | succ d ih =>
    intro i hi
    refine ev_step ?_ (fun k => by rw [awardingbodyref06_Ints.l0])
    refine ev_pos (by omega) (ev_pos (by omega) (ev_pos (by omega) (ev_pos rfl ?_)))
    rw [next_index i l.length (by omega) hl]
    exact ih (i + 1) (by omega)
theorem ints_self (l : List Int) (hl : l.length ≤ 1000000000000) : Ev (fun k => awardingbodyref06_Ints.f k l l) true := by
  unfold awardingbodyref06_Ints.f
  exact ev_pos rfl (ints_loop l hl l.length 0 (by omega))

end Go.Proofs.Ytbgeoadaeihgkaa.Pure
