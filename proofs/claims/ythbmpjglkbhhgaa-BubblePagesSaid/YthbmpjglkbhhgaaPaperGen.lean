/- The generators of papers: they answer; those of Paper and Long are of valid parts, of 24 at the most. -/
import Derived.Test.YthbmpjglkbhhgaaPrint6
import Derived.Test.YthbmpjglkbhhgaaPrint5
import Derived.Test.YthbmpjglkbhhgaaPrint3
import Derived.Test.YthbmpjglkbhhgaaPartGen2
namespace Go.Proofs.Ythbmpjglkbhhgaa.Bk
open Go.Proofs.Ythbmpjglkbhhgaa.Pure
open Go.RowKit Go.Proofs.Ythbmpjglkbhhgaa.Print Go.Proofs.YthbmpjglkbhhgaaW.PrintWords Go.Proofs.YthbmpjglkbhhgaaW.PrintLast Go.Proofs.YthbmpjglkbhhgaaW.PrintMore
set_option linter.unusedVariables false

def AllOk (ps : List Part) : Prop := ∀ p ∈ ps, pB p = true
theorem AllOk.snoc {ps : List Part} {p : Part} (h : AllOk ps) (hp : pB p = true) : AllOk (ps ++ [p]) := by
  intro x hx
  rcases List.mem_append.1 hx with hx | hx
  · exact h x hx
  · rw [List.mem_singleton.1 hx]; exact hp

theorem paper_loop (L : List Int) (c v : Int) (d : Nat) : ∀ (ps : List Part) (p : Int), ps.length + d ≤ 1000 → AllOk ps → TP L p →
    ∃ out q, Ev (fun k => awardingbodymake_Tape_Paper.l0 k (d : Int) L p c v ps) (c, v, out, q) ∧ TP L q ∧ out.length = ps.length + d ∧ AllOk out := by
  induction d with
  | zero =>
    intro ps p hl ho hp
    refine ⟨ps, p, ?_, hp, by omega, ho⟩
    refine ev_step ?_ (fun k => by rw [awardingbodymake_Tape_Paper.l0])
    exact ev_neg (by omega) (ev_some rfl)
  | succ d ih =>
    intro ps p hl ho hp
    obtain ⟨x, q, hx, hq, hok⟩ := part_gen hp 0 (by omega)
    obtain ⟨out, q2, he, hq2, h1, h2⟩ := ih (ps ++ [x]) q (by rw [List.length_append, List.length_singleton]; omega) (ho.snoc (hok (by omega))) hq
    refine ⟨out, q2, ?_, hq2, by rw [List.length_append, List.length_singleton] at h1; omega, h2⟩
    refine ev_step ?_ (fun k => by rw [awardingbodymake_Tape_Paper.l0])
    rw [wrap_id (x := ((d + 1 : Nat) : Int) - 1) (by omega) (by omega), show ((d + 1 : Nat) : Int) - 1 = (d : Int) by omega]
    exact ev_pos (by omega) (ev_bind hx (ev_pos (by omega) he))
theorem paper_ok {L : List Int} {p : Int} (h : TP L p) (c v : Int) :
    ∃ out q, Ev (fun k => awardingbodymake_Tape_Paper.f k L p c v) (c, v, out, q) ∧ TP L q ∧ 1 ≤ out.length ∧ out.length ≤ 6 ∧ AllOk out := by
  obtain ⟨n, q, hn, hq, h1, h2⟩ := range_ok h 1 6 (by omega) (by omega) (by omega)
  obtain ⟨d, rfl⟩ : ∃ d : Nat, n = d := ⟨n.toNat, by omega⟩
  obtain ⟨out, q2, he, hq2, h3, h4⟩ := paper_loop L c v d [] q (by simp; omega) (fun x hx => by cases hx) hq
  simp at h3
  refine ⟨out, q2, ?_, hq2, by omega, by omega, h4⟩
  unfold awardingbodymake_Tape_Paper.f
  exact ev_bind_now hn he

theorem loose_loop (L : List Int) (p c v : Int) (d : Nat) : ∀ (i : Nat) (ps : List Part), i + d = 6 → ps.length + d ≤ 1000 → ∃ out, Ev (fun k => awardingbodymake_Tape_LoosePaper.l0 k (i : Int) L p c v ps) (c, v, out, p) ∧ out.length = ps.length + d := by
  induction d with
  | zero =>
    intro i ps hi hl
    refine ⟨ps, ?_, rfl⟩
    refine ev_step ?_ (fun k => by rw [awardingbodymake_Tape_LoosePaper.l0])
    exact ev_neg (by omega) (ev_some rfl)
  | succ d ih =>
    intro i ps hi hl
    obtain ⟨out, he, h1⟩ := ih (i + 1) (ps ++ [⟨1, 40, 0, 0, 0, 0⟩]) (by omega) (by rw [List.length_append, List.length_singleton]; omega)
    refine ⟨out, ?_, by rw [List.length_append, List.length_singleton] at h1; omega⟩
    refine ev_step ?_ (fun k => by rw [awardingbodymake_Tape_LoosePaper.l0])
    rw [wrap_id (x := (i : Int) + 1) (by omega) (by omega), show (i : Int) + 1 = ((i + 1 : Nat) : Int) by omega]
    exact ev_pos (by omega) (ev_pos (by omega) he)
theorem loose_ok {L : List Int} {p : Int} (h : TP L p) (n : Int) (hn : n ≤ 1000000) :
    ∃ c v ps q, Ev (fun k => awardingbodymake_Tape_LoosePaper.f k L p n) (c, v, ps, q) ∧ TP L q ∧ ps.length ≤ 100 := by
  obtain ⟨c, q1, h1, hq1, _⟩ := range_ok h 0 3 (by omega) (by omega) (by omega)
  obtain ⟨v, q2, h2, hq2, _⟩ := next_ok hq1 3 (by omega)
  obtain ⟨ps, q3, h3, hq3, hl1, hl2, _⟩ := paper_ok hq2 c v
  have key : ∀ (b : Bool) (q3 : Int), TP L q3 → ∃ c' v' ps' q, Ev (fun k => awardingbodymake_Tape_LoosePaper.j0 k b L q3 c v ps) (c', v', ps', q) ∧ TP L q ∧ ps'.length ≤ 100 := by
    intro b q3 hq3
    by_cases hb : b = true
    · obtain ⟨t, q4, h4, hq4, _⟩ := next_ok hq3 5 (by omega)
      by_cases t0 : t = 0
      · obtain ⟨w, q5, h5, hq5⟩ := wild_ok hq4
        refine ⟨w, v, ps, q5, ?_, hq5, by omega⟩
        refine ev_step ?_ (fun k => by rw [awardingbodymake_Tape_LoosePaper.j0])
        exact ev_pos hb (ev_bind_now h4 (ev_pos t0 (ev_bind_now h5 (ev_some rfl))))
      by_cases t1 : t = 1
      · obtain ⟨w, q5, h5, hq5, _⟩ := range_ok hq4 (-1) 5 (by omega) (by omega) (by omega)
        refine ⟨c, w, ps, q5, ?_, hq5, by omega⟩
        refine ev_step ?_ (fun k => by rw [awardingbodymake_Tape_LoosePaper.j0])
        exact ev_pos hb (ev_bind_now h4 (ev_neg t0 (ev_pos t1 (ev_bind_now h5 (ev_some rfl)))))
      by_cases t2 : t = 2
      · refine ⟨c, v, [], q4, ?_, hq4, by simp⟩
        refine ev_step ?_ (fun k => by rw [awardingbodymake_Tape_LoosePaper.j0])
        exact ev_pos hb (ev_bind_now h4 (ev_neg t0 (ev_neg t1 (ev_pos t2 (ev_some rfl)))))
      by_cases t3 : t = 3
      · obtain ⟨x, q5, h5, hq5, _⟩ := part_gen hq4 1 (by omega)
        refine ⟨c, v, ps ++ [x], q5, ?_, hq5, by rw [List.length_append, List.length_singleton]; omega⟩
        refine ev_step ?_ (fun k => by rw [awardingbodymake_Tape_LoosePaper.j0])
        exact ev_pos hb (ev_bind_now h4 (ev_neg t0 (ev_neg t1 (ev_neg t2 (ev_pos t3 (ev_bind h5 (ev_pos (by omega) (ev_some rfl))))))))
      · obtain ⟨out, he, ho⟩ := loose_loop L q4 c v 6 0 ps (by omega) (by omega)
        refine ⟨c, v, out, q4, ?_, hq4, by omega⟩
        refine ev_step ?_ (fun k => by rw [awardingbodymake_Tape_LoosePaper.j0])
        exact ev_pos hb (ev_bind_now h4 (ev_neg t0 (ev_neg t1 (ev_neg t2 (ev_neg t3 he)))))
    · refine ⟨c, v, ps, q3, ?_, hq3, by omega⟩
      refine ev_step ?_ (fun k => by rw [awardingbodymake_Tape_LoosePaper.j0])
      exact ev_neg hb (ev_some rfl)
  unfold awardingbodymake_Tape_LoosePaper.f
  by_cases hn0 : n > 0
  · obtain ⟨b, q4, h4, hq4⟩ := one_ok hq3 n (by omega)
    obtain ⟨c', v', ps', q, he, hq, hl⟩ := key b q4 hq4
    exact ⟨c', v', ps', q, ev_bind_now h1 (ev_bind_now h2 (ev_bind h3 (ev_pos hn0 (ev_bind_now h4 he)))), hq, hl⟩
  · obtain ⟨c', v', ps', q, he, hq, hl⟩ := key false q3 hq3
    exact ⟨c', v', ps', q, ev_bind_now h1 (ev_bind_now h2 (ev_bind h3 (ev_neg hn0 he))), hq, hl⟩

/-! Long papers: each new part is kept where the paper stays valid. -/

end Go.Proofs.Ythbmpjglkbhhgaa.Bk
