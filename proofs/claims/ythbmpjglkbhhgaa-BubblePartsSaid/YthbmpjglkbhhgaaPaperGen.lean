/- The generators of papers: they answer; those of Paper and Long are of valid parts, of 24 at the most. -/
import Derived.Test.YthbmpjglkbhhgaaPrint7
import Derived.Test.YthbmpjglkbhhgaaPrint3
import Derived.Test.YthbmpjglkbhhgaaPartGen2
namespace Go.Proofs.Ythbmpjglkbhhgaa.Bk
open Go.Proofs.Ythbmpjglkbhhgaa.Pure
open Go.RowKit Go.Proofs.Ythbmpjglkbhhgaa.Print Go.Proofs.YthbmpjglkbhhgaaW.PrintWords Go.Proofs.YthbmpjglkbhhgaaW.PrintLast Go.Proofs.YthbmpjglkbhhgaaW.PrintMore
set_option linter.unusedVariables false

def AllOk (ps : List Part) : Prop := ∀ p ∈ ps, pB p = true
theorem AllOk.snoc {ps : List Part} {p : Part} (h : AllOk ps) (hp : pB p = true) : AllOk (ps ++ [p]) := by
  intro x hx
  rcases List.mem_append.1 hx with hx | hx
  · exact h x hx
  · rw [List.mem_singleton.1 hx]; exact hp

theorem paper_loop (L : List Int) (c v : Int) (d : Nat) : ∀ (ps : List Part) (p : Int), ps.length + d ≤ 1000 → AllOk ps → TP L p →
    ∃ out q, Ev (fun k => awardingbodymake_Tape_Paper.l0 k (d : Int) L p c v ps) (c, v, out, q) ∧ TP L q ∧ out.length = ps.length + d ∧ AllOk out := by
  induction d with
  | zero =>
    intro ps p hl ho hp
    refine ⟨ps, p, ?_, hp, by omega, ho⟩
    refine ev_step ?_ (fun k => by rw [awardingbodymake_Tape_Paper.l0])
    exact ev_neg (by omega) (ev_some rfl)
  | succ d ih =>
    intro ps p hl ho hp
    obtain ⟨x, q, hx, hq, hok⟩ := part_gen hp 0 (by omega)
    obtain ⟨out, q2, he, hq2, h1, h2⟩ := ih (ps ++ [x]) q (by rw [List.length_append, List.length_singleton]; omega) (ho.snoc (hok (by omega))) hq
    refine ⟨out, q2, ?_, hq2, by rw [List.length_append, List.length_singleton] at h1; omega, h2⟩
    refine ev_step ?_ (fun k => by rw [awardingbodymake_Tape_Paper.l0])
    rw [wrap_id (x := ((d + 1 : Nat) : Int) - 1) (by omega) (by omega), show ((d + 1 : Nat) : Int) - 1 = (d : Int) by omega]
    exact ev_pos (by omega) (ev_bind hx (ev_pos (by omega) he))
theorem paper_ok {L : List Int} {p : Int} (h : TP L p) (c v : Int) :
    ∃ out q, Ev (fun k => awardingbodymake_Tape_Paper.f k L p c v) (c, v, out, q) ∧ TP L q ∧ 1 ≤ out.length ∧ out.length ≤ 6 ∧ AllOk out := by
  obtain ⟨n, q, hn, hq, h1, h2⟩ := range_ok h 1 6 (by omega) (by omega) (by omega)
  obtain ⟨d, rfl⟩ : ∃ d : Nat, n = d := ⟨n.toNat, by omega⟩
  obtain ⟨out, q2, he, hq2, h3, h4⟩ := paper_loop L c v d [] q (by simp; omega) (fun x hx => by cases hx) hq
  simp at h3
  refine ⟨out, q2, ?_, hq2, by omega, by omega, h4⟩
  unfold awardingbodymake_Tape_Paper.f
  exact ev_bind_now hn he


/-! Long papers: each new part is kept where the paper stays valid. -/

end Go.Proofs.Ythbmpjglkbhhgaa.Bk
