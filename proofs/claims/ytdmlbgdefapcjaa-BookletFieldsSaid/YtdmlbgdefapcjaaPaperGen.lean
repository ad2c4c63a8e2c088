/- The generators of papers: they answer; those of Paper and Long are of valid parts, of 24 at the most. -/
import Derived.Test.YtdmlbgdefapcjaaPrint13
import Derived.Test.YtdmlbgdefapcjaaPrint15
import Derived.Test.YtdmlbgdefapcjaaPrint12
import Derived.Test.YtdmlbgdefapcjaaPrint10
import Derived.Test.YtdmlbgdefapcjaaPartGen2
namespace Go.Proofs.Ytdmlbgdefapcjaa.Pure
open Go.RowKit Go.Proofs.Ytdmlbgdefapcjaa.Print Go.Proofs.YtdmlbgdefapcjaaW.PrintWords Go.Proofs.YtdmlbgdefapcjaaW.PrintLast Go.Proofs.YtdmlbgdefapcjaaW.PrintMore
set_option linter.unusedVariables false

def AllOk (ps : List Part) : Prop := ∀ p ∈ ps, pB p = true
theorem AllOk.snoc {ps : List Part} {p : Part} (h : AllOk ps) (hp : pB p = true) : AllOk (ps ++ [p]) := by
  intro x hx
  rcases List.mem_append.1 hx with hx | hx
  · exact h x hx
  · rw [List.mem_singleton.1 hx]; exact hp

theorem paper_loop (L : List Int) (c v : Int) (d : Nat) : ∀ (ps : List Part) (p : Int), ps.length + d ≤ 1000 → AllOk ps → TP L p →
    ∃ out q, Ev (fun k => awardingbodymake_Tape_Paper.l0 k (d : Int) L p c v ps) (c, v, out, q) ∧ TP L q ∧ out.length = ps.length + d ∧ AllOk out := by
  induction d with
  | zero =>
    intro ps p hl ho hp
    refine ⟨ps, p, ?_, hp, by omega, ho⟩
    refine ev_step ?_ (fun k => by rw [awardingbodymake_Tape_Paper.l0])
    exact ev_neg (by omega) (ev_some rfl)
  | succ d ih =>
    intro ps p hl ho hp
    obtain ⟨x, q, hx, hq, hok⟩ := part_gen hp 0 (by omega)
    obtain ⟨out, q2, he, hq2, h1, h2⟩ := ih (ps ++ [x]) q (by rw [List.length_append, List.length_singleton]; omega) (ho.snoc (hok (by omega))) hq
    refine ⟨out, q2, ?_, hq2, by rw [List.length_append, List.length_singleton] at h1; omega, h2⟩
    refine ev_step ?_ (fun k => by rw [awardingbodymake_Tape_Paper.l0])
    rw [wrap_id (x := ((d + 1 : Nat) : Int) - 1) (by omega) (by omega), show ((d + 1 : Nat) : Int) - 1 = (d : Int) by omega]
    exact ev_pos (by omega) (ev_bind hx (ev_pos (by omega) he))
theorem paper_ok {L : List Int} {p : Int} (h : TP L p) (c v : Int) :
    ∃ out q, Ev (fun k => awardingbodymake_Tape_Paper.f k L p c v) (c, v, out, q) ∧ TP L q ∧ 1 ≤ out.length ∧ out.length ≤ 6 ∧ AllOk out := by
  obtain ⟨n, q, hn, hq, h1, h2⟩ := range_ok h 1 6 (by omega) (by omega) (by omega)
  obtain ⟨d, rfl⟩ : ∃ d : Nat, n = d := ⟨n.toNat, by omega⟩
  obtain ⟨out, q2, he, hq2, h3, h4⟩ := paper_loop L c v d [] q (by simp; omega) (fun x hx => by cases hx) hq
  simp at h3
  refine ⟨out, q2, ?_, hq2, by omega, by omega, h4⟩
  unfold awardingbodymake_Tape_Paper.f
  exact ev_bind_now hn he

theorem loose_loop (L : List Int) (p c v : Int) (d : Nat) : ∀ (i : Nat) (ps : List Part), i + d = 6 → ps.length + d ≤ 1000 → ∃ out, Ev (fun k => awardingbodymake_Tape_LoosePaper.l0 k (i : Int) L p c v ps) (c, v, out, p) ∧ out.length = ps.length + d := by
  induction d with
  | zero =>
    intro i ps hi hl
    refine ⟨ps, ?_, rfl⟩
    refine ev_step ?_ (fun k => by rw [awardingbodymake_Tape_LoosePaper.l0])
    exact ev_neg (by omega) (ev_some rfl)
  | succ d ih =>
    intro i ps hi hl
    obtain ⟨out, he, h1⟩ := ih (i + 1) (ps ++ [⟨1, 40, 0, 0, 0, 0⟩]) (by omega) (by rw [List.length_append, List.length_singleton]; omega)
    refine ⟨out, ?_, by rw [List.length_append, List.length_singleton] at h1; omega⟩
    refine ev_step ?_ (fun k => by rw [awardingbodymake_Tape_LoosePaper.l0])
    rw [wrap_id (x := (i : Int) + 1) (by omega) (by omega), show (i : Int) + 1 = ((i + 1 : Nat) : Int) by omega]
    exact ev_pos (by omega) (ev_pos (by omega) he)
theorem loose_ok {L : List Int} {p : Int} (h : TP L p) (n : Int) (hn : n ≤ 1000000) :
    ∃ c v ps q, Ev (fun k => awardingbodymake_Tape_LoosePaper.f k L p n) (c, v, ps, q) ∧ TP L q ∧ ps.length ≤ 100 := by
  obtain ⟨c, q1, h1, hq1, _⟩ := range_ok h 0 3 (by omega) (by omega) (by omega)
  obtain ⟨v, q2, h2, hq2, _⟩ := next_ok hq1 3 (by omega)
  obtain ⟨ps, q3, h3, hq3, hl1, hl2, _⟩ := paper_ok hq2 c v
  have key : ∀ (b : Bool) (q3 : Int), TP L q3 → ∃ c' v' ps' q, Ev (fun k => awardingbodymake_Tape_LoosePaper.j0 k b L q3 c v ps) (c', v', ps', q) ∧ TP L q ∧ ps'.length ≤ 100 := by
    intro b q3 hq3
    by_cases hb : b = true
    · obtain ⟨t, q4, h4, hq4, _⟩ := next_ok hq3 5 (by omega)
      by_cases t0 : t = 0
      · obtain ⟨w, q5, h5, hq5⟩ := wild_ok hq4
        refine ⟨w, v, ps, q5, ?_, hq5, by omega⟩
        refine ev_step ?_ (fun k => by rw [awardingbodymake_Tape_LoosePaper.j0])
        exact ev_pos hb (ev_bind_now h4 (ev_pos t0 (ev_bind_now h5 (ev_some rfl))))
      by_cases t1 : t = 1
      · obtain ⟨w, q5, h5, hq5, _⟩ := range_ok hq4 (-1) 5 (by omega) (by omega) (by omega)
        refine ⟨c, w, ps, q5, ?_, hq5, by omega⟩
        refine ev_step ?_ (fun k => by rw [awardingbodymake_Tape_LoosePaper.j0])
        exact ev_pos hb (ev_bind_now h4 (ev_neg t0 (ev_pos t1 (ev_bind_now h5 (ev_some rfl)))))
      by_cases t2 : t = 2
      · refine ⟨c, v, [], q4, ?_, hq4, by simp⟩
        refine ev_step ?_ (fun k => by rw [awardingbodymake_Tape_LoosePaper.j0])
        exact ev_pos hb (ev_bind_now h4 (ev_neg t0 (ev_neg t1 (ev_pos t2 (ev_some rfl)))))
      by_cases t3 : t = 3
      · obtain ⟨x, q5, h5, hq5, _⟩ := part_gen hq4 1 (by omega)
        refine ⟨c, v, ps ++ [x], q5, ?_, hq5, by rw [List.length_append, List.length_singleton]; omega⟩
        refine ev_step ?_ (fun k => by rw [awardingbodymake_Tape_LoosePaper.j0])
        exact ev_pos hb (ev_bind_now h4 (ev_neg t0 (ev_neg t1 (ev_neg t2 (ev_pos t3 (ev_bind h5 (ev_pos (by omega) (ev_some rfl))))))))
      · obtain ⟨out, he, ho⟩ := loose_loop L q4 c v 6 0 ps (by omega) (by omega)
        refine ⟨c, v, out, q4, ?_, hq4, by omega⟩
        refine ev_step ?_ (fun k => by rw [awardingbodymake_Tape_LoosePaper.j0])
        exact ev_pos hb (ev_bind_now h4 (ev_neg t0 (ev_neg t1 (ev_neg t2 (ev_neg t3 he)))))
    · refine ⟨c, v, ps, q3, ?_, hq3, by omega⟩
      refine ev_step ?_ (fun k => by rw [awardingbodymake_Tape_LoosePaper.j0])
      exact ev_neg hb (ev_some rfl)
  unfold awardingbodymake_Tape_LoosePaper.f
  by_cases hn0 : n > 0
  · obtain ⟨b, q4, h4, hq4⟩ := one_ok hq3 n (by omega)
    obtain ⟨c', v', ps', q, he, hq, hl⟩ := key b q4 hq4
    exact ⟨c', v', ps', q, ev_bind_now h1 (ev_bind_now h2 (ev_bind h3 (ev_pos hn0 (ev_bind_now h4 he)))), hq, hl⟩
  · obtain ⟨c', v', ps', q, he, hq, hl⟩ := key false q3 hq3
    exact ⟨c', v', ps', q, ev_bind_now h1 (ev_bind_now h2 (ev_bind h3 (ev_neg hn0 he))), hq, hl⟩

/-! Long papers: each new part is kept where the paper stays valid. -/
def Grown (ps : List Part) : Prop := ps = [] ∨ vpS 0 0 ps = true
theorem vpS_len {c v : Int} {ps : List Part} (h : vpS c v ps = true) : 1 ≤ ps.length ∧ ps.length ≤ 24 ∧ AllOk ps := by
  unfold vpS at h
  by_cases hc : 0 ≤ c ∧ c ≤ 31 ∧ 0 ≤ v ∧ v ≤ 3 ∧ 1 ≤ ps.length ∧ ps.length ≤ 24
  · rw [if_pos hc] at h
    refine ⟨by omega, by omega, fun p hp => ?_⟩
    by_cases hb : ps.any badP = true
    · rw [if_pos hb] at h; cases h
    · rw [List.any_eq_true] at hb
      cases hx : pB p with
      | true => rfl
      | false => exact absurd ⟨p, hp, by unfold badP; rw [hx]; rfl⟩ hb
  · rw [if_neg hc] at h; cases h
theorem grown_len {ps : List Part} (h : Grown ps) : ps.length ≤ 24 := by
  rcases h with rfl | h
  · simp
  · exact (vpS_len h).2.1
theorem take_snoc_part (ps : List Part) (x : Part) (h : ps.length ≤ 1000) : wrap64 (((ps ++ [x]).length : Int) - 1) = (ps.length : Int) ∧ (ps ++ [x]).take ((ps.length : Int)).toNat = ps := by
  refine ⟨by rw [List.length_append, List.length_singleton, wrap_id (by omega) (by omega)]; omega, ?_⟩
  rw [Int.toNat_natCast, List.take_left]
theorem long_loop (L : List Int) (d : Nat) : d ≤ 1000 → ∀ (ps : List Part) (p : Int), Grown ps → TP L p →
    ∃ out q, Ev (fun k => awardingbodymake_Tape_Long.l0 k (d : Int) L p 0 0 ps) (0, 0, out, q) ∧ TP L q ∧ Grown out := by
  induction d with
  | zero =>
    intro _ ps p hg hp
    refine ⟨ps, p, ?_, hp, hg⟩
    refine ev_step ?_ (fun k => by rw [awardingbodymake_Tape_Long.l0])
    exact ev_neg (by omega) (ev_some rfl)
  | succ d ih =>
    intro hd ps p hg hp
    have hlen := grown_len hg
    obtain ⟨x, q, hx, hq, _⟩ := part_gen hp 0 (by omega)
    obtain ⟨t, q2, h2, hq2, _⟩ := next_ok hq 2 (by omega)
    have keep : ∀ (y : Part) (q3 : Int), TP L q3 → ∃ ps', Grown ps' ∧ (∀ (R : Int × Int × List Part × Int), Ev (fun k => awardingbodymake_Tape_Long.l0 k (d : Int) L q3 0 0 ps') R →
        Ev (fun k => (awardingbodyref06_ValidPaper.f k 0 0 (ps ++ [y])).bind fun t => (if t = true then (awardingbodymake_Tape_Long.l0 k (wrap64 (((d + 1 : Nat) : Int) - 1)) L q3 0 0 (ps ++ [y])) else (if 0 ≤ (wrap64 (((ps ++ [y]).length : Int) - 1)) then (if (wrap64 (((ps ++ [y]).length : Int) - 1)) ≤ ((ps ++ [y]).length : Int) then (awardingbodymake_Tape_Long.l0 k (wrap64 (((d + 1 : Nat) : Int) - 1)) L q3 0 0 ((ps ++ [y]).take ((wrap64 (((ps ++ [y]).length : Int) - 1)) : Int).toNat)) else (none)) else (none)))) R) := by
      intro y q3 hq3
      obtain ⟨e1, e2⟩ := take_snoc_part ps y (by omega)
      have hyl : (ps ++ [y]).length = ps.length + 1 := by simp
      rw [wrap_id (x := ((d + 1 : Nat) : Int) - 1) (by omega) (by omega), show ((d + 1 : Nat) : Int) - 1 = (d : Int) by omega]
      by_cases hv : vpS 0 0 (ps ++ [y]) = true
      · exact ⟨ps ++ [y], .inr hv, fun R h => ev_bind (rvp_ev 0 0 _ (by omega)) (ev_pos hv h)⟩
      · refine ⟨ps, hg, fun R h => ev_bind (rvp_ev 0 0 _ (by omega)) (ev_neg hv ?_)⟩
        rw [e1, e2]
        exact ev_pos (by omega) (ev_pos (by omega) h)
    have key : ∀ (b : Bool) (q3 : Int), TP L q3 → ∃ out q, Ev (fun k => awardingbodymake_Tape_Long.j1 k ((d + 1 : Nat) : Int) b L q3 0 0 ps x.f0 x.f1 x.f2 x.f3 x.f4 x.f5) (0, 0, out, q) ∧ TP L q ∧ Grown out := by
      intro b q3 hq3
      by_cases hb : b = true
      · obtain ⟨r, q4, h4, hq4, _⟩ := range_ok hq3 1 28 (by omega) (by omega) (by omega)
        obtain ⟨ps', hg', hk⟩ := keep ⟨x.f0, r, x.f2, x.f3, x.f4, x.f5⟩ q4 hq4
        obtain ⟨out, q5, he, hq5, ho⟩ := ih (by omega) ps' q4 hg' hq4
        refine ⟨out, q5, ?_, hq5, ho⟩
        refine ev_step ?_ (fun k => by rw [awardingbodymake_Tape_Long.j1])
        exact ev_pos hb (ev_bind_now h4 (ev_pos (by omega) (ev_bind_now rfl (hk _ he))))
      · obtain ⟨ps', hg', hk⟩ := keep x q3 hq3
        obtain ⟨out, q5, he, hq5, ho⟩ := ih (by omega) ps' q3 hg' hq3
        refine ⟨out, q5, ?_, hq5, ho⟩
        refine ev_step ?_ (fun k => by rw [awardingbodymake_Tape_Long.j1])
        exact ev_neg hb (ev_pos (by omega) (ev_bind_now rfl (hk _ he)))
    obtain ⟨out1, q6, g1, hq6, ho1⟩ := key (x.f0 == 1) q2 hq2
    obtain ⟨out2, q7, g2, hq7, ho2⟩ := key false q2 hq2
    by_cases ht : t = 0
    · refine ⟨out1, q6, ?_, hq6, ho1⟩
      refine ev_step ?_ (fun k => by rw [awardingbodymake_Tape_Long.l0])
      exact ev_pos (by omega) (ev_bind hx (ev_bind_now h2 (ev_pos ht g1)))
    · refine ⟨out2, q7, ?_, hq7, ho2⟩
      refine ev_step ?_ (fun k => by rw [awardingbodymake_Tape_Long.l0])
      exact ev_pos (by omega) (ev_bind hx (ev_bind_now h2 (ev_neg ht g2)))
theorem long_ok {L : List Int} {p : Int} (h : TP L p) : ∃ ps q, Ev (fun k => awardingbodymake_Tape_Long.f k L p) (0, 0, ps, q) ∧ TP L q ∧ Grown ps := by
  obtain ⟨n, q, hn, hq, h1, h2⟩ := range_ok h 1 24 (by omega) (by omega) (by omega)
  obtain ⟨d, rfl⟩ : ∃ d : Nat, n = d := ⟨n.toNat, by omega⟩
  obtain ⟨out, q2, he, hq2, ho⟩ := long_loop L d (by omega) [] q (.inl rfl) hq
  refine ⟨out, q2, ?_, hq2, ho⟩
  unfold awardingbodymake_Tape_Long.f
  exact ev_bind_now hn he

end Go.Proofs.Ytdmlbgdefapcjaa.Pure
