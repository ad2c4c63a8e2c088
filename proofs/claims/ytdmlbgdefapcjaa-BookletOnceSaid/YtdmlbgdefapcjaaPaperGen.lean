/- The generators of papers: they answer; those of Paper and Long are of valid parts, of 24 at the most. -/
import Derived.Test.YtdmlbgdefapcjaaPrint6
import Derived.Test.YtdmlbgdefapcjaaPrint3
import Derived.Test.YtdmlbgdefapcjaaPartGen2
namespace Go.Proofs.Ytdmlbgdefapcjaa.Pure
open Go.RowKit Go.Proofs.Ytdmlbgdefapcjaa.Print Go.Proofs.YtdmlbgdefapcjaaW.PrintWords Go.Proofs.YtdmlbgdefapcjaaW.PrintLast Go.Proofs.YtdmlbgdefapcjaaW.PrintMore
set_option linter.unusedVariables false

def AllOk (ps : List Part) : Prop := ∀ p ∈ ps, pB p = true
theorem AllOk.snoc {ps : List Part} {p : Part} (h : AllOk ps) (hp : pB p = true) : AllOk (ps ++ [p]) := by
  intro x hx
  rcases List.mem_append.1 hx with hx | hx
  · exact h x hx
  · rw [List.mem_singleton.1 hx]; exact hp


/-! Long papers: each new part is kept where the paper stays valid. -/
def Grown (ps : List Part) : Prop := ps = [] ∨ vpS 0 0 ps = true
theorem vpS_len {c v : Int} {ps : List Part} (h : vpS c v ps = true) : 1 ≤ ps.length ∧ ps.length ≤ 24 ∧ AllOk ps := by
  unfold vpS at h
  by_cases hc : 0 ≤ c ∧ c ≤ 31 ∧ 0 ≤ v ∧ v ≤ 3 ∧ 1 ≤ ps.length ∧ ps.length ≤ 24
  · rw [if_pos hc] at h
    refine ⟨by omega, by omega, fun p hp => ?_⟩
    by_cases hb : ps.any badP = true
    · rw [if_pos hb] at h; cases h
    · rw [List.any_eq_true] at hb
      cases hx : pB p with
      | true => rfl
      | false => exact absurd ⟨p, hp, by unfold badP; rw [hx]; rfl⟩ hb
  · rw [if_neg hc] at h; cases h
theorem grown_len {ps : List Part} (h : Grown ps) : ps.length ≤ 24 := by
  rcases h with rfl | h
  · simp
  · exact (vpS_len h).2.1
theorem take_snoc_part (ps : List Part) (x : Part) (h : ps.length ≤ 1000) : wrap64 (((ps ++ [x]).length : Int) - 1) = (ps.length : Int) ∧ (ps ++ [x]).take ((ps.length : Int)).toNat = ps := by
  refine ⟨by rw [List.length_append, List.length_singleton, wrap_id (by omega) (by omega)]; omega, ?_⟩
  rw [Int.toNat_natCast, List.take_left]
theorem one_valid {x : Part} (h : pB x = true) : vpS 0 0 [x] = true := by
  have hr : 1 ≤ x.f1 ∧ x.f1 ≤ 40 := by
    unfold pB partB rangeB at h
    rw [Bool.and_eq_true, decide_eq_true_eq] at h
    exact ⟨h.1.1, h.1.2.1⟩
  unfold vpS
  rw [if_pos ⟨by omega, by omega, by omega, by omega, by simp, by simp⟩, if_neg (by simp [badP, h])]
  refine decide_eq_true ?_
  show wrap64 (0 + x.f1) ≤ 200
  rw [wrap_id (by omega) (by omega)]; omega
theorem pB_marks {x : Part} (h : pB x = true) (r : Int) (h1 : 1 ≤ r) (h2 : r ≤ 28) : pB ⟨x.f0, r, x.f2, x.f3, x.f4, x.f5⟩ = true := by
  unfold pB partB rangeB at h ⊢
  rw [Bool.and_eq_true, decide_eq_true_eq] at h ⊢
  exact ⟨⟨h1, by show r ≤ 40; omega, h.1.2.2⟩, h.2⟩
theorem long_loop (L : List Int) (d : Nat) : d ≤ 1000 → ∀ (ps : List Part) (p : Int), Grown ps → TP L p →
    ∃ out q, Ev (fun k => awardingbodymake_Tape_Long.l0 k (d : Int) L p 0 0 ps) (0, 0, out, q) ∧ TP L q ∧ Grown out ∧ (0 < d ∨ ps ≠ [] → out ≠ []) := by
  induction d with
  | zero =>
    intro _ ps p hg hp
    refine ⟨ps, p, ?_, hp, hg, fun h => h.resolve_left (by omega)⟩
    refine ev_step ?_ (fun k => by rw [awardingbodymake_Tape_Long.l0])
    exact ev_neg (by omega) (ev_some rfl)
  | succ d ih =>
    intro hd ps p hg hp
    have hlen := grown_len hg
    obtain ⟨x, q, hx, hq, hxb⟩ := part_gen hp 0 (by omega)
    have hxb := hxb (by omega)
    obtain ⟨t, q2, h2, hq2, _⟩ := next_ok hq 2 (by omega)
    have keep : ∀ (y : Part) (q3 : Int), TP L q3 → ∃ ps', Grown ps' ∧ (ps ≠ [] ∨ pB y = true → ps' ≠ []) ∧ (∀ (R : Int × Int × List Part × Int), Ev (fun k => awardingbodymake_Tape_Long.l0 k (d : Int) L q3 0 0 ps') R →
        Ev (fun k => (awardingbodyref06_ValidPaper.f k 0 0 (ps ++ [y])).bind fun t => (if t = true then (awardingbodymake_Tape_Long.l0 k (wrap64 (((d + 1 : Nat) : Int) - 1)) L q3 0 0 (ps ++ [y])) else (if 0 ≤ (wrap64 (((ps ++ [y]).length : Int) - 1)) then (if (wrap64 (((ps ++ [y]).length : Int) - 1)) ≤ ((ps ++ [y]).length : Int) then (awardingbodymake_Tape_Long.l0 k (wrap64 (((d + 1 : Nat) : Int) - 1)) L q3 0 0 ((ps ++ [y]).take ((wrap64 (((ps ++ [y]).length : Int) - 1)) : Int).toNat)) else (none)) else (none)))) R) := by
      intro y q3 hq3
      obtain ⟨e1, e2⟩ := take_snoc_part ps y (by omega)
      have hyl : (ps ++ [y]).length = ps.length + 1 := by simp
      rw [wrap_id (x := ((d + 1 : Nat) : Int) - 1) (by omega) (by omega), show ((d + 1 : Nat) : Int) - 1 = (d : Int) by omega]
      by_cases hv : vpS 0 0 (ps ++ [y]) = true
      · exact ⟨ps ++ [y], .inr hv, fun _ => by simp, fun R h => ev_bind (rvp_ev 0 0 _ (by omega)) (ev_pos hv h)⟩
      · refine ⟨ps, hg, fun h e => (h.elim (fun h => h e) (fun h => hv (by rw [e]; exact one_valid h))), fun R h => ev_bind (rvp_ev 0 0 _ (by omega)) (ev_neg hv ?_)⟩
        rw [e1, e2]
        exact ev_pos (by omega) (ev_pos (by omega) h)
    have key : ∀ (b : Bool) (q3 : Int), TP L q3 → ∃ out q, Ev (fun k => awardingbodymake_Tape_Long.j1 k ((d + 1 : Nat) : Int) b L q3 0 0 ps x.f0 x.f1 x.f2 x.f3 x.f4 x.f5) (0, 0, out, q) ∧ TP L q ∧ Grown out ∧ out ≠ [] := by
      intro b q3 hq3
      by_cases hb : b = true
      · obtain ⟨r, q4, h4, hq4, hr1, hr2⟩ := range_ok hq3 1 28 (by omega) (by omega) (by omega)
        obtain ⟨ps', hg', hne, hk⟩ := keep ⟨x.f0, r, x.f2, x.f3, x.f4, x.f5⟩ q4 hq4
        obtain ⟨out, q5, he, hq5, ho, ho2⟩ := ih (by omega) ps' q4 hg' hq4
        refine ⟨out, q5, ?_, hq5, ho, ho2 (.inr (hne (.inr (pB_marks hxb r hr1 hr2))))⟩
        refine ev_step ?_ (fun k => by rw [awardingbodymake_Tape_Long.j1])
        exact ev_pos hb (ev_bind_now h4 (ev_pos (by omega) (ev_bind_now rfl (hk _ he))))
      · obtain ⟨ps', hg', hne, hk⟩ := keep x q3 hq3
        obtain ⟨out, q5, he, hq5, ho, ho2⟩ := ih (by omega) ps' q3 hg' hq3
        refine ⟨out, q5, ?_, hq5, ho, ho2 (.inr (hne (.inr hxb)))⟩
        refine ev_step ?_ (fun k => by rw [awardingbodymake_Tape_Long.j1])
        exact ev_neg hb (ev_pos (by omega) (ev_bind_now rfl (hk _ he)))
    obtain ⟨out1, q6, g1, hq6, ho1⟩ := key (x.f0 == 1) q2 hq2
    obtain ⟨out2, q7, g2, hq7, ho2⟩ := key false q2 hq2
    by_cases ht : t = 0
    · refine ⟨out1, q6, ?_, hq6, ho1.1, fun _ => ho1.2⟩
      refine ev_step ?_ (fun k => by rw [awardingbodymake_Tape_Long.l0])
      exact ev_pos (by omega) (ev_bind hx (ev_bind_now h2 (ev_pos ht g1)))
    · refine ⟨out2, q7, ?_, hq7, ho2.1, fun _ => ho2.2⟩
      refine ev_step ?_ (fun k => by rw [awardingbodymake_Tape_Long.l0])
      exact ev_pos (by omega) (ev_bind hx (ev_bind_now h2 (ev_neg ht g2)))
theorem long_some {L : List Int} {p : Int} (h : TP L p) : ∃ ps q, Ev (fun k => awardingbodymake_Tape_Long.f k L p) (0, 0, ps, q) ∧ TP L q ∧ vpS 0 0 ps = true := by
  obtain ⟨n, q, hn, hq, h1, h2⟩ := range_ok h 1 24 (by omega) (by omega) (by omega)
  obtain ⟨d, rfl⟩ : ∃ d : Nat, n = d := ⟨n.toNat, by omega⟩
  obtain ⟨out, q2, he, hq2, ho, ho2⟩ := long_loop L d (by omega) [] q (.inl rfl) hq
  refine ⟨out, q2, ?_, hq2, ho.resolve_left (ho2 (.inl (by omega)))⟩
  unfold awardingbodymake_Tape_Long.f
  exact ev_bind_now hn he
theorem long_ok {L : List Int} {p : Int} (h : TP L p) : ∃ ps q, Ev (fun k => awardingbodymake_Tape_Long.f k L p) (0, 0, ps, q) ∧ TP L q ∧ Grown ps := by
  obtain ⟨ps, q, h1, h2, h3⟩ := long_some h
  exact ⟨ps, q, h1, h2, .inr h3⟩

end Go.Proofs.Ytdmlbgdefapcjaa.Pure
