/- BookletFewest: for every tape the law answers true. No further conditions. -/
import Derived.Test.YtdmlbgdefapcjaaPrint25
import Derived.Test.YtdmlbgdefapcjaaBook2
import Derived.Test.YtdmlbgdefapcjaaPaperGen
namespace Go.Proofs.Ytdmlbgdefapcjaa.Pure
open Go.RowKit Go.Proofs.Ytdmlbgdefapcjaa.Print Go.Proofs.YtdmlbgdefapcjaaW.PrintWords Go.Proofs.YtdmlbgdefapcjaaW.PrintLast
set_option linter.unusedVariables false

/-! Make's pages, read as Valid reads them. -/
/-- The numbers from a on, d of them. -/
def run (a : Nat) : Nat → List Int
  | 0 => []
  | d + 1 => (a : Int) :: run (a + 1) d
theorem rsn (a : Nat) : ∀ d : Nat, run a (d + 1) = run a d ++ [((a + d : Nat) : Int)]
  | 0 => by simp [run]
  | d + 1 => by
    have := rsn (a + 1) d
    rw [run, this, run, List.cons_append, show a + 1 + d = a + (d + 1) by omega]
theorem rap (ps : List Part) : ∀ (r r2 : List Int) (nx : Nat) (s : Int), rowS ps (r ++ r2) nx s = (rowS ps r nx s).bind fun q => rowS ps r2 q.1 q.2
  | [], r2, nx, s => rfl
  | x :: r, r2, nx, s => by
    rw [List.cons_append, rowS, rowS]
    by_cases h : x = (nx : Int) ∧ nx < ps.length
    · rw [if_pos h, if_pos h]; exact rap ps r r2 _ _
    · rw [if_neg h, if_neg h]; rfl
theorem rnl (ps : List Part) (m : Nat) : rowsS ps (List.replicate m []) ps.length = true := by
  induction m with
  | zero => simp [rowsS]
  | succ m ih => rw [List.replicate_succ]; simp only [rowsS, rowS]; rw [if_neg (by omega)]; exact ih
theorem rcs (ps : List Part) (r : List Int) (rs : List (List Int)) (nx m : Nat) (s : Int) (h : rowS ps r nx 0 = some (m, s)) (hs : ¬ s > 30) : rowsS ps (r :: rs) nx = rowsS ps rs m := by
  simp only [rowsS, h, if_neg hs]
theorem pkv (ps : List Part) (m : Nat) (d : Nat) : ∀ (i a : Nat) (left : Int) (cur : List Int), i + d = ps.length → 0 ≤ left → left ≤ 30 → rowS ps cur a 0 = some (i, 30 - left) →
    rowsS ps (pk (ps.drop i) i left cur ++ List.replicate m []) a = true := by
  induction d with
  | zero =>
    intro i a left cur hi h0 h1 hc
    rw [List.drop_of_length_le (by omega), pk]
    show rowsS ps (cur :: List.replicate m []) a = true
    rw [rcs ps cur _ a i _ hc (by omega), show i = ps.length by omega]
    exact rnl ps m
  | succ d ih =>
    intro i a left cur hi h0 h1 hc
    have hn := need_le (ps.getD i z23)
    rw [drop_cons_at ps z23 i (by omega), pk]
    by_cases hlt : left < need (ps.getD i z23)
    · rw [if_pos hlt]
      show rowsS ps (cur :: (pk _ _ _ _ ++ List.replicate m [])) a = true
      rw [rcs ps cur _ a i _ hc (by omega)]
      refine ih (i + 1) i _ _ (by omega) (by omega) (by omega) ?_
      simp only [rowS]
      rw [if_pos ⟨by trivial, by omega⟩]
      unfold partAt
      rw [show 30 - (30 - need (ps.getD i z23)) = 0 + need (ps.getD i z23) by omega]
    · rw [if_neg hlt]
      refine ih (i + 1) a _ _ (by omega) (by omega) (by omega) ?_
      rw [rap, hc]
      simp only [Option.bind_some, rowS]
      rw [if_pos ⟨by trivial, by omega⟩]
      unfold partAt
      rw [show 30 - (left - need (ps.getD i z23)) = 30 - left + need (ps.getD i z23) by omega]
theorem mkv (c v : Int) (ps : List Part) (h : (makeS c v ps).2 = 0) : vpS c v ps = true ∧ bvS c v ps (makeS c v ps).1 = true ∧ (makeS c v ps).1 = fillS ([[]] ++ pk ps 0 30 []) ∧ (fillS ([[]] ++ pk ps 0 30 [])).length ≤ 12 := by
  unfold makeS at *
  by_cases h1 : vpS c v ps = true
  · rw [if_pos h1] at *
    unfold endS at *
    by_cases h2 : (fillS ([[]] ++ pk ps 0 30 [])).length > 12
    · rw [if_pos h2] at h; cases h
    · rw [if_neg h2] at *
      refine ⟨h1, ?_, rfl, by omega⟩
      obtain ⟨f1, f2, f3⟩ := fill_len ([[]] ++ pk ps 0 30 [])
      unfold bvS
      have hl : 1 ≤ (fillS ([[]] ++ pk ps 0 30 [])).length := by
        rw [List.length_append] at f2
        simp only [List.length_cons, List.length_nil] at f2; omega
      rw [if_pos h1, if_pos ⟨hl, by show (fillS ([[]] ++ pk ps 0 30 [])).length ≤ 12; omega, f1, rfl⟩]
      show rowsS ps (fillS ([[]] ++ pk ps 0 30 [])) 0 = true
      unfold fillS
      generalize (4 - ([[]] ++ pk ps 0 30 []).length % 4) % 4 = m
      show rowsS ps ([] :: (pk ps 0 30 [] ++ List.replicate m [])) 0 = true
      rw [rcs ps [] _ 0 0 0 rfl (by omega)]
      have := pkv ps m ps.length 0 0 30 [] (by omega) (by omega) (by omega) rfl
      rw [List.drop_zero] at this
      exact this
  · rw [if_neg h1] at h; cases h

/-! No division into pages has fewer. -/
def cnt : List Part → Int → Nat
  | [], _ => 1
  | p :: l, left => if left < need p then 1 + cnt l (30 - need p) else cnt l (left - need p)
theorem pkc : ∀ (l : List Part) (i : Nat) (left : Int) (cur : List Int), (pk l i left cur).length = cnt l left
  | [], _, _, _ => rfl
  | p :: l, i, left, cur => by
    unfold pk cnt
    split
    · rw [List.length_cons, pkc l]; omega
    · exact pkc l _ _ _
theorem cbo : ∀ (l : List Part) (a b : Int), a ≤ 30 → b ≤ 30 → cnt l a ≤ 1 + cnt l b ∧ (a ≤ b → cnt l b ≤ cnt l a)
  | [], _, _, _, _ => by simp [cnt]
  | p :: l, a, b, ha, hb => by
    have hn := need_le p
    unfold cnt
    by_cases h1 : a < need p
    · rw [if_pos h1]
      by_cases h2 : b < need p
      · rw [if_pos h2]; exact ⟨by omega, fun _ => by omega⟩
      · rw [if_neg h2]
        have z1 := cbo l (b - need p) (30 - need p) (by omega) (by omega)
        exact ⟨by have := z1.2 (by omega); omega, fun _ => z1.1⟩
    · rw [if_neg h1]
      by_cases h2 : b < need p
      · rw [if_pos h2]
        have z1 := cbo l (a - need p) (30 - need p) (by omega) (by omega)
        exact ⟨by omega, fun h => by omega⟩
      · rw [if_neg h2]
        have z1 := cbo l (a - need p) (b - need p) (by omega) (by omega)
        exact ⟨z1.1, fun h => z1.2 (by omega)⟩
theorem rmo (ps : List Part) : ∀ (r : List Int) (nx m : Nat) (s t : Int), rowS ps r nx s = some (m, t) → s ≤ t
  | [], _, _, _, _, h => by simp only [rowS, Option.some.injEq, Prod.mk.injEq] at h; omega
  | x :: r, nx, m, s, t, h => by
    simp only [rowS] at h
    by_cases hx : x = (nx : Int) ∧ nx < ps.length
    · rw [if_pos hx] at h
      have := rmo ps r _ _ _ _ h
      have := need_le (partAt ps nx)
      omega
    · rw [if_neg hx] at h; cases h
/-- Over one page of another division the pages of Make's stay as they are. -/
theorem crw (ps : List Part) : ∀ (r : List Int) (nx m : Nat) (s t left : Int), rowS ps r nx s = some (m, t) → t ≤ 30 → 30 - s ≤ left → left ≤ 30 → ∃ left', left' ≤ 30 ∧ cnt (ps.drop nx) left = cnt (ps.drop m) left'
  | [], nx, m, s, t, left, h, _, _, h3 => by
    simp only [rowS, Option.some.injEq, Prod.mk.injEq] at h
    obtain ⟨rfl, rfl⟩ := h
    exact ⟨left, h3, rfl⟩
  | x :: r, nx, m, s, t, left, h, h1, h2, h3 => by
    simp only [rowS] at h
    by_cases hx : x = (nx : Int) ∧ nx < ps.length
    · rw [if_pos hx] at h
      have z1 := rmo ps r _ _ _ _ h
      have z2 := need_le (partAt ps nx)
      obtain ⟨l2, e1, e2⟩ := crw ps r (nx + 1) m _ t (left - need (partAt ps nx)) h h1 (by omega) (by omega)
      refine ⟨l2, e1, ?_⟩
      rw [drop_cons_at ps z23 nx hx.2, cnt, if_neg (show ¬ left < need (ps.getD nx z23) by unfold partAt at z1 z2; omega)]
      exact e2
    · rw [if_neg hx] at h; cases h
theorem crs (ps : List Part) : ∀ (rs : List (List Int)) (r : List Int) (nx : Nat), rowsS ps (r :: rs) nx = true → cnt (ps.drop nx) 30 ≤ 1 + rs.length
  | rs, r, nx, h => by
    simp only [rowsS] at h
    cases hx : rowS ps r nx 0 with
    | none => rw [hx] at h; cases h
    | some q =>
      obtain ⟨m, t⟩ := q
      rw [hx] at h
      by_cases ht : t > 30
      · simp only [if_pos ht] at h; cases h
      · simp only [if_neg ht] at h
        obtain ⟨l2, e1, e2⟩ := crw ps r nx m 0 t 30 hx (by omega) (by omega) (by omega)
        rw [e2]
        cases rs with
        | nil =>
          simp only [rowsS, decide_eq_true_eq] at h
          rw [h, List.drop_of_length_le (Nat.le_refl _)]
          simp [cnt]
        | cons r2 rs =>
          have := crs ps rs r2 m h
          have := (cbo (ps.drop m) l2 30 e1 (by omega)).1
          simp only [List.length_cons]
          omega
theorem fewest (c v : Int) (ps : List Part) (B : List (List Int)) (h : bvS c v ps B = true) : (makeS c v ps).2 = 0 ∧ (makeS c v ps).1.length ≤ B.length := by
  unfold bvS at h
  by_cases h1 : vpS c v ps = true
  · rw [if_pos h1] at h
    by_cases h2 : 1 ≤ B.length ∧ B.length ≤ 12 ∧ B.length % 4 = 0 ∧ (B.getD 0 []).length = 0
    · rw [if_pos h2] at h
      obtain ⟨g1, g2, g3, g4⟩ := h2
      match B, h, g1, g2, g3, g4 with
      | r0 :: r1 :: rs, h, g1, g2, g3, g4 =>
        have hr0 : r0 = [] := List.eq_nil_of_length_eq_zero (by simpa using g4)
        subst hr0
        rw [rcs ps [] _ 0 0 0 rfl (by omega)] at h
        have hc := crs ps rs r1 0 h
        rw [List.drop_zero] at hc
        simp only [List.length_cons] at g2 g3 ⊢
        have hk := pkc ps 0 30 []
        have hf : (fillS ([[]] ++ pk ps 0 30 [])).length ≤ rs.length + 1 + 1 := by
          unfold fillS
          simp only [List.length_append, List.length_cons, List.length_nil, List.length_replicate]
          omega
        unfold makeS
        rw [if_pos h1]
        unfold endS
        rw [if_neg (by omega)]
        exact ⟨rfl, hf⟩
      | [r0], h, g1, g2, g3, g4 => simp at g3
      | [], h, g1, g2, g3, g4 => simp at g1
    · rw [if_neg h2] at h; cases h
  · rw [if_neg h1] at h; cases h

theorem few_j0 (c v : Int) (ps : List Part) (B : List (List Int)) (hps : ps.length ≤ 1000) (hB : B.length ≤ 1000000) (hr : ∀ r ∈ B, r.length ≤ 1000000) : Ev (fun k => awardingbodylaw12_BookletFewest.j0 k (makeS c v ps).2 false c v ps B (makeS c v ps).1) true := by
  refine ev_step ?_ (fun k => by rw [awardingbodylaw12_BookletFewest.j0])
  refine ev_neg (by decide) (ev_bind (bvalid_ev c v ps B hps hB hr) (ev_ite (fun h => ?_) (fun h => ev_bind awake_ev (ev_some rfl))))
  obtain ⟨e1, e2⟩ := fewest c v ps B h
  exact ev_pos e1 (ev_pos (by omega) (ev_bind awake_ev (ev_some rfl)))
end Go.Proofs.Ytdmlbgdefapcjaa.Pure
namespace Go.Proofs.Ytdmlbgdefapcjaa.Pure
open Go.RowKit Go.Proofs.Ytdmlbgdefapcjaa.Print Go.Proofs.YtdmlbgdefapcjaaW.PrintWords Go.Proofs.YtdmlbgdefapcjaaW.PrintLast
theorem few_ok (c v : Int) (ps : List Part) (B : List (List Int)) (hps : ps.length ≤ 1000) (hB : B.length ≤ 1000000) (hr : ∀ r ∈ B, r.length ≤ 1000000) : Ev (fun k => (booklet_Make.f k c v ps).bind fun b => (if b.2 = 0 then ((booklet_Valid.f k c v ps b.1).bind fun t => (awardingbodylaw12_BookletFewest.j0 k b.2 (!t) c v ps B b.1)) else (awardingbodylaw12_BookletFewest.j0 k b.2 false c v ps B b.1))) true := by
  obtain ⟨m1, m2⟩ := makeS_rows c v ps hps
  refine ev_bind (make_ev c v ps hps) (ev_ite (fun h => ?_) (fun h => few_j0 c v ps B hps hB hr))
  refine ev_bind (bvalid_ev c v ps _ hps (by omega) (fun r hr => by have := m2 r hr; omega)) ?_
  rw [(mkv c v ps h).2.1]
  exact few_j0 c v ps B hps hB hr

theorem BookletFewest : awardingbodylaw12_BookletFewest.Pure := by
  intro l0 _ _ _
  obtain ⟨M, hM, hp⟩ := new_ok l0
  obtain ⟨ps, q, h1, hq, hg⟩ := long_ok hp
  have hl := grown_len hg
  obtain ⟨B, q2, hB, hq2, hb, hs⟩ := shaped_ok hq 0 0 ps (by omega)
  have hr : ∀ r ∈ B, r.length ≤ 1000000 := fun r h => by have := hs.2 r h; omega
  refine Ev.rounds (g := fun k => awardingbodylaw12_BookletFewest.f k l0) ?_
  unfold awardingbodylaw12_BookletFewest.f
  exact ev_bind_now hM (ev_bind h1 (ev_bind hB (few_ok 0 0 ps B (by omega) hb hr)))

end Go.Proofs.Ytdmlbgdefapcjaa.Pure
