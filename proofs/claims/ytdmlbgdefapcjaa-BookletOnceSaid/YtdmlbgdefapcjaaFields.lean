/- Fields: what Fields comes to, program and reference alike. Conditions: papers and booklets of at most 1000 parts, 1000000 pages and numbers a page. -/
import Derived.Test.YtdmlbgdefapcjaaPrint7
import Derived.Test.YtdmlbgdefapcjaaBook2
namespace Go.Proofs.Ytdmlbgdefapcjaa.Pure
open Go.RowKit Go.Proofs.Ytdmlbgdefapcjaa.Print Go.Proofs.YtdmlbgdefapcjaaW.PrintWords Go.Proofs.YtdmlbgdefapcjaaW.PrintLast Go.Proofs.YtdmlbgdefapcjaaW.PrintMore
set_option linter.unusedVariables false
set_option linter.unusedSectionVars false

abbrev Fld := S53
/-- A part's fields, from option o on. -/
def optsS (x : Int) (o : Nat) : Nat → List Fld
  | 0 => []
  | d + 1 => ⟨x, (o : Int)⟩ :: optsS x (o + 1) d
theorem opts_len (x : Int) : ∀ (d o : Nat), (optsS x o d).length = d
  | 0, _ => rfl
  | d + 1, o => by simp [optsS, opts_len x d]
def fldsS (ps : List Part) : List Int → List Fld
  | [] => []
  | x :: r => optsS x 0 (partAt ps x.toNat).f4.toNat ++ fldsS ps r
/-- Numbers of valid parts. -/
def Nums (ps : List Part) (r : List Int) : Prop := ∀ x ∈ r, ∃ j : Nat, x = j ∧ j < ps.length ∧ pB (partAt ps j) = true
theorem flds_len (ps : List Part) : ∀ r : List Int, Nums ps r → (fldsS ps r).length ≤ 5 * r.length
  | [], _ => by simp [fldsS]
  | x :: r, h => by
    obtain ⟨j, rfl, _, hb⟩ := h x (by simp)
    have h1 := (pB_parts hb).2.2
    have := flds_len ps r (fun y hy => h y (by simp [hy]))
    simp only [fldsS, List.length_append, opts_len, List.length_cons, Int.toNat_natCast]
    omega
theorem rowS_nums (ps : List Part) (ho : ∀ p ∈ ps, pB p = true) : ∀ (r : List Int) (nx m : Nat) (s t : Int), rowS ps r nx s = some (m, t) → Nums ps r
  | [], _, _, _, _, _ => by intro x hx; cases hx
  | x :: r, nx, m, s, t, h => by
    simp only [rowS] at h
    by_cases hx : x = (nx : Int) ∧ nx < ps.length
    · rw [if_pos hx] at h
      intro y hy
      rcases List.mem_cons.1 hy with rfl | hy
      · exact ⟨nx, hx.1, hx.2, ho _ (getD_in ps _ nx hx.2)⟩
      · exact rowS_nums ps ho r _ _ _ _ h y hy
    · rw [if_neg hx] at h; cases h
theorem rowsS_nums (ps : List Part) (ho : ∀ p ∈ ps, pB p = true) : ∀ (B : List (List Int)) (nx : Nat), rowsS ps B nx = true → ∀ r ∈ B, Nums ps r
  | [], _, _ => by intro r hr; cases hr
  | r :: B, nx, h => by
    simp only [rowsS] at h
    cases hx : rowS ps r nx 0 with
    | none => rw [hx] at h; cases h
    | some q =>
      obtain ⟨m, t⟩ := q
      rw [hx] at h
      by_cases ht : t > 30
      · simp only [if_pos ht] at h; cases h
      · simp only [if_neg ht] at h
        intro r' hr'
        rcases List.mem_cons.1 hr' with rfl | hr'
        · exact rowS_nums ps ho _ _ _ _ _ hx
        · exact rowsS_nums ps ho B m h r' hr'
theorem vpS_all {c v : Int} {ps : List Part} (h : vpS c v ps = true) : 1 ≤ ps.length ∧ ps.length ≤ 24 ∧ ∀ p ∈ ps, pB p = true := by
  unfold vpS at h
  by_cases hc : 0 ≤ c ∧ c ≤ 31 ∧ 0 ≤ v ∧ v ≤ 3 ∧ 1 ≤ ps.length ∧ ps.length ≤ 24
  · rw [if_pos hc] at h
    refine ⟨by omega, by omega, fun p hp => ?_⟩
    by_cases hb : ps.any badP = true
    · rw [if_pos hb] at h; cases h
    · rw [List.any_eq_true] at hb
      cases hx : pB p with
      | true => rfl
      | false => exact absurd ⟨p, hp, by unfold badP; rw [hx]; rfl⟩ hb
  · rw [if_neg hc] at h; cases h
theorem bvS_nums {c v : Int} {ps : List Part} {B : List (List Int)} (h : bvS c v ps B = true) : ps.length ≤ 24 ∧ ∀ r ∈ B, Nums ps r := by
  unfold bvS at h
  by_cases h1 : vpS c v ps = true
  · rw [if_pos h1] at h
    by_cases h2 : 1 ≤ B.length ∧ B.length ≤ 12 ∧ B.length % 4 = 0 ∧ (B.getD 0 []).length = 0
    · rw [if_pos h2] at h
      exact ⟨(vpS_all h1).2.1, rowsS_nums ps (vpS_all h1).2.2 B 0 h⟩
    · rw [if_neg h2] at h; cases h
  · rw [if_neg h1] at h; cases h

section
variable (c v : Int) (ps : List Part) (hp : ps.length ≤ 1000)
include hp
theorem fields_l1 (x : Int) (row : List Int) (i : Nat) (hrow : row.length ≤ 1000000) (hi : i < row.length) (F : Nat) (hF : F ≤ 5) (d : Nat) : ∀ (o : Nat) (acc R : List Fld), o + d = F → acc.length + d ≤ 100000000 →
    Ev (fun k => booklet_Fields.l0 k (acc ++ optsS x o d) row (row.length : Int) ((i + 1 : Nat) : Int) c v ps) R →
    Ev (fun k => booklet_Fields.l1 k acc x row (row.length : Int) (i : Int) (F : Int) (o : Int) c v ps) R := by
  induction d with
  | zero =>
    intro o acc R ho ha h
    refine ev_step ?_ (fun k => by rw [booklet_Fields.l1])
    rw [next_index i row.length (by omega) (by omega)]
    rw [optsS, List.append_nil] at h
    exact ev_neg (by omega) h
  | succ d ih =>
    intro o acc R ho ha h
    refine ev_step ?_ (fun k => by rw [booklet_Fields.l1])
    rw [next_index o F (by omega) (by omega)]
    refine ev_pos (by omega) (ev_pos (by omega) (ih (o + 1) _ R (by omega) (by rw [List.length_append, List.length_singleton]; omega) ?_))
    rw [List.append_assoc]
    exact h
theorem fields_l0 (row : List Int) (hrow : row.length ≤ 1000000) (hn : Nums ps row) (d : Nat) : ∀ (i : Nat) (acc : List Fld), i + d = row.length → acc.length ≤ 5 * i →
    Ev (fun k => booklet_Fields.l0 k acc row (row.length : Int) (i : Int) c v ps) (acc ++ fldsS ps (row.drop i)) := by
  induction d with
  | zero =>
    intro i acc hi ha
    refine ev_step ?_ (fun k => by rw [booklet_Fields.l0])
    rw [List.drop_of_length_le (by omega), fldsS, List.append_nil]
    exact ev_neg (by omega) (ev_some rfl)
  | succ d ih =>
    intro i acc hi ha
    obtain ⟨j, hj, hjl, hb⟩ := hn _ (getD_in row 0 i (by omega))
    have h4 := (pB_parts hb).2.2
    obtain ⟨F, hF⟩ : ∃ F : Nat, (partAt ps j).f4 = F := ⟨(partAt ps j).f4.toNat, by omega⟩
    refine ev_step ?_ (fun k => by rw [booklet_Fields.l0])
    rw [rd_int, hj, rdp_nat, drop_cons_at row 0 i (by omega), hj]
    have hF2 : (ps.getD j z23).f4 = (F : Int) := hF
    rw [hF2]
    refine ev_pos (by omega) (ev_pos (by omega) (ev_pos (by omega) (ev_pos (by omega) (ev_pos (by omega) ?_))))
    refine fields_l1 c v ps hp (j : Int) row i hrow (by omega) F (by omega) F 0 acc _ (by omega) (by omega) ?_
    have e : fldsS ps ((j : Int) :: row.drop (i + 1)) = optsS (j : Int) 0 F ++ fldsS ps (row.drop (i + 1)) := by
      simp only [fldsS, Int.toNat_natCast]
      rw [hF, Int.toNat_natCast]
    rw [e, ← List.append_assoc]
    exact ih (i + 1) _ (by omega) (by rw [List.length_append, opts_len]; omega)
end
section
variable (c v : Int) (ps : List Part) (B : List (List Int)) (hp : ps.length ≤ 1000) (hB : B.length ≤ 1000000) (pg : Nat) (hpg : pg < B.length)
include hp hB hpg
end
def fieldsS (c v : Int) (ps : List Part) (B : List (List Int)) (pg : Int) : List Fld := if bvS c v ps B = true then (if 0 ≤ pg ∧ pg < (B.length : Int) then fldsS ps (B.getD pg.toNat []) else []) else []
theorem fields_ev (c v : Int) (ps : List Part) (B : List (List Int)) (pg : Int) (hp : ps.length ≤ 1000) (hB : B.length ≤ 1000000) (hr : ∀ r ∈ B, r.length ≤ 1000000) : Ev (fun k => booklet_Fields.f k c v ps B pg) (fieldsS c v ps B pg) := by
  have no : ∀ R : List Fld, R = [] → ∀ b, b = true → Ev (fun k => booklet_Fields.j0 k pg b c v ps B) R := by
    intro R hR b hb
    refine ev_step ?_ (fun k => by rw [booklet_Fields.j0])
    exact ev_pos hb (ev_some hR.symm)
  unfold booklet_Fields.f fieldsS
  refine ev_bind (bvalid_ev c v ps B hp hB hr) (ev_ite (fun h => ?_) (fun h => no _ (if_neg h) _ rfl))
  rw [if_pos h]
  refine ev_ite (fun h1 => no _ (if_neg (fun hq => by omega)) _ rfl) (fun h1 => ?_)
  by_cases h2 : pg ≥ (B.length : Int)
  · exact no _ (if_neg (fun hq => by omega)) _ (decide_eq_true h2)
  · rw [if_pos ⟨by omega, by omega⟩, decide_eq_false h2]
    obtain ⟨q, rfl⟩ : ∃ q : Nat, pg = q := ⟨pg.toNat, by omega⟩
    refine ev_step ?_ (fun k => by rw [booklet_Fields.j0])
    rw [rdl_nat, Int.toNat_natCast]
    have hm := getD_in B [] q (by omega)
    have := fields_l0 c v ps hp (B.getD q []) (hr _ hm) ((bvS_nums h).2 _ hm) (B.getD q []).length 0 [] (by omega) (by simp)
    exact ev_neg (by decide) (ev_pos (by omega) (ev_pos (by omega) this))
theorem fieldsS_len (c v : Int) (ps : List Part) (B : List (List Int)) (pg : Int) (hr : ∀ r ∈ B, r.length ≤ 1000000) : (fieldsS c v ps B pg).length ≤ 5000000 := by
  unfold fieldsS
  by_cases h : bvS c v ps B = true
  · rw [if_pos h]
    by_cases h2 : 0 ≤ pg ∧ pg < (B.length : Int)
    · rw [if_pos h2]
      have hm := getD_in B [] pg.toNat (by omega)
      have := flds_len ps _ ((bvS_nums h).2 _ hm)
      have := hr _ hm
      omega
    · rw [if_neg h2]; simp
  · rw [if_neg h]; simp

end Go.Proofs.Ytdmlbgdefapcjaa.Pure
