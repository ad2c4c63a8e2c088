/- Booklets: what Valid comes to, program and reference alike; the booklets that are drawn answer; Make's is valid, and no valid one has fewer pages. Conditions: papers and booklets of at most 1000 elements. -/
import Derived.Test.YtdmlbgdefapcjaaPrint1
import Derived.Test.YtdmlbgdefapcjaaBook
namespace Go.Proofs.Ytdmlbgdefapcjaa.Pure
open Go.RowKit Go.Proofs.Ytdmlbgdefapcjaa.Print Go.Proofs.YtdmlbgdefapcjaaW.PrintWords Go.Proofs.YtdmlbgdefapcjaaW.PrintLast Go.Proofs.YtdmlbgdefapcjaaW.PrintMore
set_option linter.unusedVariables false
set_option linter.unusedSectionVars false

/-! Valid. -/
def partAt (ps : List Part) (i : Nat) : Part := ps.getD i z23
/-- One page: the parts from number nx on, s lines so far. -/
def rowS (ps : List Part) : List Int → Nat → Int → Option (Nat × Int)
  | [], nx, s => some (nx, s)
  | x :: r, nx, s => if x = (nx : Int) ∧ nx < ps.length then rowS ps r (nx + 1) (s + need (partAt ps nx)) else none
def rowsS (ps : List Part) : List (List Int) → Nat → Bool
  | [], nx => decide (nx = ps.length)
  | r :: rs, nx => match rowS ps r nx 0 with
    | none => false
    | some (m, s) => if s > 30 then false else rowsS ps rs m
def bvS (c v : Int) (ps : List Part) (B : List (List Int)) : Bool := if vpS c v ps = true then (if 1 ≤ B.length ∧ B.length ≤ 12 ∧ B.length % 4 = 0 ∧ (B.getD 0 []).length = 0 then rowsS ps B 0 else false) else false
theorem rd_int (l : List Int) (i : Nat) : rd l (i : Int) = l.getD i 0 := by unfold rd; rw [Int.toNat_natCast]

section
variable (c v : Int) (ps : List Part) (B : List (List Int)) (hp : ps.length ≤ 24) (hB : B.length ≤ 1000000) (hr : ∀ r ∈ B, r.length ≤ 1000000)
include hp hB hr
theorem valid_l1 (i : Nat) (hi : i < B.length) (next : Nat → Int → Prop) (g : Nat → Option Bool)
    (d : Nat) : ∀ (j nx : Nat) (s : Int) (R : Bool), j + d = (B.getD i []).length → nx ≤ ps.length → 0 ≤ s → s ≤ 30 * nx →
      (match rowS ps ((B.getD i []).drop j) nx s with
        | none => R = false
        | some (m, t) => if t > 30 then R = false else Ev (fun k => booklet_Valid.l0 k (m : Int) B (B.length : Int) ((i + 1 : Nat) : Int) c v ps) R) →
      Ev (fun k => booklet_Valid.l1 k (nx : Int) (30 - s) B (B.length : Int) (i : Int) (B.getD i []) ((B.getD i []).length : Int) (j : Int) c v ps) R := by
  have hrow := hr _ (getD_in B [] i hi)
  induction d with
  | zero =>
    intro j nx s R hj hn h0 h1 h
    rw [List.drop_of_length_le (by omega)] at h
    simp only [rowS] at h
    refine ev_step ?_ (fun k => by rw [booklet_Valid.l1])
    rw [next_index i B.length (by omega) (by omega)]
    refine ev_neg (by omega) ?_
    by_cases ht : s > 30
    · rw [if_pos ht] at h
      exact ev_pos (by omega) (ev_some h.symm)
    · rw [if_neg ht] at h
      exact ev_neg (by omega) h
  | succ d ih =>
    intro j nx s R hj hn h0 h1 h
    rw [drop_cons_at (B.getD i []) 0 j (by omega)] at h
    simp only [rowS] at h
    refine ev_step ?_ (fun k => by rw [booklet_Valid.l1])
    rw [rd_int, next_index j (B.getD i []).length (by omega) (by omega)]
    refine ev_pos (by omega) (ev_pos (by omega) (ev_pos (by omega) ?_))
    by_cases hx : (B.getD i []).getD j 0 = (nx : Int) ∧ nx < ps.length
    · rw [if_pos hx] at h
      have hn2 := need_le (partAt ps nx)
      rw [hx.1]
      refine ev_pos rfl (ev_neg (by omega) (ev_pos (by omega) (ev_pos (by omega) ?_)))
      rw [rdp_nat]
      refine ev_bind (need_ev _) ?_
      rw [next_index nx ps.length (by omega) (by omega), wrap_id (x := 30 - s - need (ps.getD nx z23)) (by unfold partAt at hn2; omega) (by unfold partAt at hn2; omega), show 30 - s - need (ps.getD nx z23) = 30 - (s + need (partAt ps nx)) by unfold partAt; omega]
      exact ih (j + 1) (nx + 1) (s + need (partAt ps nx)) R (by omega) (by omega) (by omega) (by omega) h
    · rw [if_neg hx] at h
      by_cases hx1 : (B.getD i []).getD j 0 = (nx : Int)
      · rw [hx1]
        exact ev_pos rfl (ev_pos (by omega) (ev_some h.symm))
      · exact ev_neg hx1 (ev_some h.symm)
theorem valid_l0 (d : Nat) : ∀ (i nx : Nat), i + d = B.length → nx ≤ ps.length → Ev (fun k => booklet_Valid.l0 k (nx : Int) B (B.length : Int) (i : Int) c v ps) (rowsS ps (B.drop i) nx) := by
  induction d with
  | zero =>
    intro i nx hi hn
    refine ev_step ?_ (fun k => by rw [booklet_Valid.l0])
    rw [List.drop_of_length_le (by omega)]
    refine ev_neg (by omega) (ev_some ?_)
    unfold rowsS
    rw [Bool.eq_iff_iff, beq_iff_eq, decide_eq_true_eq]; omega
  | succ d ih =>
    intro i nx hi hn
    refine ev_step ?_ (fun k => by rw [booklet_Valid.l0])
    rw [rdl_nat, drop_cons_at B [] i (by omega)]
    refine ev_pos (by omega) (ev_pos (by omega) (ev_pos (by omega) ?_))
    have := valid_l1 c v ps B hp hB hr i (by omega) (fun _ _ => True) (fun _ => none) (B.getD i []).length 0 nx 0 (rowsS ps (B.getD i [] :: B.drop (i + 1)) nx) (by omega) hn (by omega) (by omega) ?_
    · rw [Int.sub_zero] at this
      exact this
    · rw [List.drop_zero]
      cases hx : rowS ps (B.getD i []) nx 0 with
      | none => simp only [rowsS, hx]
      | some q =>
        obtain ⟨m, t⟩ := q
        simp only [rowsS, hx]
        by_cases ht : t > 30
        · rw [if_pos ht, if_pos ht]
        · rw [if_neg ht, if_neg ht]
          refine ih (i + 1) m (by omega) ?_
          have key : ∀ (r : List Int) (nx m : Nat) (s t : Int), nx ≤ ps.length → rowS ps r nx s = some (m, t) → m ≤ ps.length := by
            intro r
            induction r with
            | nil => intro nx m s t h1 h2; simp only [rowS, Option.some.injEq, Prod.mk.injEq] at h2; omega
            | cons x r ihr =>
              intro nx m s t h1 h2
              simp only [rowS] at h2
              by_cases hx : x = (nx : Int) ∧ nx < ps.length
              · rw [if_pos hx] at h2; exact ihr _ _ _ _ (by omega) h2
              · rw [if_neg hx] at h2; cases h2
          exact key _ _ _ _ _ hn hx
theorem rowS_le (r : List Int) : ∀ (nx m : Nat) (s t : Int), nx ≤ ps.length → rowS ps r nx s = some (m, t) → m ≤ ps.length := by
  induction r with
  | nil => intro nx m s t h1 h2; simp only [rowS, Option.some.injEq, Prod.mk.injEq] at h2; omega
  | cons x r ihr =>
    intro nx m s t h1 h2
    simp only [rowS] at h2
    by_cases hx : x = (nx : Int) ∧ nx < ps.length
    · rw [if_pos hx] at h2; exact ihr _ _ _ _ (by omega) h2
    · rw [if_neg hx] at h2; cases h2
end

theorem bvalid_ev (c v : Int) (ps : List Part) (B : List (List Int)) (hps : ps.length ≤ 1000) (hB : B.length ≤ 1000000) (hr : ∀ r ∈ B, r.length ≤ 1000000) : Ev (fun k => booklet_Valid.f k c v ps B) (bvS c v ps B) := by
  have no : ∀ R : Bool, R = false → Ev (fun k => booklet_Valid.j0 k true c v ps B) R := by
    intro R hR
    refine ev_step ?_ (fun k => by rw [booklet_Valid.j0])
    exact ev_pos rfl (ev_some hR.symm)
  unfold booklet_Valid.f bvS
  refine ev_bind (vp_ev c v ps (by omega)) (ev_ite (fun h => ?_) (fun h => no _ (by rw [if_neg h])))
  rw [if_pos h]
  have h24 : ps.length ≤ 24 := by
    unfold vpS at h
    by_cases hc : 0 ≤ c ∧ c ≤ 31 ∧ 0 ≤ v ∧ v ≤ 3 ∧ 1 ≤ ps.length ∧ ps.length ≤ 24
    · omega
    · rw [if_neg hc] at h; cases h
  refine ev_ite (fun h1 => no _ (if_neg (fun hq => by omega))) (fun h1 => ev_ite (fun h2 => no _ (if_neg (fun hq => by omega))) (fun h2 => ev_ite (fun h3 => ev_pos (by omega) ?_) (fun h3 => no _ (if_neg (fun hq => by omega)))))
  rw [show (0 : Int) = ((0 : Nat) : Int) from rfl, rdl_nat]
  by_cases h4 : (B.getD 0 []).length = 0
  · rw [if_pos ⟨by omega, by omega, by omega, h4⟩, h4]
    refine ev_step ?_ (fun k => by rw [booklet_Valid.j0])
    exact ev_neg (by decide) (valid_l0 c v ps B h24 hB hr B.length 0 0 (by omega) (by omega))
  · rw [if_neg (fun hq => h4 hq.2.2.2)]
    rw [decide_eq_true (by omega)]
    exact no _ rfl
/-! The booklets that are drawn. -/

end Go.Proofs.Ytdmlbgdefapcjaa.Pure
