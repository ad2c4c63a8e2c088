/- Booklets: what Need, Make and Valid come to, program and reference alike. Conditions: papers and booklets of fewer than 1000 elements. -/
import Derived.Test.YtdmlbgdefapcjaaPrint1
import Derived.Test.YtdmlbgdefapcjaaPrint2
import Derived.Test.YtdmlbgdefapcjaaParts
namespace Go.Proofs.Ytdmlbgdefapcjaa.Pure
open Go.RowKit Go.Proofs.Ytdmlbgdefapcjaa.Print Go.Proofs.YtdmlbgdefapcjaaW.PrintWords Go.Proofs.YtdmlbgdefapcjaaW.PrintLast Go.Proofs.YtdmlbgdefapcjaaW.PrintMore
set_option linter.unusedVariables false
set_option linter.unusedSectionVars false

theorem awake_ok : awardingbodylaw12_awake.f 40 = some true := by kernel_rfl
theorem awake_ev : Ev (fun k => awardingbodylaw12_awake.f k) true := Ev.of awardingbodylaw12_awake.mono awake_ok

/-- The lines that a part needs. -/
def need (p : Part) : Int := if pB p = true then (if p.f0 = 2 then 2 + p.f4 else mn (2 + p.f1) 30) else 0
theorem pB_parts {p : Part} (h : pB p = true) : 1 ≤ p.f1 ∧ p.f1 ≤ 40 ∧ ((p.f0 = 1 ∧ p.f4 = 0 ∧ p.f5 = 0) ∨ (p.f0 = 2 ∧ 2 ≤ p.f4 ∧ p.f4 ≤ 5 ∧ 0 ≤ p.f5 ∧ p.f5 < p.f4)) := by
  unfold pB partB rangeB kindB at h
  rw [Bool.and_eq_true, decide_eq_true_eq, decide_eq_true_eq] at h
  exact ⟨h.1.1, h.1.2.1, h.2⟩
theorem need_le (p : Part) : 0 ≤ need p ∧ need p ≤ 30 := by
  unfold need
  by_cases h : pB p = true
  · rw [if_pos h]
    obtain ⟨h1, h2, h3⟩ := pB_parts h
    split
    · omega
    · unfold mn; split <;> omega
  · rw [if_neg h]; omega
theorem need_ev (p : Part) : Ev (fun k => booklet_Need.f k p.f0 p.f1 p.f2 p.f3 p.f4 p.f5) (need p) := by
  unfold booklet_Need.f need
  refine ev_bind (part_ev _ _ _ _ _ _) (ev_ite (fun h => ?_) (fun h => ev_some ?_))
  · rw [if_pos (show pB p = true from h)]
    obtain ⟨h1, h2, h3⟩ := pB_parts h
    refine ev_ite (fun h4 => ev_some ?_) (fun h4 => ev_some ?_)
    · rw [if_pos h4, wrap_id (by omega) (by omega)]
    · rw [if_neg h4, wrap_id (by omega) (by omega)]
  · rw [if_neg (show ¬ pB p = true from h)]
/-- The pages of parts from number i on: the page at hand is cur, with so much left on it. -/
def pk : List Part → Nat → Int → List Int → List (List Int)
  | [], _, _, cur => [cur]
  | p :: l, i, left, cur => if left < need p then cur :: pk l (i + 1) (30 - need p) [(i : Int)] else pk l (i + 1) (left - need p) (cur ++ [(i : Int)])
theorem pk_len : ∀ (l : List Part) (i : Nat) (left : Int) (cur : List Int), 1 ≤ (pk l i left cur).length ∧ (pk l i left cur).length ≤ l.length + 1
  | [], _, _, cur => by simp [pk]
  | p :: l, i, left, cur => by
    unfold pk
    split
    · have := pk_len l (i + 1) (30 - need p) [(i : Int)]
      simp only [List.length_cons]; omega
    · have := pk_len l (i + 1) (left - need p) (cur ++ [(i : Int)])
      simp only [List.length_cons]; omega
theorem pk_rows : ∀ (l : List Part) (i : Nat) (left : Int) (cur : List Int), ∀ r ∈ pk l i left cur, r.length ≤ cur.length + l.length
  | [], _, _, cur => by intro r hr; simp [pk] at hr; subst hr; simp
  | p :: l, i, left, cur => by
    intro r hr
    unfold pk at hr
    split at hr
    · rcases List.mem_cons.1 hr with rfl | hr
      · simp
      · have := pk_rows l (i + 1) (30 - need p) [(i : Int)] r hr
        simp only [List.length_cons, List.length_nil] at this ⊢; omega
    · have := pk_rows l (i + 1) (left - need p) (cur ++ [(i : Int)]) r hr
      simp only [List.length_append, List.length_cons, List.length_nil] at this ⊢; omega

/-- Pages added till their number is one of fours, or too many. -/
def fillS (X : List (List Int)) : List (List Int) := X ++ List.replicate ((4 - X.length % 4) % 4) []
def endS (X : List (List Int)) : List (List Int) × Int := if (fillS X).length > 12 then ([], 3) else (fillS X, 0)
theorem fill_len (X : List (List Int)) : (fillS X).length % 4 = 0 ∧ X.length ≤ (fillS X).length ∧ (fillS X).length ≤ X.length + 3 := by
  unfold fillS
  rw [List.length_append, List.length_replicate]
  omega
theorem fill_four (X : List (List Int)) (h : X.length % 4 = 0) : fillS X = X := by
  unfold fillS
  rw [show (4 - X.length % 4) % 4 = 0 by omega]
  simp
theorem fill_more (X : List (List Int)) (h : ¬ X.length % 4 = 0) : fillS (X ++ [[]]) = fillS X := by
  unfold fillS
  rw [List.length_append, List.length_singleton, List.append_assoc]
  obtain ⟨d, hd⟩ : ∃ d, (4 - X.length % 4) % 4 = d + 1 := ⟨(4 - X.length % 4) % 4 - 1, by omega⟩
  rw [hd, show (4 - (X.length + 1) % 4) % 4 = d by omega, List.replicate_succ]
  rfl
theorem endS_more (X : List (List Int)) (h : ¬ X.length % 4 = 0) : endS (X ++ [[]]) = endS X := by unfold endS; rw [fill_more X h]
theorem make_l2 (d : Nat) : ∀ X : List (List Int), (4 - X.length % 4) % 4 = d → X.length ≤ 100000 → Ev (fun k => booklet_Make.l2 k X) (endS X) := by
  induction d with
  | zero =>
    intro X hd hl
    refine ev_step ?_ (fun k => by rw [booklet_Make.l2])
    unfold endS
    rw [fill_four X (by omega)]
    refine ev_pos (by omega) (ev_ite (fun h => ev_some ?_) (fun h => ev_some ?_))
    · rw [if_pos (by omega)]
    · rw [if_neg (by omega)]
  | succ d ih =>
    intro X hd hl
    refine ev_step ?_ (fun k => by rw [booklet_Make.l2])
    rw [← endS_more X (by omega)]
    exact ev_neg (by omega) (ev_pos (by omega) (ih _ (by rw [List.length_append, List.length_singleton]; omega) (by rw [List.length_append, List.length_singleton]; omega)))

section
variable (c v : Int) (ps : List Part) (hp : ps.length ≤ 1000)
include hp
theorem make_l1 (d : Nat) : ∀ (i : Nat) (X : List (List Int)) (cur : List Int) (left : Int), i + d = ps.length → X.length + d ≤ 10000 → cur.length ≤ i → 0 ≤ left → left ≤ 30 →
    Ev (fun k => booklet_Make.l1 k X (i : Int) cur left c v ps) (endS (X ++ pk (ps.drop i) i left cur)) := by
  induction d with
  | zero =>
    intro i X cur left hi hx hc h0 h1
    refine ev_step ?_ (fun k => by rw [booklet_Make.l1])
    rw [List.drop_of_length_le (by omega), pk]
    refine ev_neg (by omega) (ev_pos (by omega) ?_)
    refine ev_step ?_ (fun k => by rw [booklet_Make.l0])
    exact ev_neg (by omega) (make_l2 _ _ rfl (by rw [List.length_append, List.length_singleton]; omega))
  | succ d ih =>
    intro i X cur left hi hx hc h0 h1
    have hn := need_le (ps.getD i z23)
    have w1 : ∀ left : Int, 0 ≤ left → left ≤ 30 → wrap64 (left - need (ps.getD i z23)) = left - need (ps.getD i z23) := fun left a b => wrap_id (by omega) (by omega)
    refine ev_step ?_ (fun k => by rw [booklet_Make.l1])
    rw [rdp_nat, drop_cons_at ps z23 i (by omega), pk, next_index i ps.length (by omega) (by omega)]
    refine ev_pos (by omega) (ev_pos (by omega) (ev_bind (need_ev _) ?_))
    rw [w1 left h0 h1]
    by_cases hlt : left < need (ps.getD i z23)
    · rw [if_pos hlt]
      refine ev_pos (by omega) (ev_pos (by omega) ?_)
      refine ev_step ?_ (fun k => by rw [booklet_Make.l0])
      refine ev_pos (by omega) ?_
      refine ev_step ?_ (fun k => by rw [booklet_Make.l1])
      rw [rdp_nat, next_index i ps.length (by omega) (by omega)]
      refine ev_pos (by omega) (ev_pos (by omega) (ev_bind (need_ev _) ?_))
      rw [w1 30 (by omega) (by omega)]
      refine ev_neg (by omega) (ev_pos (by simp) ?_)
      refine ev_eq (ih (i + 1) (X ++ [cur]) [(i : Int)] (30 - need (ps.getD i z23)) (by omega) (by rw [List.length_append, List.length_singleton]; omega) (by simp) (by omega) (by omega)) ?_
      rw [List.append_assoc]; rfl
    · rw [if_neg hlt]
      refine ev_neg (by omega) (ev_pos (by omega) ?_)
      exact ih (i + 1) X (cur ++ [(i : Int)]) (left - need (ps.getD i z23)) (by omega) (by omega) (by rw [List.length_append, List.length_singleton]; omega) (by omega) (by omega)
theorem last_get (X : List (List Int)) (cur : List Int) (hx : X.length ≤ 100000) : wrap64 (((X ++ [cur]).length : Int) - 1) = (X.length : Int) ∧ rd_L2 (X ++ [cur]) (X.length : Int) = cur := by
  constructor
  · rw [List.length_append, List.length_singleton, wrap_id (by omega) (by omega)]; omega
  · unfold rd_L2
    rw [Int.toNat_natCast, List.getD_eq_getElem?_getD, List.getElem?_append_right (Nat.le_refl _), Nat.sub_self]
    rfl
theorem last_set (X : List (List Int)) (cur z : List Int) : (X ++ [cur]).set ((X.length : Int)).toNat z = X ++ [z] := by
  rw [Int.toNat_natCast, List.set_append_right _ _ (Nat.le_refl _), Nat.sub_self]
  rfl

def makeS (c v : Int) (ps : List Part) : List (List Int) × Int := if vpS c v ps = true then endS ([[]] ++ pk ps 0 30 []) else ([], 1)
theorem make_ev : Ev (fun k => booklet_Make.f k c v ps) (makeS c v ps) := by
  unfold booklet_Make.f makeS
  refine ev_bind (vp_ev c v ps (by omega)) (ev_ite (fun h => ?_) (fun h => ev_some ?_))
  · rw [if_pos h]
    have hpos : 1 ≤ ps.length := by
      unfold vpS at h
      by_cases hc : 0 ≤ c ∧ c ≤ 31 ∧ 0 ≤ v ∧ v ≤ 3 ∧ 1 ≤ ps.length ∧ ps.length ≤ 24
      · omega
      · rw [if_neg hc] at h; cases h
    refine ev_step ?_ (fun k => by rw [booklet_Make.l0])
    have := make_l1 c v ps hp ps.length 0 [[]] [] 30 (by omega) (by simp; omega) (by simp) (by omega) (by omega)
    rw [List.drop_zero] at this
    exact ev_pos (by omega) this
  · rw [if_neg h]
theorem makeS_rows : (makeS c v ps).1.length ≤ 12 ∧ ∀ r ∈ (makeS c v ps).1, r.length ≤ 1000 := by
  unfold makeS
  split
  · unfold endS
    split
    · exact ⟨by simp, fun r hr => by cases hr⟩
    · refine ⟨by show (fillS ([[]] ++ pk ps 0 30 [])).length ≤ 12; omega, fun r hr => ?_⟩
      unfold fillS at hr
      rcases List.mem_append.1 hr with hr | hr
      · rcases List.mem_append.1 hr with hr | hr
        · simp at hr; subst hr; simp
        · have := pk_rows ps 0 30 [] r hr
          simp at this; omega
      · have := List.eq_of_mem_replicate hr; subst this; simp
  · exact ⟨by simp, fun r hr => by cases hr⟩
end

theorem ints_loop (l : List Int) (hl : l.length ≤ 1000000000000) (d : Nat) : ∀ i : Nat, i + d = l.length → Ev (fun k => awardingbodyref06_Ints.l0 k l l (i : Int)) true := by
  induction d with
  | zero =>
    intro i hi
    refine ev_step ?_ (fun k => by rw [awardingbodyref06_Ints.l0])
    exact ev_neg (by omega) (ev_some rfl)
  | succ d ih =>
    intro i hi
    refine ev_step ?_ (fun k => by rw [awardingbodyref06_Ints.l0])
    rw [next_index i l.length (by omega) hl]
    exact ev_pos (by omega) (ev_pos (by omega) (ev_pos (by omega) (ev_pos rfl (ih (i + 1) (by omega)))))
theorem ints_self (l : List Int) (hl : l.length ≤ 1000000000000) : Ev (fun k => awardingbodyref06_Ints.f k l l) true := by
  unfold awardingbodyref06_Ints.f
  exact ev_pos rfl (ints_loop l hl l.length 0 (by omega))
theorem rdl_nat (X : List (List Int)) (i : Nat) : rd_L2 X (i : Int) = X.getD i [] := by unfold rd_L2; rw [Int.toNat_natCast]
theorem getD_in {α : Type} (l : List α) (d : α) (i : Nat) (h : i < l.length) : l.getD i d ∈ l := by
  rw [List.getD_eq_getElem?_getD, List.getElem?_eq_getElem h]
  exact List.getElem_mem _

end Go.Proofs.Ytdmlbgdefapcjaa.Pure
