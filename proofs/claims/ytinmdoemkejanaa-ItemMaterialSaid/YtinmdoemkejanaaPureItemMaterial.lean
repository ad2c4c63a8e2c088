/- ItemMaterial: for every tape the law answers true. -/
import Derived.Test.YtinmdoemkejanaaPrint18
import Derived.Test.YtinmdoemkejanaaInts
import Derived.Test.YtinmdoemkejanaaItemGen
namespace Go.Proofs.Ytinmdoemkejanaa.Pure
open Go.RowKit Go.Proofs.Ytinmdoemkejanaa.Print Go.Proofs.YtinmdoemkejanaaW.PrintWords Go.Proofs.YtinmdoemkejanaaW.PrintLast Go.Proofs.YtinmdoemkejanaaW.PrintMore
set_option linter.unusedVariables false

/-- Do two parts differ? -/
def dP (p q : Part) : Bool := (!(p.f0 == q.f0) || (!(p.f1 == q.f1) || (!(p.f2 == q.f2) || (!(p.f3 == q.f3) || (!(p.f4 == q.f4) || (!(p.f5 == q.f5)))))))
theorem dP_sym (p q : Part) : dP p q = dP q p := by
  unfold dP
  rw [Bool.beq_comm (a := p.f0), Bool.beq_comm (a := p.f1), Bool.beq_comm (a := p.f2), Bool.beq_comm (a := p.f3), Bool.beq_comm (a := p.f4), Bool.beq_comm (a := p.f5)]
theorem dP_self (p : Part) : dP p p = false := by unfold dP; simp
/-- Do two lists of parts differ at a place? -/
def dAt (a b : List Part) (i : Nat) : Bool := decide (a.length ≤ i ∨ b.length ≤ i) || dP (a.getD i z23) (b.getD i z23)
theorem dAt_sym (a b : List Part) (i : Nat) : dAt a b i = dAt b a i := by
  unfold dAt
  rw [dP_sym, show decide (a.length ≤ i ∨ b.length ≤ i) = decide (b.length ≤ i ∨ a.length ≤ i) from decide_eq_decide.2 (by omega)]
/-- The places from i on, d of them, at which they differ. -/
def mat (a b : List Part) : Nat → Nat → List Int
  | 0, _ => []
  | d + 1, i => if dAt a b i = true then (i : Int) :: mat a b d (i + 1) else mat a b d (i + 1)
theorem mat_sym (a b : List Part) : ∀ d i, mat a b d i = mat b a d i
  | 0, _ => rfl
  | d + 1, i => by unfold mat; rw [dAt_sym, mat_sym a b d]
theorem mat_length (a b : List Part) : ∀ d i, (mat a b d i).length ≤ d
  | 0, _ => by simp [mat]
  | d + 1, i => by
    have := mat_length a b d (i + 1)
    unfold mat
    split
    · simp only [List.length_cons]; omega
    · omega
theorem mat_self (a : List Part) : ∀ d i, i + d ≤ a.length → mat a a d i = []
  | 0, _, _ => rfl
  | d + 1, i, h => by
    unfold mat dAt
    rw [decide_eq_false (by omega), dP_self, Bool.or_false, if_neg (by decide)]
    exact mat_self a d (i + 1) (by omega)
theorem mx_nat (a b : Nat) : mx (a : Int) (b : Int) = ((max a b : Nat) : Int) := by
  unfold mx
  by_cases h : (a : Int) < b
  · rw [if_pos h]; omega
  · rw [if_neg h]; omega
section
variable (i1 v1 : Int) (s1 : ByteArray) (a : List Part) (e1 : List Int) (i2 v2 : Int) (s2 : ByteArray) (b : List Part) (e2 : List Int) (n : Nat) (hn : n ≤ 1000000)
include hn
theorem mat_loop (d : Nat) : ∀ (i : Nat) (acc : List Int), i + d = n → acc.length ≤ i →
    Ev (fun k => item_Material.l0 k acc (n : Int) (i : Int) i1 v1 s1 a e1 i2 v2 s2 b e2) (acc ++ mat a b d i) := by
  induction d with
  | zero =>
    intro i acc hi ha
    refine ev_step ?_ (fun k => by rw [item_Material.l0])
    rw [mat, List.append_nil]
    exact ev_neg (by omega) (ev_some rfl)
  | succ d ih =>
    intro i acc hi ha
    have yes : dAt a b i = true → Ev (fun k => item_Material.l0 k (acc ++ [(i : Int)]) (n : Int) ((i + 1 : Nat) : Int) i1 v1 s1 a e1 i2 v2 s2 b e2) (acc ++ mat a b (d + 1) i) := fun h => ev_eq (ih (i + 1) _ (by omega) (by simp; omega)) (by rw [mat, if_pos h, List.append_assoc]; rfl)
    have no : ¬ dAt a b i = true → Ev (fun k => item_Material.l0 k acc (n : Int) ((i + 1 : Nat) : Int) i1 v1 s1 a e1 i2 v2 s2 b e2) (acc ++ mat a b (d + 1) i) := fun h => ev_eq (ih (i + 1) _ (by omega) (by omega)) (by rw [mat, if_neg h])
    refine ev_step ?_ (fun k => by rw [item_Material.l0])
    rw [next_index i n (by omega) (by omega), rdp_nat, rdp_nat]
    refine ev_pos (by omega) (ev_ite (fun h1 => ev_pos (by omega) (yes ?_)) (fun h1 => ev_ite (fun h2 => ev_pos (by omega) (yes ?_)) (fun h2 => ev_pos (by omega) (ev_pos (by omega) (ev_pos (by omega) (ev_ite (fun h3 => ev_pos (by omega) (yes ?_)) (fun h3 => no ?_)))))))
    · unfold dAt; rw [decide_eq_true (.inl (by omega)), Bool.true_or]
    · unfold dAt; rw [decide_eq_true (.inr (by omega)), Bool.true_or]
    · unfold dAt; rw [decide_eq_false (by omega), Bool.false_or]; exact h3
    · unfold dAt; rw [decide_eq_false (by omega), Bool.false_or]; exact h3
theorem rmat_loop (hm : max a.length b.length = n) (d : Nat) : ∀ (i : Nat) (acc : List Int), i + d = n → acc.length ≤ i →
    Ev (fun k => awardingbodyref06_Material.l0 k acc (i : Int) i1 v1 s1 a e1 i2 v2 s2 b e2) (acc ++ mat a b d i) := by
  induction d with
  | zero =>
    intro i acc hi ha
    refine ev_step ?_ (fun k => by rw [awardingbodyref06_Material.l0])
    rw [mat, List.append_nil, mx_nat, hm]
    exact ev_neg (by omega) (ev_some rfl)
  | succ d ih =>
    intro i acc hi ha
    have yes : dAt a b i = true → Ev (fun k => awardingbodyref06_Material.l0 k (acc ++ [(i : Int)]) ((i + 1 : Nat) : Int) i1 v1 s1 a e1 i2 v2 s2 b e2) (acc ++ mat a b (d + 1) i) := fun h => ev_eq (ih (i + 1) _ (by omega) (by simp; omega)) (by rw [mat, if_pos h, List.append_assoc]; rfl)
    have no : ¬ dAt a b i = true → Ev (fun k => awardingbodyref06_Material.l0 k acc ((i + 1 : Nat) : Int) i1 v1 s1 a e1 i2 v2 s2 b e2) (acc ++ mat a b (d + 1) i) := fun h => ev_eq (ih (i + 1) _ (by omega) (by omega)) (by rw [mat, if_neg h])
    refine ev_step ?_ (fun k => by rw [awardingbodyref06_Material.l0])
    rw [next_index i n (by omega) (by omega), rdp_nat, rdp_nat, mx_nat, hm]
    refine ev_pos (by omega) (ev_ite (fun h1 => ev_pos (by omega) (yes ?_)) (fun h1 => ev_ite (fun h2 => ev_pos (by omega) (yes ?_)) (fun h2 => ev_pos (by omega) (ev_pos (by omega) (ev_pos (by omega) (ev_ite (fun h3 => ev_pos (by omega) (yes ?_)) (fun h3 => no ?_)))))))
    · unfold dAt; rw [decide_eq_true (.inl (by omega)), Bool.true_or]
    · unfold dAt; rw [decide_eq_true (.inr (by omega)), Bool.true_or]
    · unfold dAt; rw [decide_eq_false (by omega), Bool.false_or]; exact h3
    · unfold dAt; rw [decide_eq_false (by omega), Bool.false_or]; exact h3
end
def matS (a b : List Part) : List Int := mat a b (max a.length b.length) 0
theorem matS_sym (a b : List Part) : matS a b = matS b a := by unfold matS; rw [mat_sym, Nat.max_comm]
theorem matS_self (a : List Part) : matS a a = [] := mat_self a _ 0 (by omega)
theorem mat_ev (i1 v1 : Int) (s1 : ByteArray) (a : List Part) (e1 : List Int) (i2 v2 : Int) (s2 : ByteArray) (b : List Part) (e2 : List Int) (ha : a.length ≤ 1000000) (hb : b.length ≤ 1000000) :
    Ev (fun k => item_Material.f k i1 v1 s1 a e1 i2 v2 s2 b e2) (matS a b) := by
  unfold item_Material.f
  rw [mx_nat]
  exact mat_loop i1 v1 s1 a e1 i2 v2 s2 b e2 _ (by omega) _ 0 [] (by omega) (by simp)
theorem rmat_ev (i1 v1 : Int) (s1 : ByteArray) (a : List Part) (e1 : List Int) (i2 v2 : Int) (s2 : ByteArray) (b : List Part) (e2 : List Int) (ha : a.length ≤ 1000000) (hb : b.length ≤ 1000000) :
    Ev (fun k => awardingbodyref06_Material.f k i1 v1 s1 a e1 i2 v2 s2 b e2) (matS a b) := by
  unfold awardingbodyref06_Material.f
  exact rmat_loop i1 v1 s1 a e1 i2 v2 s2 b e2 _ (by omega) rfl _ 0 [] (by omega) (by simp)

theorem law_j1 (i1 v1 : Int) (s1 : ByteArray) (a : List Part) (e1 : List Int) (i2 v2 : Int) (s2 : ByteArray) (b : List Part) (e2 : List Int) (ha : a.length ≤ 1000) (hb : b.length ≤ 1000) :
    Ev (fun k => awardingbodylaw06_ItemMaterial.j1 k i1 v1 s1 a e1 i2 v2 s2 b e2) true := by
  have hl : (matS a b).length ≤ 1000 := Nat.le_trans (mat_length a b _ 0) (by omega)
  have h1 := mat_ev i1 v1 s1 a e1 i2 v2 s2 b e2 (by omega) (by omega)
  have h2 := rmat_ev i1 v1 s1 a e1 i2 v2 s2 b e2 (by omega) (by omega)
  have h3 := mat_ev i2 v2 s2 b e2 i1 v1 s1 a e1 (by omega) (by omega)
  have h4 := mat_ev i1 v1 s1 a e1 i1 v1 s1 a e1 (by omega) (by omega)
  rw [← matS_sym a b] at h3
  rw [matS_self] at h4
  refine ev_step ?_ (fun k => by rw [awardingbodylaw06_ItemMaterial.j1])
  refine ev_bind h1 (ev_bind h2 (ev_bind (ints_self _ (by omega)) (ev_pos rfl ?_)))
  refine ev_bind h1 (ev_bind h3 (ev_bind (ints_self _ (by omega)) (ev_pos rfl ?_)))
  exact ev_bind h4 (ev_pos rfl (ev_bind awake_ev (ev_some rfl)))

theorem law_j0 {L : List Int} {p : Int} (h : TP L p) (c : Bool) (i1 v1 : Int) (s1 : ByteArray) (a : List Part) (e1 : List Int) (i2 v2 : Int) (s2 : ByteArray) (b : List Part) (e2 : List Int) (ha : a.length ≤ 100) (hb : b.length ≤ 100) (hc : c = true → 0 < a.length) :
    Ev (fun k => awardingbodylaw06_ItemMaterial.j0 k c L p i1 v1 s1 a e1 i2 v2 s2 b e2) true := by
  refine ev_step ?_ (fun k => by rw [awardingbodylaw06_ItemMaterial.j0])
  by_cases hb' : c = true
  · have h0 := hc hb'
    obtain ⟨x, q1, hr, hq1, hx, _⟩ := next_ok h (a.length : Int) (by omega)
    have hx := hx (by omega)
    obtain ⟨u, q2, hr2, hq2, _⟩ := part_gen hq1 0 (by omega)
    refine ev_pos hb' (ev_bind_now rfl (ev_pos (by simp only [List.length_nil]; omega) (ev_bind_now rfl ?_)))
    rw [List.nil_append]
    exact ev_bind_now hr (ev_bind hr2 (ev_pos (by omega) (ev_pos (by omega) (law_j1 i1 v1 s1 a e1 i2 v2 s2 _ e2 (by omega) (by rw [List.length_set]; omega)))))
  · exact ev_neg hb' (law_j1 i1 v1 s1 a e1 i2 v2 s2 b e2 (by omega) (by omega))

theorem ItemMaterial : awardingbodylaw06_ItemMaterial.Pure := by
  intro l _ _ _
  obtain ⟨M, h0, hp⟩ := new_ok l
  obtain ⟨i, v, s, ps, en, q2, h2, hq2, hs, hps, hen, _⟩ := item_gen hp 1 1 4 (by omega)
  obtain ⟨j, w, t, qs, fo, q4, h4, hq4, ht, hqs, hfo, _⟩ := item_gen hq2 2 2 4 (by omega)
  obtain ⟨b, q5, h5, hq5, _⟩ := next_ok hq4 2 (by omega)
  refine Ev.rounds (g := fun k => awardingbodylaw06_ItemMaterial.f k l) ?_
  unfold awardingbodylaw06_ItemMaterial.f
  refine ev_bind_now h0 (ev_bind h2 (ev_bind h4 (ev_bind_now h5 (ev_ite (fun _ => ?_) (fun _ => ?_)))))
  · exact law_j0 hq5 _ i v s ps en j w t qs fo hps hqs (fun h => by have h : (ps.length : Int) > 0 := of_decide_eq_true h; omega)
  · exact law_j0 hq5 false i v s ps en j w t qs fo hps hqs (fun h => by cases h)

end Go.Proofs.Ytinmdoemkejanaa.Pure
