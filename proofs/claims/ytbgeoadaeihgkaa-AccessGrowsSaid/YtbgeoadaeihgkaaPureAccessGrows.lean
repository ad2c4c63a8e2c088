/- AccessGrows: for every tape, time and length the law answers true. No further conditions. -/
import Derived.Test.YtbgeoadaeihgkaaPrint23
import Derived.Test.YtbgeoadaeihgkaaPrint8
import Derived.Test.YtbgeoadaeihgkaaPrint22
import Derived.Test.YtbgeoadaeihgkaaAccGen
namespace Go.Proofs.Ytbgeoadaeihgkaa.Pure
open Go.RowKit Go.Proofs.Ytbgeoadaeihgkaa.Print Go.Proofs.YtbgeoadaeihgkaaW.PrintWords Go.Proofs.YtbgeoadaeihgkaaW.PrintLast
set_option linter.unusedVariables false

theorem grows_ok {rules : List Rule} (h1 : rules.length ≤ 12) (h2 : ∀ r ∈ rules, ruleOk r = true) : checkS rules = 0 := by
  unfold checkS
  rw [if_neg (by omega), List.all_eq_true.2 h2]
  rfl
theorem has_loop (l : List Int) (x : Int) (hl : l.length ≤ 1000000) (hx : x ∈ l) (d : Nat) : ∀ i : Nat, i + d = l.length → (∀ j, j < i → l.getD j 0 ≠ x) → Ev (fun k => awardingbodyref06_Has.l0 k l x (i : Int)) true := by
  induction d with
  | zero =>
    intro i hi hn
    obtain ⟨j, hj, e⟩ := List.getElem_of_mem hx
    exact absurd (by rw [List.getD_eq_getElem?_getD, List.getElem?_eq_getElem hj]; exact e) (hn j (by omega))
  | succ d ih =>
    intro i hi hn
    refine ev_step ?_ (fun k => by rw [awardingbodyref06_Has.l0])
    have hr : rd l (i : Int) = l.getD i 0 := by unfold rd; rw [Int.toNat_natCast]
    rw [hr, next_index i l.length (by omega) (by omega)]
    refine ev_pos (by omega) (ev_pos (by omega) (ev_ite (fun _ => ev_some rfl) (fun h => ih (i + 1) (by omega) (fun j hj => ?_))))
    by_cases hji : j = i
    · subst hji; exact h
    · exact hn j (by omega)
theorem has_ev (l : List Int) (x : Int) (hl : l.length ≤ 1000000) (hx : x ∈ l) : Ev (fun k => awardingbodyref06_Has.f k l x) true :=
  has_loop l x hl hx l.length 0 (by omega) (fun j hj => by omega)

/-! Needs that lie within others. -/
def Sub (a b : Int) : Prop := orI a b = b
theorem sub_refl {a : Int} (h : Nd a) : Sub a a := or_self h
theorem sub_step {a b x : Int} (ha : Nd a) (hb : Nd b) (hx : Nd x) (h : Sub a b) : Sub (orI a x) (orI b x) := by
  unfold Sub at *
  rw [or_assoc ha hx (or_nd hb hx), ← or_assoc hx hb hx, or_comm hx hb, or_assoc hb hx hx, or_self hx, ← or_assoc ha hb hx, h]
theorem sub_grow {a b x : Int} (ha : Nd a) (hb : Nd b) (hx : Nd x) (h : Sub a b) : Sub a (orI b x) := by
  unfold Sub at *
  rw [← or_assoc ha hb hx, h]
theorem acc_grows (p q : Rule → Bool) (rules : List Rule) (ho : ∀ r ∈ rules, ruleOk r = true) (hpq : ∀ r ∈ rules, p r = true → q r = true) : ∀ (e e' n n' : Int), e ≤ e' → Nd n → Nd n' → Sub n n' → 0 ≤ e → e' ≤ 100 →
    let s := accS ((rules.filter p).map fun r => ⟨r.f2, r.f3⟩) e n; let s' := accS ((rules.filter q).map fun r => ⟨r.f2, r.f3⟩) e' n'; s.1 ≤ s'.1 ∧ Nd s.2 ∧ Nd s'.2 ∧ Sub s.2 s'.2 ∧ 0 ≤ s.1 ∧ s'.1 ≤ 100 := by
  induction rules with
  | nil => intro e e' n n' h1 h2 h3 h4 h5 h6; exact ⟨h1, h2, h3, h4, h5, h6⟩
  | cons r rs ih =>
    intro e e' n n' h1 h2 h3 h4 h5 h6
    have hv := validB_iff.1 (ruleOk_parts (ho r (List.mem_cons_self ..))).2
    have ih := ih (fun x hx => ho x (List.mem_cons_of_mem _ hx)) (fun x hx => hpq x (List.mem_cons_of_mem _ hx))
    by_cases hp : p r = true
    · have hq := hpq r (List.mem_cons_self ..) hp
      rw [List.filter_cons_of_pos hp, List.filter_cons_of_pos hq]
      exact ih (mx e r.f2) (mx e' r.f2) (orI n r.f3) (orI n' r.f3) (by rw [mx_eq, mx_eq]; omega) (or_nd h2 hv.2.2) (or_nd h3 hv.2.2) (sub_step h2 h3 hv.2.2 h4) (by rw [mx_eq]; omega) (by rw [mx_eq]; omega)
    · rw [List.filter_cons_of_neg hp]
      by_cases hq : q r = true
      · rw [List.filter_cons_of_pos hq]
        exact ih e (mx e' r.f2) n (orI n' r.f3) (by rw [mx_eq]; omega) h2 (or_nd h3 hv.2.2) (sub_grow h2 h3 hv.2.2 h4) h5 (by rw [mx_eq]; omega)
      · rw [List.filter_cons_of_neg hq]
        exact ih e e' n n' h1 h2 h3 h4 h5 h6
/-- What follows from an access, in numbers. -/
theorem sub_nat : ∀ a b : Fin 64, a.val ||| b.val = b.val → (b.val &&& 24 = 0 → a.val &&& 24 = 0) ∧ (b.val &&& 32 = 0 → a.val &&& 32 = 0) := by decide +kernel
theorem sub_one : ∀ a : Fin 64, (a.val ||| 1) &&& 32 = 0 ↔ a.val &&& 32 = 0 := by decide +kernel
theorem not_of_sub : ∀ a b : Fin 64, a.val ||| b.val = b.val → Go.bits .andNot .i64 ((a.val : Nat) : Int) ((b.val : Nat) : Int) = 0 := by decide +kernel
theorem imply_grows {e e' n n' : Int} (h1 : e ≤ e') (h2 : Nd n) (h3 : Nd n') (h4 : Sub n n') (h5 : 0 ≤ e) (h6 : e' ≤ 100) :
    ∃ m m', implyS e n = (e, m) ∧ implyS e' n' = (e', m') ∧ Nd m ∧ Nd m' ∧ Sub m m' := by
  have v1 : validB e n = true := validB_iff.2 ⟨h5, by omega, h2⟩
  have v2 : validB e' n' = true := validB_iff.2 ⟨by omega, h6, h3⟩
  unfold implyS
  rw [if_pos v1, if_pos v2]
  obtain ⟨a, rfl, ha⟩ := h2.nat
  obtain ⟨b, rfl, hb⟩ := h3.nat
  have hs : a ||| b = b := by unfold Sub at h4; rw [or_nat a b ha hb] at h4; exact Int.ofNat.inj h4
  have hk := (sub_nat ⟨a, ha⟩ ⟨b, hb⟩ hs).1
  have n1 : Nd (a : Int) := ⟨by omega, by omega⟩
  have n2 : Nd (b : Int) := ⟨by omega, by omega⟩
  have g1 : Nd (orI a 1) := or_nd n1 one_nd
  have g2 : Nd (orI b 1) := or_nd n2 one_nd
  have s1 : Sub (a : Int) (orI b 1) := sub_grow n1 n2 one_nd h4
  have s2 : Sub (orI (a : Int) 1) (orI b 1) := sub_step n1 n2 one_nd h4
  have k1 : Go.bits .and .i64 (a : Int) 24 = 0 ↔ a &&& 24 = 0 := by rw [show (24 : Int) = ((24 : Nat) : Int) from rfl, and_nat a 24 ha (by omega)]; omega
  have k2 : Go.bits .and .i64 (b : Int) 24 = 0 ↔ b &&& 24 = 0 := by rw [show (24 : Int) = ((24 : Nat) : Int) from rfl, and_nat b 24 hb (by omega)]; omega
  by_cases c1 : Go.bits .and .i64 (a : Int) 24 = 0
  · rw [if_pos c1]
    by_cases c2 : Go.bits .and .i64 (b : Int) 24 = 0
    · rw [if_pos c2]
      by_cases c3 : e > 25
      · rw [if_pos c3, if_pos (by omega)]; exact ⟨_, _, rfl, rfl, g1, g2, s2⟩
      · rw [if_neg c3]
        by_cases c4 : e' > 25
        · rw [if_pos c4]; exact ⟨_, _, rfl, rfl, n1, g2, s1⟩
        · rw [if_neg c4]; exact ⟨_, _, rfl, rfl, n1, n2, h4⟩
    · rw [if_neg c2]
      by_cases c3 : e > 25
      · rw [if_pos c3]; exact ⟨_, _, rfl, rfl, g1, g2, s2⟩
      · rw [if_neg c3]; exact ⟨_, _, rfl, rfl, n1, g2, s1⟩
  · rw [if_neg c1, if_neg (fun h => c1 (k1.2 (hk (k2.1 h))))]
    exact ⟨_, _, rfl, rfl, g1, g2, s2⟩

/-- How long: at least the base, and no shorter by more. -/
theorem minutes_ev (b e m : Int) (hb : 1 ≤ b) (hb2 : b ≤ 600) (he : 0 ≤ e) (he2 : e ≤ 100) (hm : Nd m) :
    Ev (fun k => access_Minutes.f k b e m) (b + (b * e + 99) / 100 + (if Go.bits .and .i64 m 32 = 0 then 0 else 5 * ((b + 29) / 30)), 0) := by
  have hv : access_valid.f e m = some true := by rw [valid_eq, validB_iff.2 ⟨he, he2, hm⟩]
  have h0 : 0 ≤ b * e := Int.mul_nonneg (by omega) he
  have h1 : b * e ≤ 60000 := by
    have := Int.mul_le_mul hb2 he2 he (by omega : (0 : Int) ≤ 600)
    omega
  have w1 : wrap64 (b * e) = b * e := wrap_id (by omega) (by omega)
  have w2 : wrap64 (b * e + 99) = b * e + 99 := wrap_id (by omega) (by omega)
  have t1 : Int.tdiv (b * e + 99) 100 = (b * e + 99) / 100 := Int.tdiv_eq_ediv_of_nonneg (by omega)
  have t2 : Int.tdiv (b + 29) 30 = (b + 29) / 30 := Int.tdiv_eq_ediv_of_nonneg (by omega)
  have w3 : wrap64 (b + 29) = b + 29 := wrap_id (by omega) (by omega)
  have w4 : wrap64 ((b * e + 99) / 100) = (b * e + 99) / 100 := wrap_id (by omega) (by omega)
  have w5 : wrap64 (b + (b * e + 99) / 100) = b + (b * e + 99) / 100 := wrap_id (by omega) (by omega)
  have w6 : wrap64 ((b + 29) / 30) = (b + 29) / 30 := wrap_id (by omega) (by omega)
  have w7 : wrap64 (5 * ((b + 29) / 30)) = 5 * ((b + 29) / 30) := wrap_id (by omega) (by omega)
  unfold access_Minutes.f
  refine ev_bind_now hv (ev_pos rfl (ev_neg (by omega) ?_))
  refine ev_step ?_ (fun k => by rw [access_Minutes.j0])
  rw [w1, w2, t1, w3, t2, w4, w5, w6, w7]
  refine ev_neg (by rw [decide_eq_true_eq]; omega) ?_
  by_cases h : Go.bits .and .i64 m 32 = 0
  · rw [if_pos h, if_pos h, Int.add_zero]
    exact ev_some rfl
  · rw [if_neg h, if_neg h, wrap_id (by omega) (by omega)]
    exact ev_some rfl
theorem minutes_grow {b e e' m m' : Int} (hb : 1 ≤ b) (he : e ≤ e') (hm : Nd m) (hm' : Nd m') (hs : Sub m m') :
    b + (b * e + 99) / 100 + (if Go.bits .and .i64 m 32 = 0 then 0 else 5 * ((b + 29) / 30)) ≤ b + (b * e' + 99) / 100 + (if Go.bits .and .i64 m' 32 = 0 then 0 else 5 * ((b + 29) / 30)) := by
  have h1 : b * e ≤ b * e' := Int.mul_le_mul_of_nonneg_left he (by omega)
  obtain ⟨x, rfl, hx⟩ := hm.nat
  obtain ⟨y, rfl, hy⟩ := hm'.nat
  have hs : x ||| y = y := by unfold Sub at hs; rw [or_nat x y hx hy] at hs; exact Int.ofNat.inj hs
  have hk := (sub_nat ⟨x, hx⟩ ⟨y, hy⟩ hs).2
  have k1 : Go.bits .and .i64 (x : Int) 32 = 0 ↔ x &&& 32 = 0 := by rw [show (32 : Int) = ((32 : Nat) : Int) from rfl, and_nat x 32 hx (by omega)]; omega
  have k2 : Go.bits .and .i64 (y : Int) 32 = 0 ↔ y &&& 32 = 0 := by rw [show (32 : Int) = ((32 : Nat) : Int) from rfl, and_nat y 32 hy (by omega)]; omega
  by_cases c1 : Go.bits .and .i64 (x : Int) 32 = 0
  · rw [if_pos c1]; split <;> omega
  · rw [if_neg c1, if_neg (fun h => c1 (k1.2 (hk (k2.1 h))))]; omega

theorem resFrom_mem (l m : List Evid) (c t : Int) (h : ∀ r, app l c t r = true → app m c t r = true) (rules : List Rule) : ∀ (i : Nat) (j : Int), j ∈ resFrom l c t i rules → j ∈ resFrom m c t i rules := by
  induction rules with
  | nil => intro i j hj; exact hj
  | cons r rs ih =>
    intro i j hj
    simp only [resFrom] at hj ⊢
    by_cases c1 : app l c t r = true
    · rw [if_pos c1] at hj
      rw [if_pos (h r c1)]
      rcases List.mem_cons.1 hj with rfl | hj
      · exact List.mem_cons_self ..
      · exact List.mem_cons_of_mem _ (ih (i + 1) j hj)
    · rw [if_neg c1] at hj
      split
      · exact List.mem_cons_of_mem _ (ih (i + 1) j hj)
      · exact ih (i + 1) j hj

theorem grows_loop (b p q e e' m m' : Int) (r u : List Int) (hu : ∀ x ∈ r, x ∈ u) (hr : r.length ≤ 1000) (hul : u.length ≤ 1000) (h1 : e ≤ e') (h2 : Go.bits .andNot .i64 m m' = 0) (h3 : p ≤ q) (h4 : p ≥ b) (d : Nat) : ∀ i : Nat, i + d = r.length →
    Ev (fun k => awardingbodylaw14_AccessGrows.l0 k b 0 0 p 0 q 0 r u (i : Int) e m e' m') true := by
  induction d with
  | zero =>
    intro i hi
    refine ev_step ?_ (fun k => by rw [awardingbodylaw14_AccessGrows.l0])
    exact ev_neg (by omega) (ev_pos rfl (ev_pos rfl (ev_pos rfl (ev_pos rfl (ev_pos h1 (ev_pos h2 (ev_pos h3 (ev_pos h4 (ev_bind awake_ev (ev_some rfl))))))))))
  | succ d ih =>
    intro i hi
    refine ev_step ?_ (fun k => by rw [awardingbodylaw14_AccessGrows.l0])
    have hx : rd r (i : Int) = r.getD i 0 := by unfold rd; rw [Int.toNat_natCast]
    rw [hx, next_index i r.length (by omega) (by omega)]
    exact ev_pos (by omega) (ev_pos (by omega) (ev_bind (has_ev u _ (by omega) (hu _ (getD_mem r 0 i (by omega)))) (ev_pos rfl (ih (i + 1) (by omega)))))

theorem AccessGrows : awardingbodylaw14_AccessGrows.Pure := by
  intro l0 a1 a2 _ _ _ _ _
  obtain ⟨M, hM, hp⟩ := new_ok l0
  obtain ⟨rules, q1, h1, hq1, _, hr⟩ := rules_ok hp 0 (by omega)
  obtain ⟨hrl, hro⟩ := hr (by omega)
  obtain ⟨l, q2, h2, hq2, hl⟩ := evidence_ok hq1
  obtain ⟨l2, q3, h3, hq3, hl2⟩ := evidence_ok hq2
  obtain ⟨t, ht, _⟩ := cut_ok a1 30 (by omega)
  obtain ⟨b, hb, hb1, _⟩ := cut_ok a2 600 (by omega)
  have hb1 := hb1 (by omega)
  have hz := grows_ok (by omega) hro
  have happ : ∀ r, app l 1 t r = true → app (l ++ l2) 1 t r = true := by
    intro r h
    unfold app at *
    rw [List.any_append, h, Bool.true_or]
  obtain ⟨e1, e2, e3, e4, e5, e6⟩ := acc_grows (app l 1 t) (app (l ++ l2) 1 t) rules hro (fun r _ => happ r) 0 0 0 0 (by omega) zero_nd zero_nd (sub_refl zero_nd) (by omega) (by omega)
  obtain ⟨m, m', i1, i2, i3, i4, i5⟩ := imply_grows e1 e2 e3 e4 e5 e6
  have g1 : grantS rules l 1 t = ((gsum l 1 t rules).1, m, 0) := by
    unfold grantS; rw [if_pos hz, show implyS (gsum l 1 t rules).1 (gsum l 1 t rules).2 = ((gsum l 1 t rules).1, m) from i1]
  have g2 : grantS rules (l ++ l2) 1 t = ((gsum (l ++ l2) 1 t rules).1, m', 0) := by
    unfold grantS; rw [if_pos hz, show implyS (gsum (l ++ l2) 1 t rules).1 (gsum (l ++ l2) 1 t rules).2 = ((gsum (l ++ l2) 1 t rules).1, m') from i2]
  have e1 : (gsum l 1 t rules).1 ≤ (gsum (l ++ l2) 1 t rules).1 := e1
  have e5 : 0 ≤ (gsum l 1 t rules).1 := e5
  have e6 : (gsum (l ++ l2) 1 t rules).1 ≤ 100 := e6
  generalize (gsum l 1 t rules).1 = E at *
  generalize (gsum (l ++ l2) 1 t rules).1 = E' at *
  obtain ⟨x, rfl, hx⟩ := i3.nat
  obtain ⟨y, rfl, hy⟩ := i4.nat
  have hs : x ||| y = y := by unfold Sub at i5; rw [or_nat x y hx hy] at i5; exact Int.ofNat.inj i5
  refine Ev.rounds (g := fun k => awardingbodylaw14_AccessGrows.f k l0 a1 a2) ?_
  unfold awardingbodylaw14_AccessGrows.f
  refine ev_bind_now hM (ev_bind h1 (ev_bind h2 (ev_pos (by omega) (ev_pos (by omega) (ev_bind_now rfl ?_)))))
  rw [List.take_of_length_le (by show l.length ≤ ((l.length : Int)).toNat; omega)]
  refine ev_bind h3 (ev_pos (by show l.length + l2.length < _; omega) (ev_bind_now rfl (ev_bind_now ht (ev_bind_now hb ?_))))
  rw [wrap_id (x := 1 + b) (by omega) (by omega)]
  refine ev_bind (ev_eq (grant_ev rules l 1 t (by omega) (by omega)) g1) (ev_bind (ev_eq (grant_ev rules (l ++ l2) 1 t (by omega) (by simp; omega)) g2) ?_)
  refine ev_bind (minutes_ev (1 + b) E x (by omega) (by omega) e5 (by omega) i3) (ev_bind (minutes_ev (1 + b) E' y (by omega) (by omega) (by omega) e6 i4) ?_)
  refine ev_bind (reasons_ev rules l 1 t (by omega) (by omega)) (ev_bind (reasons_ev rules (l ++ l2) 1 t (by omega) (by simp; omega)) ?_)
  rw [if_pos hz, if_pos hz]
  have z1 := resFrom_length l 1 t rules 0
  have z2 := resFrom_length (l ++ l2) 1 t rules 0
  have h0 : 0 ≤ (1 + b) * E := Int.mul_nonneg (by omega) e5
  have z3 : (resFrom l 1 t 0 rules).length ≤ 1000 := by omega
  have z4 : (resFrom (l ++ l2) 1 t 0 rules).length ≤ 1000 := by omega
  refine grows_loop _ _ _ _ _ _ _ _ _ (fun j hj => resFrom_mem l (l ++ l2) 1 t happ rules 0 j hj) z3 z4 e1 (not_of_sub ⟨x, hx⟩ ⟨y, hy⟩ hs) (minutes_grow (by omega) e1 i3 i4 i5) ?_ _ 0 (Nat.zero_add _)
  generalize (1 + b) * E = z at h0 ⊢
  split <;> omega

end Go.Proofs.Ytbgeoadaeihgkaa.Pure
