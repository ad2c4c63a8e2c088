/- AccessAnyOrder: for every tape and time the law answers true. No further conditions. -/
import Derived.Test.YtbgeoadaeihgkaaPrint13
import Derived.Test.YtbgeoadaeihgkaaPrint12
import Derived.Test.YtbgeoadaeihgkaaAccGen
import Derived.Test.YtbgeoadaeihgkaaOrder
namespace Go.Proofs.Ytbgeoadaeihgkaa.Pure
open Go.RowKit Go.Proofs.Ytbgeoadaeihgkaa.Print Go.Proofs.YtbgeoadaeihgkaaW.PrintWords Go.Proofs.YtbgeoadaeihgkaaW.PrintLast

/-- Mixed: numbers below n, each at least once. -/
def Mix (n : Nat) (l : List Int) : Prop := ∀ x, x ∈ l ↔ 0 ≤ x ∧ x < (n : Int)

theorem mixed_loop (L : List Int) (n : Nat) (hn : n ≤ 1000) (d : Nat) : ∀ (acc : List Int) (p : Int), acc.length + d ≤ 100000 → Mix n acc → TP L p →
    ∃ out q, Ev (fun k => awardingbodymake_Tape_Mixed.l0 k (n : Int) acc (d : Int) L p) (out, q) ∧ TP L q ∧ out.length ≤ acc.length + d ∧ Mix n out := by
  induction d with
  | zero =>
    intro acc p hl hm hp
    refine ⟨acc, p, ?_, hp, by omega, hm⟩
    refine ev_step ?_ (fun k => by rw [awardingbodymake_Tape_Mixed.l0])
    refine ev_neg (by omega) ?_
    refine ev_step ?_ (fun k => by rw [awardingbodymake_Tape_Mixed.j1])
    exact ev_neg (by decide) (ev_some rfl)
  | succ d ih =>
    intro acc p hl hm hp
    by_cases h0 : (n : Int) > 0
    · obtain ⟨v, q, hv, hq, h1, _⟩ := next_ok hp ((acc.length : Int) + 1) (by omega)
      have h1 := h1 (by omega)
      obtain ⟨u, q2, hu, hq2, h2, _⟩ := next_ok hq (n : Int) (by omega)
      have h2 := h2 (by omega)
      obtain ⟨out, q3, he, hq3, hlen, hmix⟩ := ih ((([] ++ acc.take v.toNat) ++ [u]) ++ acc.drop v.toNat) q2 (by simp; omega) (fun x => by
        rw [List.nil_append, List.mem_append, List.mem_append, List.mem_singleton, ← hm x]
        have := List.take_append_drop v.toNat acc
        constructor
        · rintro ((h | h) | h)
          · exact List.mem_of_mem_take h
          · subst h; exact (hm x).2 h2
          · exact List.mem_of_mem_drop h
        · intro h
          rw [← this, List.mem_append] at h
          rcases h with h | h
          · exact .inl (.inl h)
          · exact .inr h) hq2
      refine ⟨out, q3, ?_, hq3, by simp at hlen; omega, hmix⟩
      refine ev_step ?_ (fun k => by rw [awardingbodymake_Tape_Mixed.l0])
      refine ev_pos (by omega) ?_
      refine ev_step ?_ (fun k => by rw [awardingbodymake_Tape_Mixed.j1])
      rw [wrap_id (x := (acc.length : Int) + 1) (by omega) (by omega)]
      refine ev_pos (decide_eq_true h0) (ev_bind_now hv (ev_bind_now hu (ev_pos h1.1 (ev_pos (by show v ≤ _; omega) ?_))))
      simp only [Option.bind_some]
      refine ev_pos (by simp; omega) ?_
      refine ev_pos (by simp; omega) ?_
      refine ev_pos (by simp; omega) ?_
      rw [wrap_id (x := ((d + 1 : Nat) : Int) - 1) (by omega) (by omega), show ((d + 1 : Nat) : Int) - 1 = (d : Int) by omega]
      exact he
    · refine ⟨acc, p, ?_, hp, by omega, hm⟩
      refine ev_step ?_ (fun k => by rw [awardingbodymake_Tape_Mixed.l0])
      refine ev_pos (by omega) ?_
      refine ev_step ?_ (fun k => by rw [awardingbodymake_Tape_Mixed.j1])
      exact ev_neg (by rw [decide_eq_true_eq]; omega) (ev_some rfl)
theorem mixed_ok {L : List Int} {p : Int} (h : TP L p) (n : Nat) (hn : n ≤ 1000) : ∃ out q, Ev (fun k => awardingbodymake_Tape_Mixed.f k L p (n : Int)) (out, q) ∧ TP L q ∧ out.length ≤ n + 3 ∧ Mix n out := by
  obtain ⟨o, q, ho, hq, hperm⟩ := order_ok h n (by omega)
  obtain ⟨v, q2, hv, hq2, h1, _⟩ := next_ok hq 4 (by omega)
  have h1 := h1 (by omega)
  obtain ⟨d, rfl⟩ : ∃ d : Nat, v = d := ⟨v.toNat, by omega⟩
  have hlen : o.length = n := by rw [hperm.length_eq, upto_length]
  obtain ⟨out, q3, he, hq3, hl, hm⟩ := mixed_loop L n hn d o q2 (by omega) (fun x => by rw [hperm.mem_iff]; exact mem_upto) hq2
  refine ⟨out, q3, ?_, hq3, by omega, hm⟩
  unfold awardingbodymake_Tape_Mixed.f
  exact ev_bind ho (ev_bind_now hv he)

/-! What is granted depends neither on the order of the rules nor on that of the evidence. -/
theorem app_same {l m : List Evid} (h : ∀ x, x ∈ l ↔ x ∈ m) (c t : Int) (r : Rule) : app l c t r = app m c t r := by
  unfold app
  rw [Bool.eq_iff_iff, List.any_eq_true, List.any_eq_true]
  constructor
  · rintro ⟨x, hx, hp⟩; exact ⟨x, (h x).1 hx, hp⟩
  · rintro ⟨x, hx, hp⟩; exact ⟨x, (h x).2 hx, hp⟩

theorem accS_perm {l m : List Acc} (h : l.Perm m) : ∀ (e n : Int), Nd n → (∀ x ∈ l, Nd x.f1) → accS l e n = accS m e n := by
  induction h with
  | nil => intro e n _ _; rfl
  | cons x h ih =>
    intro e n hn hv
    exact ih _ _ (or_nd hn (hv x (List.mem_cons_self ..))) (fun y hy => hv y (List.mem_cons_of_mem _ hy))
  | swap x y l =>
    intro e n hn hv
    have hx := hv x (List.mem_cons_of_mem _ (List.mem_cons_self ..))
    have hy := hv y (List.mem_cons_self ..)
    show accS l (mx (mx e y.f0) x.f0) (orI (orI n y.f1) x.f1) = accS l (mx (mx e x.f0) y.f0) (orI (orI n x.f1) y.f1)
    rw [or_assoc hn hy hx, or_assoc hn hx hy, or_comm hy hx]
    congr 1
    simp only [mx_eq]; omega
  | trans h1 _ ih1 ih2 =>
    intro e n hn hv
    rw [ih1 e n hn hv]
    exact ih2 e n hn (fun x hx => hv x (h1.mem_iff.2 hx))

theorem checkS_ok {rules : List Rule} (h1 : rules.length ≤ 12) (h2 : ∀ r ∈ rules, ruleOk r = true) : checkS rules = 0 := by
  unfold checkS
  rw [if_neg (by omega), List.all_eq_true.2 h2]
  rfl

theorem grantS_any {r1 r2 : List Rule} {l m : List Evid} (h1 : r1.length ≤ 12) (ho : ∀ r ∈ r1, ruleOk r = true) (hp : r1.Perm r2) (hl : ∀ x, x ∈ l ↔ x ∈ m) (c t : Int) : grantS r1 l c t = grantS r2 m c t := by
  have e1 := checkS_ok h1 ho
  have e2 := checkS_ok (rules := r2) (by rw [← hp.length_eq]; exact h1) (fun r hr => ho r (hp.mem_iff.2 hr))
  have e3 : gsum l c t r1 = gsum m c t r2 := by
    unfold gsum grantedS
    rw [show app l c t = app m c t from funext (app_same hl c t)]
    refine accS_perm ((hp.filter _).map _) 0 0 zero_nd (fun x hx => ?_)
    obtain ⟨r, hr, rfl⟩ := List.mem_map.1 hx
    exact (validB_iff.1 (ruleOk_parts (ho r (List.mem_filter.1 hr).1)).2).2.2
  unfold grantS
  rw [if_pos e1, if_pos e2, e3]

theorem rebuild28 (rules : List Rule) (v : Int) : (⟨(rd_T28 rules v).f0, (rd_T28 rules v).f1, (rd_T28 rules v).f2, (rd_T28 rules v).f3⟩ : Rule) = rd_T28 rules v := rfl

theorem any_l1 (t : Int) (rules : List Rule) (l : List Evid) (q : List Int) (m : List Rule) (h1 : rules.length ≤ 12) (ho : ∀ r ∈ rules, ruleOk r = true) (hp : rules.Perm m) (hl : l.length ≤ 1000) (hq : q.length ≤ 10000) (hm : Mix l.length q) (d : Nat) : ∀ i : Nat, i + d = q.length →
    Ev (fun k => awardingbodylaw14_AccessAnyOrder.l1 k t rules l q m ((q.take i).map fun v => rd_T49 l v) (i : Int)) true := by
  induction d with
  | zero =>
    intro i hi
    refine ev_step ?_ (fun k => by rw [awardingbodylaw14_AccessAnyOrder.l1])
    rw [List.take_of_length_le (by omega)]
    have hsame : ∀ x, x ∈ l ↔ x ∈ q.map fun v => rd_T49 l v := by
      intro x
      rw [List.mem_map]
      constructor
      · intro hx
        obtain ⟨j, hj, rfl⟩ := List.getElem_of_mem hx
        refine ⟨(j : Int), (hm _).2 ⟨by omega, by omega⟩, ?_⟩
        unfold rd_T49
        rw [Int.toNat_natCast, List.getD_eq_getElem?_getD, List.getElem?_eq_getElem hj]
        rfl
      · rintro ⟨v, hv, rfl⟩
        have := (hm v).1 hv
        unfold rd_T49
        exact getD_mem l _ v.toNat (by omega)
    have e := grantS_any h1 ho hp hsame 0 t
    have hz := checkS_ok h1 ho
    have hg : (grantS rules l 0 t).2.2 = 0 := by unfold grantS; rw [if_pos hz]
    refine ev_neg (by omega) (ev_bind (grant_ev rules l 0 t (by omega) (by omega)) (ev_bind (grant_ev m _ 0 t (by rw [← hp.length_eq]; omega) (by simp; omega)) ?_))
    rw [← e]
    exact ev_pos hg (ev_pos hg (ev_pos (by simp) (ev_bind awake_ev (ev_some rfl))))
  | succ d ih =>
    intro i hi
    refine ev_step ?_ (fun k => by rw [awardingbodylaw14_AccessAnyOrder.l1])
    have hx : rd q (i : Int) = q.getD i 0 := by unfold rd; rw [Int.toNat_natCast]
    have hb := (hm _).1 (getD_mem q 0 i (by omega))
    rw [hx, next_index i q.length (by omega) (by omega)]
    refine ev_pos (by omega) (ev_pos (by omega) (ev_pos (by omega) (ev_pos (by omega) (ev_pos (by simp; omega) ?_))))
    have e : ((q.take i).map fun v => rd_T49 l v) ++ [rd_T49 l (q.getD i 0)] = (q.take (i + 1)).map fun v => rd_T49 l v := by
      rw [List.take_succ_eq_append_getElem (by omega), List.map_append, List.getD_eq_getElem?_getD, List.getElem?_eq_getElem (by omega)]
      rfl
    show Ev (fun k => awardingbodylaw14_AccessAnyOrder.l1 k t rules l q m (((q.take i).map fun v => rd_T49 l v) ++ [rd_T49 l (q.getD i 0)]) ((i + 1 : Nat) : Int)) true
    rw [e]
    exact ih (i + 1) (by omega)

theorem any_l0 (t : Int) (rules : List Rule) (l : List Evid) (o q : List Int) (h1 : rules.length ≤ 12) (ho : ∀ r ∈ rules, ruleOk r = true) (hp : o.Perm (upto rules.length)) (hl : l.length ≤ 1000) (hq : q.length ≤ 10000) (hm : Mix l.length q) (d : Nat) : ∀ i : Nat, i + d = o.length →
    Ev (fun k => awardingbodylaw14_AccessAnyOrder.l0 k t rules l o q ((o.take i).map fun v => rd_T28 rules v) (i : Int)) true := by
  have hlo : o.length = rules.length := by rw [hp.length_eq, upto_length]
  induction d with
  | zero =>
    intro i hi
    refine ev_step ?_ (fun k => by rw [awardingbodylaw14_AccessAnyOrder.l0])
    rw [List.take_of_length_le (by omega)]
    have hperm : rules.Perm (o.map fun v => rd_T28 rules v) := by
      refine List.Perm.symm ((hp.map (fun v => rd_T28 rules v)).trans (List.Perm.of_eq ?_))
      refine List.ext_getElem (by simp [upto]) (fun j h1 h2 => ?_)
      simp only [upto, List.getElem_map, List.getElem_range]
      unfold rd_T28
      rw [Int.toNat_natCast, List.getD_eq_getElem?_getD, List.getElem?_eq_getElem h2]
      rfl
    exact ev_neg (by omega) (any_l1 t rules l q _ h1 ho hperm hl hq hm q.length 0 (by omega))
  | succ d ih =>
    intro i hi
    refine ev_step ?_ (fun k => by rw [awardingbodylaw14_AccessAnyOrder.l0])
    have hx : rd o (i : Int) = o.getD i 0 := by unfold rd; rw [Int.toNat_natCast]
    have hb := mem_upto.1 (hp.mem_iff.1 (getD_mem o 0 i (by omega)))
    rw [hx, next_index i o.length (by omega) (by omega)]
    refine ev_pos (by omega) (ev_pos (by omega) (ev_pos (by omega) (ev_pos (by omega) (ev_pos (by simp; omega) ?_))))
    have e : ((o.take i).map fun v => rd_T28 rules v) ++ [rd_T28 rules (o.getD i 0)] = (o.take (i + 1)).map fun v => rd_T28 rules v := by
      rw [List.take_succ_eq_append_getElem (by omega), List.map_append, List.getD_eq_getElem?_getD, List.getElem?_eq_getElem (by omega)]
      rfl
    show Ev (fun k => awardingbodylaw14_AccessAnyOrder.l0 k t rules l o q (((o.take i).map fun v => rd_T28 rules v) ++ [rd_T28 rules (o.getD i 0)]) ((i + 1 : Nat) : Int)) true
    rw [e]
    exact ih (i + 1) (by omega)

theorem AccessAnyOrder : awardingbodylaw14_AccessAnyOrder.Pure := by
  intro l0 a1 _ _ _ _
  obtain ⟨M, hM, hp⟩ := new_ok l0
  obtain ⟨rules, q1, h1, hq1, _, hr⟩ := rules_ok hp 0 (by omega)
  obtain ⟨hrl, hro⟩ := hr (by omega)
  obtain ⟨l, q2, h2, hq2, hl⟩ := evidence_ok hq1
  obtain ⟨o, q3, h3, hq3, hperm⟩ := order_ok hq2 rules.length (by omega)
  obtain ⟨q, q4, h4, hq4, hqlen, hmix⟩ := mixed_ok hq3 l.length (by omega)
  obtain ⟨t, ht, _⟩ := cut_ok a1 30 (by omega)
  refine Ev.rounds (g := fun k => awardingbodylaw14_AccessAnyOrder.f k l0 a1) ?_
  unfold awardingbodylaw14_AccessAnyOrder.f
  refine ev_bind_now hM (ev_bind h1 (ev_bind h2 (ev_bind h3 (ev_bind h4 (ev_bind_now ht ?_)))))
  exact any_l0 t rules l o q (by omega) hro hperm (by omega) (by omega) hmix o.length 0 (by omega)

end Go.Proofs.Ytbgeoadaeihgkaa.Pure
