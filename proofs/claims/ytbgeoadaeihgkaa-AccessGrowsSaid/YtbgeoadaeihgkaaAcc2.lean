/- Access: what Join, Imply, Reasons and Grant come to, program and reference alike. Conditions: lists of fewer than 1000000000000 elements. -/
import Derived.Test.YtbgeoadaeihgkaaAcc
namespace Go.Proofs.Ytbgeoadaeihgkaa.Pure
open Go.RowKit Go.Proofs.Ytbgeoadaeihgkaa.Print Go.Proofs.YtbgeoadaeihgkaaW.PrintWords Go.Proofs.YtbgeoadaeihgkaaW.PrintLast Go.Proofs.YtbgeoadaeihgkaaW.PrintMore

abbrev orI (a b : Int) : Int := Go.bits .or .i64 a b
theorem wrap62 (n : Int) (h0 : 0 ≤ n) (h1 : n < 2 ^ 62) : IntKind.i64.wrap n = n := by rw [IntKind.wrap_i64]; omega
theorem or_nat (a b : Nat) (ha : a < 64) (hb : b < 64) : orI a b = ((a ||| b : Nat) : Int) :=
  (bits_nat .i64 62 (by decide) wrap62 a b (by omega) (by omega)).2
theorem and_nat (a b : Nat) (ha : a < 64) (hb : b < 64) : Go.bits .and .i64 a b = ((a &&& b : Nat) : Int) :=
  (bits_nat .i64 62 (by decide) wrap62 a b (by omega) (by omega)).1
/-- Needs: a number from 0 to 63. -/
def Nd (n : Int) : Prop := 0 ≤ n ∧ n ≤ 63
theorem Nd.nat {n : Int} (h : Nd n) : ∃ m : Nat, n = m ∧ m < 64 := ⟨n.toNat, by have := h.1; omega, by have := h.2; omega⟩
theorem or_nd {a b : Int} (ha : Nd a) (hb : Nd b) : Nd (orI a b) := by
  obtain ⟨m, rfl, hm⟩ := ha.nat
  obtain ⟨n, rfl, hn⟩ := hb.nat
  rw [or_nat m n hm hn]
  have : m ||| n < 2 ^ 6 := Nat.or_lt_two_pow (by omega) (by omega)
  exact ⟨by omega, by omega⟩
theorem or_comm {a b : Int} (ha : Nd a) (hb : Nd b) : orI a b = orI b a := by
  obtain ⟨m, rfl, hm⟩ := ha.nat
  obtain ⟨n, rfl, hn⟩ := hb.nat
  rw [or_nat m n hm hn, or_nat n m hn hm, Nat.or_comm]
theorem or_assoc {a b c : Int} (ha : Nd a) (hb : Nd b) (hc : Nd c) : orI (orI a b) c = orI a (orI b c) := by
  obtain ⟨m, rfl, hm⟩ := ha.nat
  obtain ⟨n, rfl, hn⟩ := hb.nat
  obtain ⟨q, rfl, hq⟩ := hc.nat
  have h1 : m ||| n < 2 ^ 6 := Nat.or_lt_two_pow (by omega) (by omega)
  have h2 : n ||| q < 2 ^ 6 := Nat.or_lt_two_pow (by omega) (by omega)
  rw [or_nat m n hm hn, or_nat n q hn hq, or_nat _ _ (by omega) hq, or_nat _ _ hm (by omega), Nat.or_assoc]
theorem or_self {a : Int} (ha : Nd a) : orI a a = a := by
  obtain ⟨m, rfl, hm⟩ := ha.nat
  rw [or_nat m m hm hm, Nat.or_self]
theorem zero_or {a : Int} (ha : Nd a) : orI 0 a = a := by
  obtain ⟨m, rfl, hm⟩ := ha.nat
  have := or_nat 0 m (by omega) hm
  rw [Nat.zero_or] at this
  exact this
theorem one_nd : Nd 1 := ⟨by omega, by omega⟩
theorem zero_nd : Nd 0 := ⟨by omega, by omega⟩

theorem mx_eq (a b : Int) : mx a b = max a b := by unfold mx; omega

/-- What accesses grant together, beside what was granted before. -/
def accS (l : List Acc) (e n : Int) : Int × Int := l.foldl (fun a x => (mx a.1 x.f0, orI a.2 x.f1)) (e, n)

theorem joined_loop (l : List Acc) (hl : l.length ≤ 1000000000000) (d : Nat) : ∀ (i : Nat) (e n : Int), i + d = l.length →
    Ev (fun k => access_joined.l0 k l (l.length : Int) (i : Int) e n) (accS (l.drop i) e n) := by
  induction d with
  | zero =>
    intro i e n hi
    refine ev_step ?_ (fun k => by rw [access_joined.l0])
    refine ev_neg (by omega) ?_
    rw [List.drop_of_length_le (by omega)]
    exact ev_some rfl
  | succ d ih =>
    intro i e n hi
    refine ev_step ?_ (fun k => by rw [access_joined.l0])
    refine ev_pos (by omega) (ev_pos (by omega) (ev_pos (by omega) ?_))
    rw [next_index i l.length (by omega) hl, drop_cons_at l z38 i (by omega)]
    have hx : rd_T38 l (i : Int) = l.getD i z38 := by unfold rd_T38; rw [Int.toNat_natCast]
    rw [hx]
    exact ih (i + 1) _ _ (by omega)
theorem joined_ev (l : List Acc) (hl : l.length ≤ 1000000000000) : Ev (fun k => access_joined.f k l) (accS l 0 0) := joined_loop l hl l.length 0 0 0 (by omega)

theorem validB_iff {e n : Int} : validB e n = true ↔ 0 ≤ e ∧ e ≤ 100 ∧ Nd n := by
  unfold validB Nd
  rw [decide_eq_true_eq]

/-- Join. -/
def joinS (a b c d : Int) : Int × Int := if validB a b then if validB c d then (mx a c, orI b d) else (0, 0) else (0, 0)
theorem join_ev (a b c d : Int) : Ev (fun k => access_Join.f k a b c d) (joinS a b c d) := by
  unfold access_Join.f joinS
  rw [valid_eq, valid_eq]
  simp only [Option.bind_some]
  by_cases h1 : validB a b = true
  · rw [if_pos h1]
    refine ev_pos h1 ?_
    by_cases h2 : validB c d = true
    · rw [if_pos h2]
      refine ev_pos h2 (ev_bind (joined_ev _ (by simp)) ?_)
      refine ev_some ?_
      obtain ⟨_, _, h3⟩ := validB_iff.1 h1
      simp only [accS, List.foldl_cons, List.foldl_nil]
      rw [zero_or h3]
      have : mx 0 a = a := by have := (validB_iff.1 h1).1; unfold mx; omega
      rw [this]
    · rw [if_neg h2]
      exact ev_neg h2 (ev_some rfl)
  · rw [if_neg h1]
    exact ev_neg h1 (ev_some rfl)
theorem rjoin_eq (a b c d : Int) : awardingbodyref14_Join.f a b c d = some (joinS a b c d) := by
  unfold awardingbodyref14_Join.f joinS
  rw [rvalid_eq, rvalid_eq]
  simp only [Option.bind_some]
  repeat' split
  all_goals rfl
theorem joinS_valid {a b c d : Int} (h1 : validB a b = true) (h2 : validB c d = true) : joinS a b c d = (mx a c, orI b d) := by
  unfold joinS; rw [if_pos h1, if_pos h2]
theorem join_valid {a b c d : Int} (h1 : validB a b = true) (h2 : validB c d = true) : validB (mx a c) (orI b d) = true := by
  obtain ⟨p1, p2, p3⟩ := validB_iff.1 h1
  obtain ⟨q1, q2, q3⟩ := validB_iff.1 h2
  exact validB_iff.2 ⟨by rw [mx_eq]; omega, by rw [mx_eq]; omega, or_nd p3 q3⟩

/-- Imply. -/
def implyS (e n : Int) : Int × Int := if validB e n then (if Go.bits .and .i64 n 24 = 0 then (if e > 25 then (e, orI n 1) else (e, n)) else (e, orI n 1)) else (0, 0)
theorem imply_eq (e n : Int) : access_Imply.f e n = some (implyS e n) := by
  unfold access_Imply.f implyS
  rw [valid_eq]
  simp only [Option.bind_some]
  repeat' split
  all_goals rfl
theorem and_parts : ∀ m : Fin 64, (Go.bits .and .i64 ((m.val : Nat) : Int) 24 = 0 ↔ Go.bits .and .i64 ((m.val : Nat) : Int) 8 = 0 ∧ Go.bits .and .i64 ((m.val : Nat) : Int) 16 = 0) := by decide +kernel
theorem and24 {n : Int} (h : Nd n) : Go.bits .and .i64 n 24 = 0 ↔ Go.bits .and .i64 n 8 = 0 ∧ Go.bits .and .i64 n 16 = 0 := by
  obtain ⟨m, rfl, hm⟩ := h.nat
  exact and_parts ⟨m, hm⟩
theorem rimply_eq (e n : Int) : awardingbodyref14_Imply.f e n = some (implyS e n) := by
  unfold awardingbodyref14_Imply.f implyS
  rw [rvalid_eq]
  simp only [Option.bind_some]
  by_cases h : validB e n = true
  · rw [if_pos h, if_pos h]
    have h2 := and24 (validB_iff.1 h).2.2
    by_cases h3 : Go.bits .and .i64 n 24 = 0
    · rw [if_pos h3, if_pos (h2.1 h3).1, if_pos (h2.1 h3).2]
      split <;> rfl
    · rw [if_neg h3]
      by_cases h4 : Go.bits .and .i64 n 8 = 0
      · rw [if_pos h4, if_neg (fun h5 => h3 (h2.2 ⟨h4, h5⟩))]
      · rw [if_neg h4]
  · rw [if_neg h, if_neg h]

/-- The rules that apply. -/
def app (l : List Evid) (c t : Int) (r : Rule) : Bool := l.any (fits r.f0 r.f1 c t)
def resFrom (l : List Evid) (c t : Int) : Nat → List Rule → List Int
  | _, [] => []
  | i, r :: rs => if app l c t r then (i : Int) :: resFrom l c t (i + 1) rs else resFrom l c t (i + 1) rs

theorem reasons_loop (rules : List Rule) (l : List Evid) (c t : Int) (hr : rules.length ≤ 1000000000000) (hl : l.length ≤ 1000000000000) (d : Nat) : ∀ (i : Nat) (acc : List Int), i + d = rules.length → acc.length ≤ i →
    Ev (fun k => access_Reasons.l0 k l c t acc rules (rules.length : Int) (i : Int)) (acc ++ resFrom l c t i (rules.drop i)) := by
  induction d with
  | zero =>
    intro i acc hi ha
    refine ev_step ?_ (fun k => by rw [access_Reasons.l0])
    refine ev_neg (by omega) ?_
    rw [List.drop_of_length_le (by omega)]
    exact ev_some (by simp [resFrom])
  | succ d ih =>
    intro i acc hi ha
    refine ev_step ?_ (fun k => by rw [access_Reasons.l0])
    refine ev_pos (by omega) (ev_pos (by omega) (ev_pos (by omega) ?_))
    rw [next_index i rules.length (by omega) hr, drop_cons_at rules z28 i (by omega)]
    have hx : rd_T28 rules (i : Int) = rules.getD i z28 := by unfold rd_T28; rw [Int.toNat_natCast]
    rw [hx]
    generalize rules.getD i z28 = x
    refine ev_bind (applies_ev x.f0 x.f1 x.f2 x.f3 c t l hl) ?_
    by_cases h : app l c t x = true
    · refine ev_pos h (ev_pos (by omega) ?_)
      refine ev_eq (ih (i + 1) (acc ++ [(i : Int)]) (by omega) (by simp; omega)) ?_
      simp [resFrom, h]
    · refine ev_neg h ?_
      refine ev_eq (ih (i + 1) acc (by omega) (by omega)) ?_
      simp [resFrom, h]

theorem reasons_ev (rules : List Rule) (l : List Evid) (c t : Int) (hr : rules.length ≤ 1000000000000) (hl : l.length ≤ 1000000000000) :
    Ev (fun k => access_Reasons.f k rules l c t) (if checkS rules = 0 then resFrom l c t 0 rules else []) := by
  unfold access_Reasons.f
  refine ev_bind (check_ev rules hr) ?_
  by_cases h : checkS rules = 0
  · rw [if_pos h]
    exact ev_pos h (ev_eq (reasons_loop rules l c t hr hl rules.length 0 [] (by omega) (by simp)) (by simp))
  · rw [if_neg h]
    exact ev_neg h (ev_some rfl)

theorem ruleOk_all {rules : List Rule} (h : checkS rules = 0) : rules.length ≤ 12 ∧ ∀ r ∈ rules, ruleOk r = true := by
  unfold checkS at h
  by_cases h1 : rules.length > 12
  · rw [if_pos h1] at h; omega
  · rw [if_neg h1] at h
    refine ⟨by omega, fun r hr => ?_⟩
    by_cases h2 : rules.all ruleOk = true
    · exact List.all_eq_true.1 h2 r hr
    · have : rules.all ruleOk = false := by simpa using h2
      rw [this] at h
      simp [okNum] at h
theorem getD_mem {α : Type} (l : List α) (d : α) (i : Nat) (h : i < l.length) : l.getD i d ∈ l := by
  rw [List.getD_eq_getElem?_getD, List.getElem?_eq_getElem h]
  exact List.getElem_mem _
theorem ruleOk_parts {r : Rule} (h : ruleOk r = true) : (1 ≤ r.f0 ∧ r.f0 ≤ 9 ∧ 1 ≤ r.f1 ∧ r.f1 ≤ 9) ∧ validB r.f2 r.f3 = true := by
  simp only [ruleOk, Bool.and_eq_true, decide_eq_true_eq] at h
  exact h

theorem rreasons_loop (rules : List Rule) (l : List Evid) (c t : Int) (ho : ∀ r ∈ rules, ruleOk r = true) (hr : rules.length ≤ 1000000000000) (hl : l.length ≤ 1000000000000) (d : Nat) : ∀ (i : Nat) (acc : List Int), i + d = rules.length → acc.length ≤ i →
    Ev (fun k => awardingbodyref14_Reasons.l0 k rules l c t acc (i : Int)) (acc ++ resFrom l c t i (rules.drop i)) := by
  induction d with
  | zero =>
    intro i acc hi ha
    refine ev_step ?_ (fun k => by rw [awardingbodyref14_Reasons.l0])
    refine ev_neg (by omega) ?_
    rw [List.drop_of_length_le (by omega)]
    exact ev_some (by simp [resFrom])
  | succ d ih =>
    intro i acc hi ha
    refine ev_step ?_ (fun k => by rw [awardingbodyref14_Reasons.l0])
    refine ev_pos (by omega) (ev_pos (by omega) ?_)
    rw [next_index i rules.length (by omega) hr, drop_cons_at rules z28 i (by omega)]
    have hx : rd_T28 rules (i : Int) = rules.getD i z28 := by unfold rd_T28; rw [Int.toNat_natCast]
    rw [hx]
    have hp := (ruleOk_parts (ho _ (getD_mem rules z28 i (by omega)))).1
    generalize rules.getD i z28 = x at hp
    refine ev_bind (rapplies_ev x.f0 x.f1 x.f2 x.f3 c t (by omega) (by omega) l hl) ?_
    by_cases h : app l c t x = true
    · refine ev_pos h (ev_pos (by omega) ?_)
      refine ev_eq (ih (i + 1) (acc ++ [(i : Int)]) (by omega) (by simp; omega)) ?_
      simp [resFrom, h]
    · refine ev_neg h ?_
      refine ev_eq (ih (i + 1) acc (by omega) (by omega)) ?_
      simp [resFrom, h]
theorem rreasons_ev (rules : List Rule) (l : List Evid) (c t : Int) (hr : rules.length ≤ 1000000000000) (hl : l.length ≤ 1000000000000) :
    Ev (fun k => awardingbodyref14_Reasons.f k rules l c t) (if checkS rules = 0 then resFrom l c t 0 rules else []) := by
  unfold awardingbodyref14_Reasons.f
  refine ev_bind (rcheck_ev rules hr) ?_
  by_cases h : checkS rules = 0
  · rw [if_pos h]
    exact ev_pos h (ev_eq (rreasons_loop rules l c t (ruleOk_all h).2 hr hl rules.length 0 [] (by omega) (by simp)) (by simp))
  · rw [if_neg h]
    exact ev_neg h (ev_some rfl)

/-- What the rules that apply grant. -/
def grantedS (l : List Evid) (c t : Int) (rules : List Rule) : List Acc := (rules.filter (app l c t)).map fun r => ⟨r.f2, r.f3⟩
def gsum (l : List Evid) (c t : Int) (rules : List Rule) : Int × Int := accS (grantedS l c t rules) 0 0
def grantS (rules : List Rule) (l : List Evid) (c t : Int) : Int × Int × Int :=
  if checkS rules = 0 then ((implyS (gsum l c t rules).1 (gsum l c t rules).2).1, (implyS (gsum l c t rules).1 (gsum l c t rules).2).2, 0) else (0, 0, checkS rules)

theorem resFrom_map (rules : List Rule) (l : List Evid) (c t : Int) (d : Nat) : ∀ i : Nat, i + d = rules.length →
    (resFrom l c t i (rules.drop i)).map (fun j => (⟨(rd_T28 rules j).f2, (rd_T28 rules j).f3⟩ : Acc)) = grantedS l c t (rules.drop i) ∧
      ∀ j ∈ resFrom l c t i (rules.drop i), 0 ≤ j ∧ j < (rules.length : Int) := by
  induction d with
  | zero =>
    intro i hi
    rw [List.drop_of_length_le (by omega)]
    exact ⟨rfl, fun j hj => by simp [resFrom] at hj⟩
  | succ d ih =>
    intro i hi
    obtain ⟨h1, h2⟩ := ih (i + 1) (by omega)
    rw [drop_cons_at rules z28 i (by omega)]
    have hx : rd_T28 rules (i : Int) = rules.getD i z28 := by unfold rd_T28; rw [Int.toNat_natCast]
    by_cases h : app l c t (rules.getD i z28) = true
    · have e : resFrom l c t i (rules.getD i z28 :: rules.drop (i + 1)) = (i : Int) :: resFrom l c t (i + 1) (rules.drop (i + 1)) := by simp only [resFrom]; rw [if_pos h]
      rw [e]
      constructor
      · rw [List.map_cons, h1, hx]
        unfold grantedS
        rw [List.filter_cons_of_pos h, List.map_cons]
      · intro j hj
        rcases List.mem_cons.1 hj with rfl | hj
        · omega
        · exact h2 j hj
    · have e : resFrom l c t i (rules.getD i z28 :: rules.drop (i + 1)) = resFrom l c t (i + 1) (rules.drop (i + 1)) := by simp only [resFrom]; rw [if_neg h]
      rw [e]
      constructor
      · rw [h1]
        unfold grantedS
        rw [List.filter_cons_of_neg h]
      · exact h2

theorem grant_loop (rules : List Rule) (ix : List Int) (hi : ix.length ≤ 1000000000000) (hb : ∀ j ∈ ix, 0 ≤ j ∧ j < (rules.length : Int)) (d : Nat) : ∀ (i : Nat) (acc : List Acc), i + d = ix.length → acc.length ≤ i →
    Ev (fun k => access_Grant.l0 k rules acc ix (ix.length : Int) (i : Int))
      (let s := accS (acc ++ (ix.drop i).map fun j => (⟨(rd_T28 rules j).f2, (rd_T28 rules j).f3⟩ : Acc)) 0 0; ((implyS s.1 s.2).1, (implyS s.1 s.2).2, 0)) := by
  induction d with
  | zero =>
    intro i acc hd ha
    refine ev_step ?_ (fun k => by rw [access_Grant.l0])
    refine ev_neg (by omega) ?_
    rw [List.drop_of_length_le (by omega), List.map_nil, List.append_nil]
    refine ev_bind (joined_ev acc (by omega)) ?_
    rw [imply_eq]
    exact ev_some rfl
  | succ d ih =>
    intro i acc hd ha
    refine ev_step ?_ (fun k => by rw [access_Grant.l0])
    have hx : rd ix (i : Int) = ix.getD i 0 := by unfold rd; rw [Int.toNat_natCast]
    have hm := hb _ (getD_mem ix 0 i (by omega))
    rw [hx]
    refine ev_pos (by omega) (ev_pos (by omega) (ev_pos (by omega) (ev_pos hm.1 (ev_pos hm.2 (ev_pos (by omega) ?_)))))
    rw [next_index i ix.length (by omega) hi, drop_cons_at ix 0 i (by omega)]
    refine ev_eq (ih (i + 1) _ (by omega) (by simp; omega)) ?_
    simp

theorem resFrom_length (l : List Evid) (c t : Int) (rules : List Rule) : ∀ i, (resFrom l c t i rules).length ≤ rules.length := by
  induction rules with
  | nil => intro i; simp [resFrom]
  | cons r rs ih =>
    intro i
    have := ih (i + 1)
    simp only [resFrom]
    split
    · simp; omega
    · simp; omega

theorem grant_ev (rules : List Rule) (l : List Evid) (c t : Int) (hr : rules.length ≤ 1000000000000) (hl : l.length ≤ 1000000000000) :
    Ev (fun k => access_Grant.f k rules l c t) (grantS rules l c t) := by
  unfold access_Grant.f grantS
  refine ev_bind (check_ev rules hr) ?_
  by_cases h : checkS rules = 0
  · rw [if_pos h]
    refine ev_pos h (ev_bind (reasons_ev rules l c t hr hl) ?_)
    rw [if_pos h]
    obtain ⟨h1, h2⟩ := resFrom_map rules l c t rules.length 0 (by omega)
    rw [List.drop_zero] at h1 h2
    refine ev_eq (grant_loop rules (resFrom l c t 0 rules) (by have := resFrom_length l c t rules 0; omega) h2 (resFrom l c t 0 rules).length 0 [] (by omega) (by simp)) ?_
    simp only [List.drop_zero, List.nil_append, h1]
    rfl
  · rw [if_neg h]
    exact ev_neg h (ev_some rfl)

theorem rgrant_loop (rules : List Rule) (l : List Evid) (c t : Int) (ho : ∀ r ∈ rules, ruleOk r = true) (hr : rules.length ≤ 1000000000000) (hl : l.length ≤ 1000000000000) (d : Nat) : ∀ (i : Nat) (e n : Int), i + d = rules.length → validB e n = true →
    Ev (fun k => awardingbodyref14_Grant.l0 k rules l c t (i : Int) e n)
      (let s := accS (grantedS l c t (rules.drop i)) e n; ((implyS s.1 s.2).1, (implyS s.1 s.2).2, 0)) := by
  induction d with
  | zero =>
    intro i e n hi hv
    refine ev_step ?_ (fun k => by rw [awardingbodyref14_Grant.l0])
    refine ev_neg (by omega) ?_
    rw [List.drop_of_length_le (by omega), rimply_eq]
    exact ev_some rfl
  | succ d ih =>
    intro i e n hi hv
    refine ev_step ?_ (fun k => by rw [awardingbodyref14_Grant.l0])
    refine ev_pos (by omega) (ev_pos (by omega) ?_)
    rw [next_index i rules.length (by omega) hr, drop_cons_at rules z28 i (by omega)]
    have hx : rd_T28 rules (i : Int) = rules.getD i z28 := by unfold rd_T28; rw [Int.toNat_natCast]
    rw [hx]
    have hp := ruleOk_parts (ho _ (getD_mem rules z28 i (by omega)))
    generalize rules.getD i z28 = x at hp
    refine ev_bind (rapplies_ev x.f0 x.f1 x.f2 x.f3 c t (by omega) (by omega) l hl) ?_
    by_cases h : app l c t x = true
    · refine ev_pos h ?_
      rw [rjoin_eq, joinS_valid hv hp.2]
      refine ev_eq (ih (i + 1) _ _ (by omega) (join_valid hv hp.2)) ?_
      unfold grantedS
      rw [List.filter_cons_of_pos h, List.map_cons]
      rfl
    · refine ev_neg h ?_
      refine ev_eq (ih (i + 1) _ _ (by omega) hv) ?_
      unfold grantedS
      rw [List.filter_cons_of_neg h]

theorem rgrant_ev (rules : List Rule) (l : List Evid) (c t : Int) (hr : rules.length ≤ 1000000000000) (hl : l.length ≤ 1000000000000) :
    Ev (fun k => awardingbodyref14_Grant.f k rules l c t) (grantS rules l c t) := by
  unfold awardingbodyref14_Grant.f grantS
  refine ev_bind (rcheck_ev rules hr) ?_
  by_cases h : checkS rules = 0
  · rw [if_pos h]
    exact ev_pos h (rgrant_loop rules l c t (ruleOk_all h).2 hr hl rules.length 0 0 0 (by omega) (by decide))
  · rw [if_neg h]
    exact ev_neg h (ev_some rfl)

end Go.Proofs.Ytbgeoadaeihgkaa.Pure
