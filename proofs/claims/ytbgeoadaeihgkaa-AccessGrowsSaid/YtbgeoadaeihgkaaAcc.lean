/- Access: what Check, Join, Imply, applies, Reasons and Grant come to, program and reference alike, as functions of lists. Conditions: lists of fewer than 1000000000000 elements. -/
import Derived.Test.YtbgeoadaeihgkaaPrint9
import Derived.Test.YtbgeoadaeihgkaaPrint25
import Derived.Test.YtbgeoadaeihgkaaPrint7
import Derived.Test.YtbgeoadaeihgkaaPrint14
import Derived.Test.YtbgeoadaeihgkaaPrint15
import Derived.Test.YtbgeoadaeihgkaaTape
namespace Go.Proofs.Ytbgeoadaeihgkaa.Pure
open Go.RowKit Go.Proofs.Ytbgeoadaeihgkaa.Print Go.Proofs.YtbgeoadaeihgkaaW.PrintWords Go.Proofs.YtbgeoadaeihgkaaW.PrintLast Go.Proofs.YtbgeoadaeihgkaaW.PrintMore

abbrev Rule := S28
abbrev Evid := S49
abbrev Acc := S38

theorem awake_ok : awardingbodylaw14_awake.f 8 = some true := by kernel_rfl
theorem awake_ev : Ev (fun k => awardingbodylaw14_awake.f k) true := Ev.of awardingbodylaw14_awake.mono awake_ok

def validB (e n : Int) : Bool := decide (0 ≤ e ∧ e ≤ 100 ∧ 0 ≤ n ∧ n ≤ 63)
theorem valid_eq (e n : Int) : access_valid.f e n = some (validB e n) := by
  unfold access_valid.f validB
  repeat' split
  all_goals first | exact congrArg some (decide_eq_decide.2 (by omega)) | exact congrArg some (decide_eq_false (by omega)).symm
theorem rvalid_eq (e n : Int) : awardingbodyref14_Valid.f e n = some (validB e n) := valid_eq e n
theorem level_eq (n : Int) : awardingbodyref14_level.f n = some (decide (1 ≤ n ∧ n ≤ 9)) := by
  unfold awardingbodyref14_level.f
  repeat' split
  all_goals first | exact congrArg some (decide_eq_decide.2 (by omega)) | exact congrArg some (decide_eq_false (by omega)).symm

def ruleOk (r : Rule) : Bool := decide (1 ≤ r.f0 ∧ r.f0 ≤ 9 ∧ 1 ≤ r.f1 ∧ r.f1 ≤ 9) && validB r.f2 r.f3
def okNum (b : Bool) : Int := if b then 0 else 2
def checkS (l : List Rule) : Int := if l.length > 12 then 3 else okNum (l.all ruleOk)

theorem check_loop (l : List Rule) (hl : l.length ≤ 1000000000000) (d : Nat) : ∀ i : Nat, i + d = l.length →
    Ev (fun k => access_Check.l0 k l (l.length : Int) (i : Int)) (okNum ((l.drop i).all ruleOk)) := by
  induction d with
  | zero =>
    intro i hi
    refine ev_step ?_ (fun k => by rw [access_Check.l0])
    refine ev_neg (by omega) ?_
    rw [List.drop_of_length_le (by omega)]
    exact ev_some rfl
  | succ d ih =>
    intro i hi
    have ih := ih (i + 1) (by omega)
    refine ev_step ?_ (fun k => by rw [access_Check.l0])
    refine ev_pos (by omega) (ev_pos (by omega) (ev_pos (by omega) ?_))
    rw [next_index i l.length (by omega) hl, drop_cons_at l z28 i (by omega)]
    have hx : rd_T28 l (i : Int) = l.getD i z28 := by unfold rd_T28; rw [Int.toNat_natCast]
    rw [hx]
    generalize l.getD i z28 = x
    rw [valid_eq]
    simp only [Option.bind_some, List.all_cons]
    by_cases ho : ruleOk x = true
    · have hv : validB x.f2 x.f3 = true := by simp [ruleOk] at ho; exact ho.2
      simp only [ruleOk, Bool.and_eq_true, decide_eq_true_eq] at ho
      refine ev_neg (by omega) (ev_neg (by omega) (ev_neg (by omega) (ev_neg (by omega) (ev_pos hv ?_))))
      refine ev_eq ih ?_
      have : ruleOk x = true := by simp [ruleOk, ho]
      simp [this]
    · have hf : ruleOk x = false := by simpa using ho
      rw [hf]
      simp only [ruleOk, Bool.and_eq_true, decide_eq_true_eq, not_and] at ho
      refine ev_ite (fun _ => ev_some rfl) (fun h1 => ev_ite (fun _ => ev_some rfl) (fun h2 => ev_ite (fun _ => ev_some rfl) (fun h3 => ev_ite (fun _ => ev_some rfl) (fun h4 => ?_))))
      exact ev_neg (ho (by omega)) (ev_some rfl)

theorem check_ev (l : List Rule) (hl : l.length ≤ 1000000000000) : Ev (fun k => access_Check.f k l) (checkS l) := by
  unfold access_Check.f checkS
  by_cases h : l.length > 12
  · rw [if_pos h]; exact ev_pos (by omega) (ev_some rfl)
  · rw [if_neg h]; exact ev_neg (by omega) (check_loop l hl l.length 0 (by omega))

theorem rcheck_loop (l : List Rule) (hl : l.length ≤ 1000000000000) (d : Nat) : ∀ i : Nat, i + d = l.length →
    Ev (fun k => awardingbodyref14_Check.l0 k l (i : Int)) (okNum ((l.drop i).all ruleOk)) := by
  induction d with
  | zero =>
    intro i hi
    refine ev_step ?_ (fun k => by rw [awardingbodyref14_Check.l0])
    refine ev_neg (by omega) ?_
    rw [List.drop_of_length_le (by omega)]
    exact ev_some rfl
  | succ d ih =>
    intro i hi
    have ih := ih (i + 1) (by omega)
    refine ev_step ?_ (fun k => by rw [awardingbodyref14_Check.l0])
    refine ev_pos (by omega) (ev_pos (by omega) ?_)
    rw [next_index i l.length (by omega) hl, drop_cons_at l z28 i (by omega)]
    have hx : rd_T28 l (i : Int) = l.getD i z28 := by unfold rd_T28; rw [Int.toNat_natCast]
    rw [hx]
    generalize l.getD i z28 = x
    rw [level_eq, level_eq, rvalid_eq]
    simp only [Option.bind_some, List.all_cons]
    by_cases ho : ruleOk x = true
    · have hv : validB x.f2 x.f3 = true := by simp [ruleOk] at ho; exact ho.2
      simp only [ruleOk, Bool.and_eq_true, decide_eq_true_eq] at ho
      refine ev_pos (by simp; omega) (ev_pos (by simp; omega) (ev_pos hv ?_))
      refine ev_eq ih ?_
      have : ruleOk x = true := by simp [ruleOk, ho]
      simp [this]
    · have hf : ruleOk x = false := by simpa using ho
      rw [hf]
      simp only [ruleOk, Bool.and_eq_true, decide_eq_true_eq, not_and] at ho
      refine ev_ite (fun h1 => ev_ite (fun h2 => ?_) (fun _ => ev_some rfl)) (fun _ => ev_some rfl)
      simp only [decide_eq_true_eq] at h1 h2
      exact ev_neg (ho (by omega)) (ev_some rfl)

theorem rcheck_ev (l : List Rule) (hl : l.length ≤ 1000000000000) : Ev (fun k => awardingbodyref14_Check.f k l) (checkS l) := by
  unfold awardingbodyref14_Check.f checkS
  by_cases h : l.length > 12
  · rw [if_pos h]; exact ev_pos (by omega) (ev_some rfl)
  · rw [if_neg h]; exact ev_neg (by omega) (rcheck_loop l hl l.length 0 (by omega))

/-- What a piece of evidence has to do with a rule. -/
def fits (k m c t : Int) (x : Evid) : Bool := decide (x.f0 = c ∧ x.f1 = k ∧ m ≤ x.f2 ∧ x.f2 ≤ 9 ∧ x.f3 ≤ t ∧ t ≤ x.f4)

theorem applies_loop (r0 r1 r2 r3 c t : Int) (l : List Evid) (hl : l.length ≤ 1000000000000) (d : Nat) : ∀ i : Nat, i + d = l.length →
    Ev (fun k => access_applies.l0 k c t l (l.length : Int) (i : Int) r0 r1 r2 r3) ((l.drop i).any (fits r0 r1 c t)) := by
  induction d with
  | zero =>
    intro i hi
    refine ev_step ?_ (fun k => by rw [access_applies.l0])
    refine ev_neg (by omega) ?_
    rw [List.drop_of_length_le (by omega)]
    exact ev_some rfl
  | succ d ih =>
    intro i hi
    have ih := ih (i + 1) (by omega)
    refine ev_step ?_ (fun k => by rw [access_applies.l0])
    refine ev_pos (by omega) (ev_pos (by omega) (ev_pos (by omega) ?_))
    rw [next_index i l.length (by omega) hl, drop_cons_at l z49 i (by omega)]
    have hx : rd_T49 l (i : Int) = l.getD i z49 := by unfold rd_T49; rw [Int.toNat_natCast]
    rw [hx]
    generalize l.getD i z49 = x
    rw [List.any_cons]
    by_cases hf : fits r0 r1 c t x = true
    · rw [hf]
      simp only [fits, decide_eq_true_eq] at hf
      exact ev_pos (by omega) (ev_pos (by omega) (ev_pos (by omega) (ev_pos (by omega) (ev_pos (by omega) (ev_pos (by omega) (ev_some rfl))))))
    · have h0 : fits r0 r1 c t x = false := by simpa using hf
      rw [h0, Bool.false_or]
      simp only [fits, decide_eq_true_eq] at hf
      refine ev_ite (fun h1 => ev_ite (fun h2 => ev_ite (fun h3 => ev_ite (fun h4 => ev_ite (fun h5 => ev_ite (fun h6 => ?_) (fun _ => ih)) (fun _ => ih)) (fun _ => ih)) (fun _ => ih)) (fun _ => ih)) (fun _ => ih)
      exact absurd ⟨h1, h2, h3, h4, h5, h6⟩ hf

theorem applies_ev (r0 r1 r2 r3 c t : Int) (l : List Evid) (hl : l.length ≤ 1000000000000) : Ev (fun k => access_applies.f k r0 r1 r2 r3 l c t) (l.any (fits r0 r1 c t)) :=
  applies_loop r0 r1 r2 r3 c t l hl l.length 0 (by omega)

theorem rapplies_loop (r0 r1 r2 r3 c t : Int) (h0 : 1 ≤ r0 ∧ r0 ≤ 9) (h1 : 1 ≤ r1) (l : List Evid) (hl : l.length ≤ 1000000000000) (d : Nat) : ∀ i : Nat, i + d = l.length →
    Ev (fun k => awardingbodyref14_applies.l0 k l c t (i : Int) r0 r1 r2 r3) ((l.drop i).any (fits r0 r1 c t)) := by
  induction d with
  | zero =>
    intro i hi
    refine ev_step ?_ (fun k => by rw [awardingbodyref14_applies.l0])
    refine ev_neg (by omega) ?_
    rw [List.drop_of_length_le (by omega)]
    exact ev_some rfl
  | succ d ih =>
    intro i hi
    have ih := ih (i + 1) (by omega)
    refine ev_step ?_ (fun k => by rw [awardingbodyref14_applies.l0])
    refine ev_pos (by omega) (ev_pos (by omega) ?_)
    rw [next_index i l.length (by omega) hl, drop_cons_at l z49 i (by omega)]
    have hx : rd_T49 l (i : Int) = l.getD i z49 := by unfold rd_T49; rw [Int.toNat_natCast]
    rw [hx]
    generalize l.getD i z49 = x
    rw [List.any_cons, level_eq, level_eq]
    simp only [Option.bind_some, decide_eq_true_eq]
    by_cases hf : fits r0 r1 c t x = true
    · rw [hf]
      simp only [fits, decide_eq_true_eq] at hf
      exact ev_pos (by omega) (ev_pos (by omega) (ev_pos (by omega) (ev_pos (by omega) (ev_pos (by omega) (ev_pos (by omega) (ev_pos (by omega) (ev_some rfl)))))))
    · have h0 : fits r0 r1 c t x = false := by simpa using hf
      rw [h0, Bool.false_or]
      simp only [fits, decide_eq_true_eq] at hf
      refine ev_ite (fun h1 => ev_ite (fun h2 => ev_ite (fun h3 => ev_ite (fun h4 => ev_ite (fun h5 => ev_ite (fun h6 => ev_ite (fun h7 => ?_) (fun _ => ih)) (fun _ => ih)) (fun _ => ih)) (fun _ => ih)) (fun _ => ih)) (fun _ => ih)) (fun _ => ih)
      exact absurd ⟨h1, h6, by omega, by omega, h4, h5⟩ hf

theorem rapplies_ev (r0 r1 r2 r3 c t : Int) (h0 : 1 ≤ r0 ∧ r0 ≤ 9) (h1 : 1 ≤ r1) (l : List Evid) (hl : l.length ≤ 1000000000000) : Ev (fun k => awardingbodyref14_applies.f k r0 r1 r2 r3 l c t) (l.any (fits r0 r1 c t)) :=
  rapplies_loop r0 r1 r2 r3 c t h0 h1 l hl l.length 0 (by omega)

end Go.Proofs.Ytbgeoadaeihgkaa.Pure
