/- Bubble: what Judge comes to, program and reference alike. -/
import Derived.Test.YthbmpjglkbhhgaaPrint2
import Derived.Test.YthbmpjglkbhhgaaPrint1
import Derived.Test.YthbmpjglkbhhgaaTape
namespace Go.Proofs.Ythbmpjglkbhhgaa.Pure
open Go.RowKit Go.Proofs.Ythbmpjglkbhhgaa.Print Go.Proofs.YthbmpjglkbhhgaaW.PrintWords Go.Proofs.YthbmpjglkbhhgaaW.PrintLast Go.Proofs.YthbmpjglkbhhgaaW.PrintMore

theorem awake_ok : awardingbodylaw20_awake.f 30 = some true := by kernel_rfl
theorem awake_ev : Ev (fun k => awardingbodylaw20_awake.f k) true := Ev.of awardingbodylaw20_awake.mono awake_ok
theorem mx_eq (a b : Int) : mx a b = max a b := by unfold mx; omega
theorem mn_eq (a b : Int) : mn a b = min a b := by unfold mn; omega

def thrB (d f ld : Int) : Bool := decide (1 ≤ f ∧ f ≤ d ∧ d ≤ 9 ∧ 1 ≤ ld ∧ ld ≤ 9)
theorem thr_eq (d f ld : Int) : bubble_Valid.f d f ld = some (thrB d f ld) := by
  unfold bubble_Valid.f thrB
  repeat' split
  all_goals first | exact congrArg some (decide_eq_decide.2 (by omega)) | exact congrArg some (decide_eq_false (by omega)).symm
def outB (v : Int) : Bool := decide (v < 0 ∨ 9 < v)
theorem outside_eq (v : Int) : bubble_outside.f v = some (outB v) := by
  unfold bubble_outside.f outB
  by_cases h : v < 0
  · rw [if_pos h]; exact congrArg some (decide_eq_true (.inl h)).symm
  · rw [if_neg h]; exact congrArg some (decide_eq_decide.2 (by omega))

theorem rd_nat (l : List Int) (i : Nat) : rd l (i : Int) = l.getD i 0 := by unfold rd; rw [Int.toNat_natCast]

theorem indexfunc_loop (l : List Int) (hl : l.length ≤ 1000000000000) (d : Nat) : ∀ i : Nat, i + d = l.length →
    ∃ r, Ev (fun k => slices_IndexFunc_int_int_outside_s59.l0 k l (l.length : Int) (i : Int)) r ∧ (0 ≤ r ↔ (l.drop i).any outB = true) := by
  induction d with
  | zero =>
    intro i hi
    refine ⟨-1, ?_, ?_⟩
    · refine ev_step ?_ (fun k => by rw [slices_IndexFunc_int_int_outside_s59.l0])
      exact ev_neg (by omega) (ev_some rfl)
    · rw [List.drop_of_length_le (by omega)]; simp
  | succ d ih =>
    intro i hi
    obtain ⟨r, hr, hk⟩ := ih (i + 1) (by omega)
    rw [drop_cons_at l 0 i (by omega), List.any_cons]
    by_cases h : outB (l.getD i 0) = true
    · refine ⟨i, ?_, by rw [h, Bool.true_or]; exact ⟨fun _ => rfl, fun _ => by omega⟩⟩
      refine ev_step ?_ (fun k => by rw [slices_IndexFunc_int_int_outside_s59.l0])
      rw [rd_nat, outside_eq]
      exact ev_pos (by omega) (ev_pos (by omega) (ev_pos (by omega) (ev_pos h (ev_some rfl))))
    · refine ⟨r, ?_, by rw [hk, show outB (l.getD i 0) = false by simpa using h, Bool.false_or]⟩
      refine ev_step ?_ (fun k => by rw [slices_IndexFunc_int_int_outside_s59.l0])
      rw [rd_nat, outside_eq, next_index i l.length (by omega) hl]
      exact ev_pos (by omega) (ev_pos (by omega) (ev_pos (by omega) (ev_neg h hr)))
theorem contains_ev (l : List Int) (hl : l.length ≤ 1000000000000) : Ev (fun k => slices_ContainsFunc_int_int_outside_s40.f k l) (l.any outB) := by
  obtain ⟨r, hr, hk⟩ := indexfunc_loop l hl l.length 0 (by omega)
  unfold slices_ContainsFunc_int_int_outside_s40.f
  refine ev_bind (g := fun k => slices_IndexFunc_int_int_outside_s59.f k l) hr (ev_some ?_)
  rw [List.drop_zero] at hk
  by_cases h : l.any outB = true
  · rw [h]; exact decide_eq_true (hk.2 h)
  · have : l.any outB = false := by simpa using h
    rw [this]; exact decide_eq_false (fun h2 => h (hk.1 h2))

/-- b is the first of the greatest. -/
def FM (l : List Int) (b : Nat) : Prop := b < l.length ∧ (∀ j, j < l.length → l.getD j 0 ≤ l.getD b 0) ∧ ∀ j, j < b → l.getD j 0 < l.getD b 0
theorem FM.unique {l : List Int} {b c : Nat} (h : FM l b) (k : FM l c) : b = c := by
  rcases Nat.lt_trichotomy b c with hlt | he | hlt
  · have := k.2.2 b hlt
    have := h.2.1 c k.1
    omega
  · exact he
  · have := h.2.2 c hlt
    have := k.2.1 b h.1
    omega

theorem max_loop (l : List Int) (hl : l.length ≤ 1000000000000) (d : Nat) : ∀ (i : Nat) (m : Int), i + d = l.length → 0 < i → (∀ j, j < i → l.getD j 0 ≤ m) → (∃ j, j < i ∧ l.getD j 0 = m) →
    ∃ M, Ev (fun k => slices_Max_int_int.l0 k l m (i : Int)) M ∧ (∀ j, j < l.length → l.getD j 0 ≤ M) ∧ ∃ j, j < l.length ∧ l.getD j 0 = M := by
  induction d with
  | zero =>
    intro i m hi h0 h1 h2
    refine ⟨m, ?_, fun j hj => h1 j (by omega), by obtain ⟨j, hj, he⟩ := h2; exact ⟨j, by omega, he⟩⟩
    refine ev_step ?_ (fun k => by rw [slices_Max_int_int.l0])
    exact ev_neg (by omega) (ev_some rfl)
  | succ d ih =>
    intro i m hi h0 h1 h2
    obtain ⟨M, hM, hk⟩ := ih (i + 1) (mx m (l.getD i 0)) (by omega) (by omega)
      (fun j hj => by
        rw [mx_eq]
        rcases Nat.lt_or_ge j i with h | h
        · have := h1 j h; omega
        · have : j = i := by omega
          subst this; omega)
      (by
        rw [mx_eq]
        by_cases h : m < l.getD i 0
        · exact ⟨i, by omega, by omega⟩
        · obtain ⟨j, hj, he⟩ := h2
          exact ⟨j, by omega, by omega⟩)
    refine ⟨M, ?_, hk⟩
    refine ev_step ?_ (fun k => by rw [slices_Max_int_int.l0])
    rw [rd_nat, next_index i l.length (by omega) hl]
    exact ev_pos (by omega) (ev_pos (by omega) hM)

theorem max_ok (l : List Int) (hl : l.length ≤ 1000000000000) (h0 : 0 < l.length) :
    ∃ M, Ev (fun k => slices_Max_int_int.f k l) M ∧ (∀ j, j < l.length → l.getD j 0 ≤ M) ∧ ∃ j, j < l.length ∧ l.getD j 0 = M := by
  obtain ⟨M, hM, hk⟩ := max_loop l hl (l.length - 1) 1 (l.getD 0 0) (by omega) (by omega) (fun j hj => by obtain rfl : j = 0 := by omega
                                                                                                          omega) ⟨0, by omega, rfl⟩
  refine ⟨M, ?_, hk⟩
  unfold slices_Max_int_int.f
  exact ev_neg (by omega) (ev_pos (by omega) hM)

theorem index_loop (l : List Int) (v : Int) (hl : l.length ≤ 1000000000000) (d : Nat) : ∀ i : Nat, i + d = l.length → (∀ j, j < i → l.getD j 0 ≠ v) → (∃ j, j < l.length ∧ l.getD j 0 = v) →
    ∃ b : Nat, Ev (fun k => slices_Index_int_int.l0 k l v (l.length : Int) (i : Int)) (b : Int) ∧ b < l.length ∧ l.getD b 0 = v ∧ ∀ j, j < b → l.getD j 0 ≠ v := by
  induction d with
  | zero =>
    intro i hi h1 ⟨j, hj, he⟩
    exact absurd he (h1 j (by omega))
  | succ d ih =>
    intro i hi h1 h2
    by_cases h : v = l.getD i 0
    · refine ⟨i, ?_, by omega, h.symm, h1⟩
      refine ev_step ?_ (fun k => by rw [slices_Index_int_int.l0])
      rw [rd_nat]
      exact ev_pos (by omega) (ev_pos (by omega) (ev_pos (by omega) (ev_pos h (ev_some rfl))))
    · obtain ⟨b, hb, hk⟩ := ih (i + 1) (by omega) (fun j hj => by
        rcases Nat.lt_or_ge j i with h3 | h3
        · exact h1 j h3
        · have : j = i := by omega
          subst this; exact fun h4 => h h4.symm) h2
      refine ⟨b, ?_, hk⟩
      refine ev_step ?_ (fun k => by rw [slices_Index_int_int.l0])
      rw [rd_nat, next_index i l.length (by omega) hl]
      exact ev_pos (by omega) (ev_pos (by omega) (ev_pos (by omega) (ev_neg h hb)))

theorem best_ok (l : List Int) (hl : l.length ≤ 1000000000000) (h0 : 0 < l.length) :
    ∃ M, ∃ b : Nat, Ev (fun k => slices_Max_int_int.f k l) M ∧ Ev (fun k => slices_Index_int_int.f k l M) (b : Int) ∧ FM l b := by
  obtain ⟨M, hM, h1, h2⟩ := max_ok l hl h0
  obtain ⟨b, hb, h3, h4, h5⟩ := index_loop l M hl l.length 0 (by omega) (fun j hj => by omega) h2
  refine ⟨M, b, hM, hb, h3, fun j hj => by have := h1 j hj; omega, fun j hj => ?_⟩
  have := h1 j (by omega)
  have := h5 j hj
  omega

/-- How many are dark, from some place on; do all but b stay behind it, from some place on. -/
def darkN (d : Int) (l : List Int) : Int := ((l.countP fun v => decide (d ≤ v) : Nat) : Int)
def behind (l : List Int) (b : Nat) (ld : Int) (j : Nat) : Bool := j == b || decide (l.getD j 0 ≤ l.getD b 0 - ld)
theorem behind_eq (l : List Int) (b : Nat) (ld : Int) (j : Nat) : behind l b ld j = decide (j = b ∨ l.getD j 0 ≤ l.getD b 0 - ld) := by
  unfold behind
  rw [Bool.eq_iff_iff]
  simp only [Bool.or_eq_true, beq_iff_eq, decide_eq_true_eq]
def leadsB (l : List Int) (b : Nat) (ld : Int) : Bool := (List.range l.length).all (behind l b ld)
/-- The verdict. -/
def fin (b n : Int) (c : Bool) : Int × Int := if n = 1 ∨ c = true then (b, 0) else if n > 1 then (-2, 0) else (-1, 0)

theorem range_drop (n i : Nat) (h : i < n) : (List.range n).drop i = i :: (List.range n).drop (i + 1) := by
  have := drop_cons_at (List.range n) 0 i (by simp; omega)
  rw [this]
  congr 1
  rw [List.getD_eq_getElem?_getD, List.getElem?_range h]; rfl

theorem dark_cons (d v : Int) (l : List Int) : darkN d (v :: l) = (if d ≤ v then 1 else 0) + darkN d l := by
  unfold darkN
  rw [List.countP_cons]
  by_cases h : d ≤ v
  · simp [h]; omega
  · simp [h]
theorem dark_le (d : Int) (l : List Int) : 0 ≤ darkN d l ∧ darkN d l ≤ (l.length : Int) := by
  unfold darkN
  have := List.countP_le_length (p := fun v => decide (d ≤ v)) (l := l)
  omega

theorem judge_j2 (b n : Int) (c : Bool) : Ev (fun k => bubble_Judge.j2 k b n c) (if c = true then (b, 0) else if n > 1 then (-2, 0) else (-1, 0)) := by
  refine ev_step ?_ (fun k => by rw [bubble_Judge.j2])
  refine ev_ite (fun h => ?_) (fun h => ev_ite (fun h2 => ?_) (fun h2 => ?_))
  · rw [if_pos h]; exact ev_some rfl
  · rw [if_neg h, if_pos h2]; exact ev_some rfl
  · rw [if_neg h, if_neg h2]; exact ev_some rfl

theorem judge_loop (l : List Int) (b : Nat) (d f ld : Int) (hl : l.length ≤ 1000000000) (hb : b < l.length) (hv : 0 ≤ l.getD b 0 ∧ l.getD b 0 ≤ 9) (hld : 1 ≤ ld ∧ ld ≤ 9) (n : Nat) : ∀ (i : Nat) (c : Int) (x : Bool), i + n = l.length → 0 ≤ c → c ≤ i →
    Ev (fun k => bubble_Judge.l0 k l (b : Int) c x l (l.length : Int) (i : Int) d f ld) (fin b (c + darkN d (l.drop i)) ((x && ((List.range l.length).drop i).all (behind l b ld)) && decide (f ≤ l.getD b 0))) := by
  induction n with
  | zero =>
    intro i c x hi h0 h1
    refine ev_step ?_ (fun k => by rw [bubble_Judge.l0])
    rw [List.drop_of_length_le (by omega), List.drop_of_length_le (by simp; omega)]
    have e : darkN d [] = 0 := rfl
    rw [e, Int.add_zero]
    simp only [List.all_nil, Bool.and_true]
    refine ev_neg (by omega) ?_
    unfold fin
    refine ev_ite (fun h => ev_eq (judge_j2 _ _ _) (by simp [h])) (fun h => ?_)
    refine ev_ite (fun h2 => ?_) (fun h2 => ev_eq (judge_j2 _ _ _) (by simp [h, h2]))
    rw [rd_nat]
    refine ev_pos (by omega) (ev_pos (by omega) (ev_eq (judge_j2 _ _ _) ?_))
    simp [h, h2]
  | succ n ih =>
    intro i c x hi h0 h1
    refine ev_step ?_ (fun k => by rw [bubble_Judge.l0])
    rw [drop_cons_at l 0 i (by omega), dark_cons, range_drop l.length i (by omega), List.all_cons, next_index i l.length (by omega) (by omega), rd_nat, rd_nat, wrap_id (x := c + 1) (by omega) (by omega), wrap_id (x := l.getD b 0 - ld) (by omega) (by omega)]
    refine ev_pos (by omega) (ev_pos (by omega) (ev_pos (by omega) ?_))
    have hbe : behind l b ld i = (decide ((i : Int) = (b : Int)) || decide (l.getD i 0 ≤ l.getD b 0 - ld)) := by
      unfold behind
      congr 1
      rw [Bool.eq_iff_iff]; simp; omega
    rw [hbe]
    refine ev_ite (fun h => ?_) (fun h => ?_)
    · rw [if_pos (show d ≤ l.getD i 0 by omega)]
      refine ev_ite (fun hx => ev_ite (fun hib => ?_) (fun hib => ev_pos (by omega) (ev_pos (by omega) ?_))) (fun hx => ?_)
      · refine ev_eq (ih (i + 1) _ _ (by omega) (by omega) (by omega)) ?_
        simp only [hx, decide_eq_true hib, Bool.true_or, Bool.true_and]
        congr 1; omega
      · refine ev_eq (ih (i + 1) _ _ (by omega) (by omega) (by omega)) ?_
        simp only [hx, decide_eq_false hib, Bool.false_or, Bool.true_and]
        congr 1; omega
      · have hx : x = false := by simpa using hx
        refine ev_eq (ih (i + 1) _ _ (by omega) (by omega) (by omega)) ?_
        simp only [hx, Bool.false_and]
        congr 1; omega
    · rw [if_neg (show ¬ d ≤ l.getD i 0 by omega), Int.zero_add]
      refine ev_ite (fun hx => ev_ite (fun hib => ?_) (fun hib => ev_pos (by omega) (ev_pos (by omega) ?_))) (fun hx => ?_)
      · refine ev_eq (ih (i + 1) _ _ (by omega) (by omega) (by omega)) ?_
        simp only [hx, decide_eq_true hib, Bool.true_or, Bool.true_and]
      · refine ev_eq (ih (i + 1) _ _ (by omega) (by omega) (by omega)) ?_
        simp only [hx, decide_eq_false hib, Bool.false_or, Bool.true_and]
      · have hx : x = false := by simpa using hx
        refine ev_eq (ih (i + 1) _ _ (by omega) (by omega) (by omega)) ?_
        simp only [hx, Bool.false_and]

/-- A list of values, all from 0 to 9. -/
def inB (l : List Int) : Prop := l.any outB = false
theorem inB_at {l : List Int} (h : inB l) (i : Nat) (hi : i < l.length) : 0 ≤ l.getD i 0 ∧ l.getD i 0 ≤ 9 := by
  have := (List.any_eq_false.1 h) (l.getD i 0) (by rw [List.getD_eq_getElem?_getD, List.getElem?_eq_getElem hi]; exact List.getElem_mem _)
  simp only [outB, decide_eq_true_eq] at this
  omega

def verdict (d f ld : Int) (l : List Int) (b : Nat) : Int × Int := fin b (darkN d l) (leadsB l b ld && decide (f ≤ l.getD b 0))

theorem judge_ev (d f ld : Int) (l : List Int) (hl : l.length ≤ 1000000000) :
    ∃ r, Ev (fun k => bubble_Judge.f k d f ld l) r ∧
      (thrB d f ld = false → r = (0, 1)) ∧ (thrB d f ld = true → (l.length < 2 ∨ 5 < l.length) → r = (0, 3)) ∧ (thrB d f ld = true → 2 ≤ l.length → l.length ≤ 5 → l.any outB = true → r = (0, 2)) ∧
      (thrB d f ld = true → 2 ≤ l.length → l.length ≤ 5 → inB l → ∃ b, FM l b ∧ r = verdict d f ld l b) := by
  by_cases ht : thrB d f ld = true
  · by_cases hlen : l.length < 2 ∨ 5 < l.length
    · refine ⟨(0, 3), ?_, (by simp [ht]), (fun _ _ => rfl), (fun _ _ _ => by omega), (fun _ _ _ => by omega)⟩
      unfold bubble_Judge.f
      rw [thr_eq]
      refine ev_pos ht (ev_ite (fun h => ?_) (fun h => ?_))
      · refine ev_step ?_ (fun k => by rw [bubble_Judge.j0])
        exact ev_pos rfl (ev_some rfl)
      · refine ev_step ?_ (fun k => by rw [bubble_Judge.j0])
        exact ev_pos (decide_eq_true (by omega)) (ev_some rfl)
    · by_cases ho : l.any outB = true
      · refine ⟨(0, 2), ?_, (by simp [ht]), (fun _ h => absurd h hlen), (fun _ _ _ _ => rfl), (fun _ _ _ hi => by rw [inB, ho] at hi; cases hi)⟩
        unfold bubble_Judge.f
        rw [thr_eq]
        refine ev_pos ht (ev_neg (by omega) ?_)
        refine ev_step ?_ (fun k => by rw [bubble_Judge.j0])
        exact ev_neg (by rw [decide_eq_true_eq]; omega) (ev_bind (contains_ev l (by omega)) (ev_pos ho (ev_some rfl)))
      · have hin : inB l := by simpa [inB] using ho
        obtain ⟨M, b, hM, hb, hF⟩ := best_ok l (by omega) (by omega)
        have hld : 1 ≤ ld ∧ ld ≤ 9 := by simp [thrB] at ht; omega
        refine ⟨verdict d f ld l b, ?_, (by simp [ht]), (fun _ h => absurd h hlen), (fun _ _ _ h => absurd h ho), fun _ _ _ _ => ⟨b, hF, rfl⟩⟩
        unfold bubble_Judge.f
        rw [thr_eq]
        refine ev_pos ht (ev_neg (by omega) ?_)
        refine ev_step ?_ (fun k => by rw [bubble_Judge.j0])
        refine ev_neg (by rw [decide_eq_true_eq]; omega) (ev_bind (contains_ev l (by omega)) (ev_neg ho (ev_bind hM (ev_bind hb ?_))))
        refine ev_eq (judge_loop l b d f ld hl hF.1 (inB_at hin b hF.1) hld l.length 0 0 true (by omega) (by omega) (by omega)) ?_
        unfold verdict leadsB
        rw [List.drop_zero, List.drop_zero, Int.zero_add, Bool.true_and]
  · have ht' : thrB d f ld = false := by simpa using ht
    refine ⟨(0, 1), ?_, fun _ => rfl, fun h => absurd h ht, fun h => absurd h ht, fun h => absurd h ht⟩
    unfold bubble_Judge.f
    rw [thr_eq]
    exact ev_neg ht (ev_some rfl)

/-! The reference. -/
theorem judge_same (d f ld : Int) (l : List Int) (hl : l.length ≤ 1000000000) : ∃ r, Ev (fun k => bubble_Judge.f k d f ld l) r ∧ True := by
  obtain ⟨r, hr, _⟩ := judge_ev d f ld l hl
  exact ⟨r, hr, trivial⟩

end Go.Proofs.Ythbmpjglkbhhgaa.Pure
