/- Monitor: what a rule's dice, Valid, Step and Run come to. Conditions: a valid rule, at most 1000000 judgements. -/
import Derived.Test.YtdcfjmkeakkfjaaPrint1
import Derived.Test.YtdcfjmkeakkfjaaPrint2
import Derived.Test.YtdcfjmkeakkfjaaEvKit
namespace Go.Proofs.Ytdcfjmkeakkfjaa.Pure
open Go.RowKit Go.Proofs.Ytdcfjmkeakkfjaa.Print Go.Proofs.YtdcfjmkeakkfjaaW.PrintWords Go.Proofs.YtdcfjmkeakkfjaaW.PrintLast Go.Proofs.YtdcfjmkeakkfjaaW.PrintMore
set_option linter.unusedVariables false
set_option linter.unusedSectionVars false

theorem sane_ok : awardingbodylaw27_sane.f 40 = some true := by kernel_rfl
theorem sane_ev : Ev (fun k => awardingbodylaw27_sane.f k) true := Ev.of awardingbodylaw27_sane.mono sane_ok

theorem in_eq (a lo hi : Int) : monitor_in.f a lo hi = some (decide (lo ≤ a ∧ a ≤ hi)) := by
  unfold monitor_in.f
  by_cases h : a ≥ lo
  · rw [if_pos h]; exact congrArg some (decide_eq_decide.2 (by omega))
  · rw [if_neg h]; exact congrArg some (decide_eq_false (by omega)).symm

/-- Dice and place. -/
def DP (L : List Int) (p : Int) : Prop := 0 ≤ p ∧ p ≤ (L.length : Int) ∧ L.length ≤ 600
theorem dice_ok {L : List Int} {p : Int} (h : DP L p) (n : Int) (h1 : 1 ≤ n) (h2 : n ≤ 1000000) : ∃ v q, Ev (fun k => awardingbodymark_Dice_Next.f k L p n) (v, q) ∧ DP L q ∧ 0 ≤ v ∧ v < n := by
  unfold awardingbodymark_Dice_Next.f
  by_cases hp : p ≥ (L.length : Int)
  · refine ⟨0, p, ev_pos hp ?_, h, by omega, by omega⟩
    refine ev_step ?_ (fun k => by rw [awardingbodymark_Dice_Next.j0])
    exact ev_pos rfl (ev_some rfl)
  · have hlt : ¬ n < 1 := by omega
    obtain ⟨a, b, c⟩ := h
    have t1 := Int.tmod_lt_of_pos (rd L p) (show 0 < n by omega)
    have t2 := Int.lt_tmod_of_pos (rd L p) (show 0 < n by omega)
    have w : wrap64 (p + 1) = p + 1 := wrap_id (by omega) (by omega)
    by_cases hn : Int.tmod (rd L p) n < 0
    · refine ⟨Int.tmod (rd L p) n + n, p + 1, ev_neg hp ?_, ⟨by omega, by omega, c⟩, by omega, by omega⟩
      refine ev_step ?_ (fun k => by rw [awardingbodymark_Dice_Next.j0])
      refine ev_neg (by simp [hlt]) (ev_pos a (ev_pos (by omega) (ev_neg (by omega) (ev_pos hn (ev_some ?_)))))
      rw [w, wrap_id (by omega) (by omega)]
    · refine ⟨Int.tmod (rd L p) n, p + 1, ev_neg hp ?_, ⟨by omega, by omega, c⟩, by omega, by omega⟩
      refine ev_step ?_ (fun k => by rw [awardingbodymark_Dice_Next.j0])
      refine ev_neg (by simp [hlt]) (ev_pos a (ev_pos (by omega) (ev_neg (by omega) (ev_neg hn (ev_some ?_)))))
      rw [w]

/-- A rule that Check takes, its window and its fails as counts. -/
def Rule (P T : Int) (W F : Nat) : Prop := 0 ≤ P ∧ P ≤ 200 ∧ 0 ≤ T ∧ T ≤ 200 ∧ 1 ≤ F ∧ F ≤ W ∧ W ≤ 20
theorem rule_ok {L : List Int} {p : Int} (h : DP L p) : ∃ (P T : Int) (W F : Nat) (q : Int), Ev (fun k => awardingbodymark_Dice_Monitor.f k L p) (P, T, (W : Int), (F : Int), q) ∧ DP L q ∧ Rule P T W F := by
  obtain ⟨w, q1, h1, hq1, a1, a2⟩ := dice_ok h 3 (by omega) (by omega)
  obtain ⟨P, q2, h2, hq2, b1, b2⟩ := dice_ok hq1 2 (by omega) (by omega)
  obtain ⟨T, q3, h3, hq3, c1, c2⟩ := dice_ok hq2 3 (by omega) (by omega)
  have e1 : wrap64 (1 + w) = 1 + w := wrap_id (by omega) (by omega)
  obtain ⟨f, q4, h4, hq4, d1, d2⟩ := dice_ok hq3 (1 + w) (by omega) (by omega)
  have e2 : wrap64 (1 + f) = 1 + f := wrap_id (by omega) (by omega)
  refine ⟨P, T, (1 + w).toNat, (1 + f).toNat, q4, ?_, hq4, ?_⟩
  · unfold awardingbodymark_Dice_Monitor.f
    rw [← e1] at h4
    refine ev_bind h1 (ev_bind h2 (ev_bind h3 (ev_bind h4 (ev_some ?_))))
    rw [e1, e2, Int.toNat_of_nonneg (by omega), Int.toNat_of_nonneg (by omega)]
  · exact ⟨by omega, by omega, by omega, by omega, by omega, by omega, by omega⟩
theorem check_eq {P T : Int} {W F : Nat} (h : Rule P T W F) : monitor_Check.f P T W F = some 0 := by
  obtain ⟨a, b, c, d, e, f, g⟩ := h
  unfold monitor_Check.f
  rw [in_eq, in_eq, in_eq, in_eq]
  simp only [Option.bind_some]
  rw [if_pos (decide_eq_true ⟨a, b⟩), if_pos (decide_eq_true ⟨c, d⟩), if_pos (decide_eq_true (by omega)), if_pos (decide_eq_true (by omega))]

/-- How many judgements are not good. -/
def fl (l : List Bool) : Nat := l.count false
theorem fl_app (a b : List Bool) : fl (a ++ b) = fl a + fl b := List.count_append
theorem fl_le (l : List Bool) : fl l ≤ l.length := List.count_le_length
theorem fl_cons (b : Bool) (l : List Bool) : fl (b :: l) = fl l + (if b = true then 0 else 1) := by cases b <;> simp [fl]
theorem rdb (l : List Bool) (i : Nat) : rdOf false l (i : Int) = l.getD i false := by unfold rdOf; rw [Int.toNat_natCast]
theorem fails_loop (l : List Bool) (hl : l.length ≤ 1000000) (d : Nat) : ∀ (i : Nat) (n : Int), i + d = l.length → 0 ≤ n → n + d ≤ 1000000000 → Ev (fun k => monitor_fails.l0 k n l (l.length : Int) (i : Int)) (n + (fl (l.drop i) : Int)) := by
  induction d with
  | zero =>
    intro i n hi h0 hn
    refine ev_step ?_ (fun k => by rw [monitor_fails.l0])
    rw [List.drop_of_length_le (by omega)]
    exact ev_neg (by omega) (ev_some (by simp [fl]))
  | succ d ih =>
    intro i n hi h0 hn
    refine ev_step ?_ (fun k => by rw [monitor_fails.l0])
    rw [rdb, drop_cons_at l false i (by omega), fl_cons, next_index i l.length (by omega) (by omega)]
    refine ev_pos (by omega) (ev_pos (by omega) (ev_pos (by omega) (ev_ite (fun h => ev_eq (ih (i + 1) n (by omega) h0 (by omega)) ?_) (fun h => ?_))))
    · rw [if_pos h]; omega
    · rw [wrap_id (x := n + 1) (by omega) (by omega), if_neg h]
      exact ev_eq (ih (i + 1) (n + 1) (by omega) (by omega) (by omega)) (by omega)
theorem fails_ev (l : List Bool) (hl : l.length ≤ 1000000) : Ev (fun k => monitor_fails.f k l) (fl l : Int) := by
  have := fails_loop l hl l.length 0 0 (by omega) (by omega) (by omega)
  rw [List.drop_zero, Int.zero_add] at this
  exact this

section
variable {P T : Int} {W F : Nat} (hr : Rule P T W F)
include hr
theorem valid_ev (l : List Bool) (b : Bool) (hl : l.length ≤ W) : Ev (fun k => monitor_Valid.f k P T W F l b) (b == decide (F ≤ fl l)) := by
  have hw : W ≤ 20 := hr.2.2.2.2.2.2
  unfold monitor_Valid.f
  rw [check_eq hr]
  refine ev_bind_now rfl (ev_pos rfl (ev_pos (by omega) (ev_bind (fails_ev l (by omega)) (ev_some ?_))))
  rw [show decide ((fl l : Int) ≥ (F : Int)) = decide (F ≤ fl l) from decide_eq_decide.2 (by omega)]
/-- What a step makes of the judgements kept. -/
def nxt (W : Nat) (l : List Bool) (g : Bool) : List Bool := (l ++ [g]).drop (l.length + 1 - W)
theorem step_dead (l : List Bool) (hl : l.length ≤ W) (hf : F ≤ fl l) (g : Bool) : Ev (fun k => monitor_Step.f k P T W F l true g) ([], false, 8) := by
  unfold monitor_Step.f
  refine ev_bind (valid_ev hr l true hl) (ev_pos (by rw [decide_eq_true hf]; rfl) (ev_pos rfl (ev_some rfl)))
theorem clone_ev (l : List Bool) (hl : l.length ≤ 1000000) : slices_Clone_bool_bool.f l = some l := by
  unfold slices_Clone_bool_bool.f
  simp only [Option.bind_some, List.length_nil, List.nil_append]
  rw [if_pos (by omega)]
theorem nxt_length (l : List Bool) (hl : l.length ≤ W) (g : Bool) : (nxt W l g).length ≤ W := by
  unfold nxt; rw [List.length_drop, List.length_append]; simp only [List.length_cons, List.length_nil]; have := hr.2.2.2.2; omega
theorem step_live (l : List Bool) (hl : l.length ≤ W) (hf : fl l < F) (g : Bool) : Ev (fun k => monitor_Step.f k P T W F l false g) (nxt W l g, decide (F ≤ fl (nxt W l g)), 0) := by
  have hw : W ≤ 20 := hr.2.2.2.2.2.2
  have hn := nxt_length hr l hl g
  unfold monitor_Step.f
  refine ev_bind (valid_ev hr l false hl) (ev_pos (by rw [decide_eq_false (by omega)]; rfl) (ev_neg (by decide) (ev_bind_now (clone_ev hr l (by omega)) (ev_pos (by omega) (ev_bind_now rfl ?_)))))
  have hlen : ((l ++ [g]).length : Int) = (l.length : Int) + 1 := by simp
  have e : mx 0 (wrap64 (((l ++ [g]).length : Int) - (W : Int))) = ((l.length + 1 - W : Nat) : Int) := by
    rw [hlen, wrap_id (by omega) (by omega)]
    unfold mx
    by_cases h : (0 : Int) < (l.length : Int) + 1 - (W : Int)
    · rw [if_pos h]; omega
    · rw [if_neg h]; omega
  rw [e]
  refine ev_pos (by omega) (ev_pos (by rw [hlen]; omega) (ev_bind_now rfl ?_))
  rw [Int.toNat_natCast]
  refine ev_bind (fails_ev (nxt W l g) (by omega)) (ev_some ?_)
  rw [show decide ((fl (nxt W l g) : Int) ≥ (F : Int)) = decide (F ≤ fl (nxt W l g)) from decide_eq_decide.2 (by omega)]
  rfl
end

/-- The judgements kept ahead of judgement i. -/
def win (W : Nat) (l : List Bool) (i : Nat) : List Bool := (l.take i).drop (i - W)
theorem win_zero (W : Nat) (l : List Bool) : win W l 0 = [] := by unfold win; simp
theorem win_length (W : Nat) (l : List Bool) (i : Nat) (hi : i ≤ l.length) : (win W l i).length = i - (i - W) := by
  unfold win; rw [List.length_drop, List.length_take]; omega
theorem take_snoc (l : List Bool) (i : Nat) (h : i < l.length) : l.take (i + 1) = l.take i ++ [l.getD i false] := by
  rw [List.take_add_one, List.getElem?_eq_getElem h, List.getD_eq_getElem?_getD, List.getElem?_eq_getElem h]; rfl
theorem win_app (W : Nat) (l : List Bool) (i : Nat) (h : i < l.length) : win W l i ++ [l.getD i false] = (l.take (i + 1)).drop (i - W) := by
  unfold win
  rw [take_snoc l i h, List.drop_append_of_le_length (by rw [List.length_take]; omega)]
theorem win_nxt (W : Nat) (l : List Bool) (i : Nat) (h : i < l.length) : nxt W (win W l i) (l.getD i false) = win W l (i + 1) := by
  unfold nxt
  rw [win_app W l i h, win_length W l i (by omega), List.drop_drop]
  unfold win
  congr 1
  omega

/-- A run, from judgement i with d left and the last good one g. -/
def runS (W F : Nat) (l : List Bool) : Nat → Nat → Int → Int × Int
  | 0, _, g => (-1, g)
  | d + 1, i, g => if F ≤ fl (win W l (i + 1)) then ((i : Int), g) else runS W F l d (i + 1) (if l.getD i false = true then (i : Int) else g)
/-- The last good judgement of those from i to e. -/
def LastT (l : List Bool) (i e : Nat) (g g' : Int) : Prop :=
  (g' = g ∧ ∀ m, i ≤ m → m < e → l.getD m false = false) ∨ ∃ j, i ≤ j ∧ j < e ∧ g' = (j : Int) ∧ l.getD j false = true ∧ ∀ m, j < m → m < e → l.getD m false = false
theorem runS_spec (W F : Nat) (l : List Bool) : ∀ (d i : Nat) (g : Int), ∃ e, i ≤ e ∧ e ≤ i + d ∧ LastT l i e g (runS W F l d i g).2 ∧
    (((runS W F l d i g).1 = -1 ∧ e = i + d) ∨ ((runS W F l d i g).1 = (e : Int) ∧ e < i + d ∧ F ≤ fl (win W l (e + 1)))) ∧ ∀ m, i ≤ m → m < e → fl (win W l (m + 1)) < F := by
  intro d
  induction d with
  | zero => intro i g; exact ⟨i, by omega, by omega, .inl ⟨rfl, fun m h1 h2 => by omega⟩, .inl ⟨rfl, rfl⟩, fun m h1 h2 => by omega⟩
  | succ d ih =>
    intro i g
    unfold runS
    by_cases h : F ≤ fl (win W l (i + 1))
    · rw [if_pos h]
      exact ⟨i, by omega, by omega, .inl ⟨rfl, fun m h1 h2 => by omega⟩, .inr ⟨rfl, by omega, h⟩, fun m h1 h2 => by omega⟩
    · rw [if_neg h]
      obtain ⟨e, h1, h2, h3, h4, h5⟩ := ih (i + 1) (if l.getD i false = true then (i : Int) else g)
      refine ⟨e, by omega, by omega, ?_, ?_, fun m a b => ?_⟩
      · rcases h3 with ⟨a, b⟩ | ⟨j, a, b, c, d, f⟩
        · by_cases hg : l.getD i false = true
          · rw [if_pos hg] at a ⊢
            exact .inr ⟨i, by omega, by omega, a, hg, fun m x y => b m (by omega) y⟩
          · rw [if_neg hg] at a ⊢
            refine .inl ⟨a, fun m x y => ?_⟩
            by_cases hm : m = i
            · subst hm; simpa using hg
            · exact b m (by omega) y
        · exact .inr ⟨j, by omega, b, c, d, f⟩
      · rcases h4 with ⟨a, b⟩ | ⟨a, b, c⟩
        · exact .inl ⟨a, by omega⟩
        · exact .inr ⟨a, by omega, c⟩
      · by_cases hm : m = i
        · subst hm; omega
        · exact h5 m (by omega) b
theorem run_loop {P T : Int} {W F : Nat} (hr : Rule P T W F) (l : List Bool) (hl : l.length ≤ 1000000) (d : Nat) : ∀ (i : Nat) (g : Int), i + d = l.length → fl (win W l i) < F →
    Ev (fun k => monitor_Run.l0 k g l (l.length : Int) (i : Int) P T W F (win W l i) false) ((runS W F l d i g).1, (runS W F l d i g).2, 0) := by
  induction d with
  | zero =>
    intro i g hi hf
    refine ev_step ?_ (fun k => by rw [monitor_Run.l0])
    exact ev_neg (by omega) (ev_some rfl)
  | succ d ih =>
    intro i g hi hf
    refine ev_step ?_ (fun k => by rw [monitor_Run.l0])
    have hs := step_live hr (win W l i) (by rw [win_length W l i (by omega)]; omega) hf (l.getD i false)
    rw [win_nxt W l i (by omega)] at hs
    rw [rdb, next_index i l.length (by omega) (by omega)]
    refine ev_pos (by omega) (ev_pos (by omega) (ev_pos (by omega) (ev_bind hs ?_)))
    unfold runS
    by_cases h : F ≤ fl (win W l (i + 1))
    · rw [if_pos h]
      exact ev_pos (decide_eq_true h) (ev_some rfl)
    · rw [if_neg h]
      refine ev_neg (by rw [decide_eq_true_eq]; exact h) ?_
      rw [decide_eq_false h]
      by_cases hg : l.getD i false = true
      · rw [if_pos hg]; exact ev_pos hg (ih (i + 1) i (by omega) (by omega))
      · rw [if_neg hg]; exact ev_neg hg (ih (i + 1) g (by omega) (by omega))
theorem run_ev {P T : Int} {W F : Nat} (hr : Rule P T W F) (l : List Bool) (hl : l.length ≤ 1000000) :
    Ev (fun k => monitor_Run.f k P T W F l) ((runS W F l l.length 0 (-1)).1, (runS W F l l.length 0 (-1)).2, 0) := by
  unfold monitor_Run.f
  refine ev_bind_now (check_eq hr) (ev_pos rfl ?_)
  have := run_loop hr l hl l.length 0 (-1) (by omega) (by rw [win_zero]; have := hr.2.2.2.2.1; simp [fl]; omega)
  rw [win_zero] at this
  exact this

end Go.Proofs.Ytdcfjmkeakkfjaa.Pure
