/- MonitorExact: for every tape, rule, marks, judgements and watch the law answers true. Conditions: those of the law's row. -/
import Derived.Test.YtdcfjmkeakkfjaaPrint4
import Derived.Test.YtdcfjmkeakkfjaaPrint1
import Derived.Test.YtdcfjmkeakkfjaaPrint2
import Derived.Test.YtdcfjmkeakkfjaaPrint3
import Derived.Test.YtdcfjmkeakkfjaaMon
namespace Go.Proofs.Ytdcfjmkeakkfjaa.Pure
open Go.RowKit Go.Proofs.Ytdcfjmkeakkfjaa.Print Go.Proofs.YtdcfjmkeakkfjaaW.PrintWords Go.Proofs.YtdcfjmkeakkfjaaW.PrintLast Go.Proofs.YtdcfjmkeakkfjaaW.PrintMore
set_option linter.unusedVariables false
set_option linter.unusedSectionVars false

/-! Check, for any rule. -/
def chk (P T W F : Int) : Int := if 0 ≤ P ∧ P ≤ 200 ∧ 0 ≤ T ∧ T ≤ 200 ∧ 1 ≤ W ∧ W ≤ 20 ∧ 1 ≤ F ∧ F ≤ W then 0 else 2
theorem chk_eq (P T W F : Int) : monitor_Check.f P T W F = some (chk P T W F) := by
  unfold monitor_Check.f chk
  rw [in_eq, in_eq, in_eq, in_eq]
  simp only [Option.bind_some, decide_eq_true_eq]
  (repeat' split) <;> first | rfl | (exfalso; omega)
theorem rchk_eq (P T W F : Int) : awardingbodyref27_Check.f P T W F = some (chk P T W F) := by
  unfold awardingbodyref27_Check.f chk
  (repeat' split) <;> first | rfl | (exfalso; omega)
theorem chk_rule {P T W F : Int} (h : chk P T W F = 0) : ∃ w f : Nat, W = w ∧ F = f ∧ Rule P T w f := by
  unfold chk at h
  split at h
  · rename_i h'
    exact ⟨W.toNat, F.toNat, by omega, by omega, by unfold Rule; omega⟩
  · omega

/-! Valid and Step, for any rule and watch. -/
theorem rfails_loop (l : List Bool) (hl : l.length ≤ 1000000) (d : Nat) : ∀ (i : Nat) (n : Int), i + d = l.length → 0 ≤ n → n + d ≤ 1000000000 → Ev (fun k => awardingbodyref27_fails.l0 k l n (i : Int)) (n + (fl (l.drop i) : Int)) := by
  induction d with
  | zero =>
    intro i n hi h0 hn
    refine ev_step ?_ (fun k => by rw [awardingbodyref27_fails.l0])
    rw [List.drop_of_length_le (by omega)]
    exact ev_neg (by omega) (ev_some (by simp [fl]))
  | succ d ih =>
    intro i n hi h0 hn
    refine ev_step ?_ (fun k => by rw [awardingbodyref27_fails.l0])
    rw [rdb, drop_cons_at l false i (by omega), fl_cons, next_index i l.length (by omega) (by omega)]
    refine ev_pos (by omega) (ev_pos (by omega) (ev_ite (fun h => ev_eq (ih (i + 1) n (by omega) h0 (by omega)) ?_) (fun h => ?_)))
    · rw [if_pos h]; omega
    · rw [wrap_id (x := n + 1) (by omega) (by omega), if_neg h]
      exact ev_eq (ih (i + 1) (n + 1) (by omega) (by omega) (by omega)) (by omega)
theorem rfails_ev (l : List Bool) (hl : l.length ≤ 1000000) : Ev (fun k => awardingbodyref27_fails.f k l) (fl l : Int) := by
  have := rfails_loop l hl l.length 0 0 (by omega) (by omega) (by omega)
  rw [List.drop_zero, Int.zero_add] at this
  exact this
section
variable (P T W F : Int)
def vldS (l : List Bool) (b : Bool) : Bool := if chk P T W F = 0 then (if (l.length : Int) ≤ W then (b == decide ((fl l : Int) ≥ F)) else false) else false
theorem valid_any (l : List Bool) (b : Bool) (hl : l.length ≤ 1000) : Ev (fun k => monitor_Valid.f k P T W F l b) (vldS P T W F l b) := by
  unfold monitor_Valid.f vldS
  rw [chk_eq]
  refine ev_bind_now rfl (ev_ite (fun h => ?_) (fun h => ev_some (by rw [if_neg h])))
  rw [if_pos h]
  refine ev_ite (fun h2 => ?_) (fun h2 => ev_some (by rw [if_neg h2]))
  rw [if_pos h2]
  exact ev_bind (fails_ev l (by omega)) (ev_some rfl)
theorem rvalid_any (l : List Bool) (b : Bool) (hl : l.length ≤ 1000) : Ev (fun k => awardingbodyref27_Valid.f k P T W F l b) (vldS P T W F l b) := by
  unfold awardingbodyref27_Valid.f vldS
  rw [rchk_eq]
  refine ev_bind_now rfl (ev_ite (fun h => ?_) (fun h => ev_some (by rw [if_neg h])))
  rw [if_pos h]
  refine ev_ite (fun h2 => ?_) (fun h2 => ev_some (by rw [if_neg h2]))
  rw [if_pos h2]
  exact ev_bind (rfails_ev l (by omega)) (ev_some rfl)
theorem vldS_true {l : List Bool} {b : Bool} (h : vldS P T W F l b = true) : chk P T W F = 0 ∧ (l.length : Int) ≤ W := by
  unfold vldS at h
  split at h
  · rename_i h1
    split at h
    · rename_i h2; exact ⟨h1, h2⟩
    · cases h
  · cases h
def stpS (l : List Bool) (b g : Bool) : List Bool × Bool × Int :=
  if vldS P T W F l b = true then (if b = true then ([], false, 8) else ((l ++ [g]).drop (l.length + 1 - W.toNat), decide ((fl ((l ++ [g]).drop (l.length + 1 - W.toNat)) : Int) ≥ F), 0)) else ([], false, 1)
theorem stpS_len (l : List Bool) (b g : Bool) : (stpS P T W F l b g).1.length ≤ l.length + 1 := by
  unfold stpS
  split
  · split
    · simp
    · simp
  · simp
theorem stpS_le (l : List Bool) (b g : Bool) (h : (stpS P T W F l b g).2.2 = 0) : (stpS P T W F l b g).1.length ≤ 20 := by
  unfold stpS at *
  by_cases hv : vldS P T W F l b = true
  · rw [if_pos hv] at *
    obtain ⟨w, f, rfl, rfl, hr⟩ := chk_rule (vldS_true P T W F hv).1
    have hl := (vldS_true P T w f hv).2
    have hw : w ≤ 20 := hr.2.2.2.2.2.2
    by_cases hb : b = true
    · rw [if_pos hb]; simp
    · rw [if_neg hb]
      simp only [List.length_drop, List.length_append, List.length_cons, List.length_nil, Int.toNat_natCast]
      omega
  · rw [if_neg hv] at h; simp at h
theorem step_any (l : List Bool) (b g : Bool) (hl : l.length ≤ 1000) : Ev (fun k => monitor_Step.f k P T W F l b g) (stpS P T W F l b g) := by
  unfold monitor_Step.f stpS
  refine ev_bind (valid_any P T W F l b hl) (ev_ite (fun hv => ?_) (fun hv => ev_some (by rw [if_neg hv])))
  rw [if_pos hv]
  refine ev_ite (fun hb => ev_some (by rw [if_pos hb])) (fun hb => ?_)
  rw [if_neg hb]
  obtain ⟨w, f, rfl, rfl, hr⟩ := chk_rule (vldS_true P T W F hv).1
  have hw : w ≤ 20 := hr.2.2.2.2.2.2
  refine ev_bind_now (clone_ev hr l (by omega)) (ev_pos (by omega) (ev_bind_now rfl ?_))
  have hlen : ((l ++ [g]).length : Int) = (l.length : Int) + 1 := by simp
  have e : mx 0 (wrap64 (((l ++ [g]).length : Int) - (w : Int))) = ((l.length + 1 - w : Nat) : Int) := by
    rw [hlen, wrap_id (by omega) (by omega)]
    unfold mx
    by_cases h : (0 : Int) < (l.length : Int) + 1 - (w : Int)
    · rw [if_pos h]; omega
    · rw [if_neg h]; omega
  rw [e]
  refine ev_pos (by omega) (ev_pos (by rw [hlen]; omega) (ev_bind_now rfl ?_))
  rw [Int.toNat_natCast, Int.toNat_natCast]
  exact ev_bind (fails_ev _ (by rw [List.length_drop, List.length_append, List.length_singleton]; omega)) (ev_some rfl)
theorem rstep_any (l : List Bool) (b g : Bool) (hl : l.length ≤ 1000) : Ev (fun k => awardingbodyref27_Step.f k P T W F l b g) (stpS P T W F l b g) := by
  unfold awardingbodyref27_Step.f stpS
  refine ev_bind (rvalid_any P T W F l b hl) (ev_ite (fun hv => ?_) (fun hv => ev_some (by rw [if_neg hv])))
  rw [if_pos hv]
  refine ev_ite (fun hb => ev_some (by rw [if_pos hb])) (fun hb => ?_)
  rw [if_neg hb]
  obtain ⟨w, f, rfl, rfl, hr⟩ := chk_rule (vldS_true P T W F hv).1
  have hw : w ≤ 20 := hr.2.2.2.2.2.2
  have hlw := (vldS_true P T w f hv).2
  have hlen : (l ++ [g]).length = l.length + 1 := by simp
  refine ev_pos (by simp only [List.length_nil]; omega) (ev_bind_now rfl ?_)
  rw [List.nil_append]
  refine ev_pos (by omega) (ev_bind_now rfl ?_)
  rw [Int.toNat_natCast]
  refine ev_ite (fun h => ev_pos (by rw [hlen]; omega) (ev_bind_now rfl ?_)) (fun h => ?_)
  · have e : l.length + 1 - w = (1 : Int).toNat := by rw [hlen] at h; show _ = 1; omega
    rw [e]
    exact ev_bind (rfails_ev _ (by rw [List.length_drop, hlen]; omega)) (ev_some rfl)
  · have e : l.length + 1 - w = 0 := by rw [hlen] at h; omega
    rw [e, List.drop_zero]
    exact ev_bind (rfails_ev _ (by rw [hlen]; omega)) (ev_some rfl)

/-! Run, for any rule. -/
theorem run_both (l : List Bool) (hl : l.length ≤ 100) (d : Nat) : ∀ (i : Nat) (g : Int) (z : List Bool) (b : Bool), i + d = l.length → z.length ≤ i →
    ∃ r, Ev (fun k => monitor_Run.l0 k g l (l.length : Int) (i : Int) P T W F z b) r ∧ Ev (fun k => awardingbodyref27_Run.l0 k l g (i : Int) P T W F z b) r := by
  induction d with
  | zero =>
    intro i g z b hi hz
    refine ⟨(-1, g, 0), ev_step ?_ (fun k => by rw [monitor_Run.l0]), ev_step ?_ (fun k => by rw [awardingbodyref27_Run.l0])⟩
    · exact ev_neg (by omega) (ev_some rfl)
    · exact ev_neg (by omega) (ev_some rfl)
  | succ d ih =>
    intro i g z b hi hz
    have s1 := step_any P T W F z b (l.getD i false) (by omega)
    have s2 := rstep_any P T W F z b (l.getD i false) (by omega)
    have hn := stpS_len P T W F z b (l.getD i false)
    by_cases hs : (stpS P T W F z b (l.getD i false)).2.1 = true
    · refine ⟨((i : Int), g, 0), ev_step ?_ (fun k => by rw [monitor_Run.l0]), ev_step ?_ (fun k => by rw [awardingbodyref27_Run.l0])⟩
      · rw [rdb]
        exact ev_pos (by omega) (ev_pos (by omega) (ev_pos (by omega) (ev_bind s1 (ev_pos hs (ev_some rfl)))))
      · rw [rdb]
        exact ev_pos (by omega) (ev_pos (by omega) (ev_bind s2 (ev_pos hs (ev_some rfl))))
    · by_cases hg : l.getD i false = true
      · obtain ⟨r, h1, h2⟩ := ih (i + 1) i (stpS P T W F z b (l.getD i false)).1 (stpS P T W F z b (l.getD i false)).2.1 (by omega) (by omega)
        refine ⟨r, ev_step ?_ (fun k => by rw [monitor_Run.l0]), ev_step ?_ (fun k => by rw [awardingbodyref27_Run.l0])⟩
        · rw [rdb, next_index i l.length (by omega) (by omega)]
          exact ev_pos (by omega) (ev_pos (by omega) (ev_pos (by omega) (ev_bind s1 (ev_neg hs (ev_pos hg h1)))))
        · rw [rdb, next_index i l.length (by omega) (by omega)]
          exact ev_pos (by omega) (ev_pos (by omega) (ev_bind s2 (ev_neg hs (ev_pos hg h2))))
      · obtain ⟨r, h1, h2⟩ := ih (i + 1) g (stpS P T W F z b (l.getD i false)).1 (stpS P T W F z b (l.getD i false)).2.1 (by omega) (by omega)
        refine ⟨r, ev_step ?_ (fun k => by rw [monitor_Run.l0]), ev_step ?_ (fun k => by rw [awardingbodyref27_Run.l0])⟩
        · rw [rdb, next_index i l.length (by omega) (by omega)]
          exact ev_pos (by omega) (ev_pos (by omega) (ev_pos (by omega) (ev_bind s1 (ev_neg hs (ev_neg hg h1)))))
        · rw [rdb, next_index i l.length (by omega) (by omega)]
          exact ev_pos (by omega) (ev_pos (by omega) (ev_bind s2 (ev_neg hs (ev_neg hg h2))))
theorem run_same (l : List Bool) (hl : l.length ≤ 100) : ∃ r, Ev (fun k => monitor_Run.f k P T W F l) r ∧ Ev (fun k => awardingbodyref27_Run.f k P T W F l) r := by
  unfold monitor_Run.f awardingbodyref27_Run.f
  rw [chk_eq, rchk_eq]
  by_cases h : chk P T W F = 0
  · obtain ⟨r, h1, h2⟩ := run_both P T W F l hl l.length 0 (-1) [] false (by omega) (by simp)
    exact ⟨r, ev_bind_now rfl (ev_pos h h1), ev_bind_now rfl (ev_pos h h2)⟩
  · exact ⟨(0, 0, chk P T W F), ev_bind_now rfl (ev_neg h (ev_some rfl)), ev_bind_now rfl (ev_neg h (ev_some rfl))⟩

/-! Good, for any rule and marks. -/
theorem rdi (l : List Int) (i : Nat) : rd l (i : Int) = l.getD i 0 := by unfold rd; rw [Int.toNat_natCast]
/-- The marks one by one, s the sum of the differences so far. -/
def goodS : List Int → List Int → Int → Bool
  | x :: a, y :: b, s => if x > 200 ∨ y > 200 then false else if mx (mx x 0 - mx y 0) (mx y 0 - mx x 0) > P then false else goodS a b (s + (mx x 0 - mx y 0))
  | _, _, s => decide (mx s (-s) ≤ T)
theorem goodS_bad : ∀ (a b : List Int) (s : Int), a.length = b.length → ((∃ x ∈ a, x > 200) ∨ ∃ y ∈ b, y > 200) → goodS P T a b s = false
  | [], [], s, _, h => by simp at h
  | [], _ :: _, s, h, _ => by simp at h
  | _ :: _, [], s, h, _ => by simp at h
  | x :: a, y :: b, s, hl, h => by
    rw [goodS]
    by_cases hx : x > 200 ∨ y > 200
    · rw [if_pos hx]
    · rw [if_neg hx]
      split
      · rfl
      · refine goodS_bad a b _ (by simpa using hl) ?_
        rcases h with ⟨u, hu, hu2⟩ | ⟨u, hu, hu2⟩
        · rcases List.mem_cons.1 hu with rfl | hu
          · exact absurd (.inl hu2) hx
          · exact .inl ⟨u, hu, hu2⟩
        · rcases List.mem_cons.1 hu with rfl | hu
          · exact absurd (.inr hu2) hx
          · exact .inr ⟨u, hu, hu2⟩
def goodR (a b : List Int) : Bool := if chk P T W F = 0 ∧ a.length = b.length ∧ a.length ≤ 24 then goodS P T a b 0 else false
theorem mx0 (x : Int) (h : x ≤ 200) : 0 ≤ mx x 0 ∧ mx x 0 ≤ 200 := by unfold mx; split <;> omega
theorem far_eq (a b : Int) (h1 : -1000000 ≤ a) (h2 : a ≤ 1000000) (h3 : -1000000 ≤ b) (h4 : b ≤ 1000000) : monitor_far.f a b = some (mx (a - b) (b - a)) := by
  unfold monitor_far.f
  rw [wrap_id (x := a - b) (by omega) (by omega), wrap_id (x := b - a) (by omega) (by omega)]
theorem size_eq (a : Int) (h1 : -1000000 ≤ a) (h2 : a ≤ 1000000) : awardingbodyref27_size.f a = some (mx a (-a)) := by
  unfold awardingbodyref27_size.f mx
  split
  · rw [wrap_id (by omega) (by omega)]; split <;> first | rfl | (exfalso; omega)
  · split
    · congr 1; omega
    · rfl
theorem good_loop (A B : List Int) (hA : A.length ≤ 24) (hl : A.length = B.length) (ha : ∀ x ∈ A, x ≤ 200) (hb : ∀ x ∈ B, x ≤ 200) (d : Nat) : ∀ (i : Nat) (a b : Int), i + d = A.length → 0 ≤ a → a ≤ 200 * i → 0 ≤ b → b ≤ 200 * i →
    Ev (fun k => monitor_Good.l0 k A B a b (B.length : Int) (i : Int) P T W F) (goodS P T (A.drop i) (B.drop i) (a - b)) := by
  induction d with
  | zero =>
    intro i a b hi ha1 ha2 hb1 hb2
    refine ev_step ?_ (fun k => by rw [monitor_Good.l0])
    rw [List.drop_of_length_le (show A.length ≤ i by omega), far_eq a b (by omega) (by omega) (by omega) (by omega)]
    refine ev_neg (by omega) (ev_bind_now rfl (ev_some ?_))
    rw [goodS, show -(a - b) = b - a by omega]
    intro x a' y b' h
    cases h
  | succ d ih =>
    intro i a b hi ha1 ha2 hb1 hb2
    have x2 := ha _ (show A.getD i 0 ∈ A by rw [List.getD_eq_getElem?_getD, List.getElem?_eq_getElem (by omega)]; exact List.getElem_mem _)
    have y2 := hb _ (show B.getD i 0 ∈ B by rw [List.getD_eq_getElem?_getD, List.getElem?_eq_getElem (by omega)]; exact List.getElem_mem _)
    obtain ⟨x3, x4⟩ := mx0 _ x2
    obtain ⟨y3, y4⟩ := mx0 _ y2
    refine ev_step ?_ (fun k => by rw [monitor_Good.l0])
    rw [rdi, rdi, drop_cons_at A 0 i (by omega), drop_cons_at B 0 i (by omega), goodS, if_neg (by omega), far_eq _ _ (by omega) (by omega) (by omega) (by omega),
      next_index i A.length (by omega) (by omega), wrap_id (x := a + mx (A.getD i 0) 0) (by omega) (by omega), wrap_id (x := b + mx (B.getD i 0) 0) (by omega) (by omega)]
    refine ev_pos (by omega) (ev_pos (by omega) (ev_pos (by omega) (ev_pos (by omega) (ev_bind_now rfl (ev_ite (fun h => ev_some (by rw [if_pos h])) (fun h => ?_))))))
    rw [if_neg h, show a - b + (mx (A.getD i 0) 0 - mx (B.getD i 0) 0) = a + mx (A.getD i 0) 0 - (b + mx (B.getD i 0) 0) by omega]
    exact ih (i + 1) _ _ (by omega) (by omega) (by omega) (by omega) (by omega)
theorem rgood_loop (A B : List Int) (hA : A.length ≤ 24) (hl : A.length = B.length) (d : Nat) : ∀ (i : Nat) (s : Int), i + d = A.length → -(200 * i) ≤ s → s ≤ 200 * i →
    Ev (fun k => awardingbodyref27_Good.l0 k A B s (i : Int) P T W F) (goodS P T (A.drop i) (B.drop i) s) := by
  induction d with
  | zero =>
    intro i s hi h1 h2
    refine ev_step ?_ (fun k => by rw [awardingbodyref27_Good.l0])
    rw [List.drop_of_length_le (show A.length ≤ i by omega), size_eq s (by omega) (by omega)]
    refine ev_neg (by omega) (ev_bind_now rfl (ev_some ?_))
    rw [goodS]
    intro x a' y b' h
    cases h
  | succ d ih =>
    intro i s hi h1 h2
    refine ev_step ?_ (fun k => by rw [awardingbodyref27_Good.l0])
    rw [rdi, rdi, drop_cons_at A 0 i (by omega), drop_cons_at B 0 i (by omega), goodS]
    have no : ∀ q : Bool, q = true → (A.getD i 0 > 200 ∨ B.getD i 0 > 200) → Ev (fun k => awardingbodyref27_Good.j2 k A B s (i : Int) q P T W F) (if A.getD i 0 > 200 ∨ B.getD i 0 > 200 then false else if mx (mx (A.getD i 0) 0 - mx (B.getD i 0) 0) (mx (B.getD i 0) 0 - mx (A.getD i 0) 0) > P then false else goodS P T (A.drop (i + 1)) (B.drop (i + 1)) (s + (mx (A.getD i 0) 0 - mx (B.getD i 0) 0))) := by
      intro q hq hor
      refine ev_step ?_ (fun k => by rw [awardingbodyref27_Good.j2])
      exact ev_pos hq (ev_some (by rw [if_pos hor]))
    refine ev_pos (by omega) (ev_pos (by omega) (ev_ite (fun h => no _ rfl (.inl h)) (fun h => ev_pos (by omega) ?_)))
    by_cases hy : B.getD i 0 > 200
    · exact no _ (decide_eq_true hy) (.inr hy)
    · obtain ⟨x3, x4⟩ := mx0 (A.getD i 0) (by omega)
      obtain ⟨y3, y4⟩ := mx0 (B.getD i 0) (by omega)
      rw [if_neg (by omega)]
      refine ev_step ?_ (fun k => by rw [awardingbodyref27_Good.j2])
      rw [rdi, rdi, wrap_id (x := mx (A.getD i 0) 0 - mx (B.getD i 0) 0) (by omega) (by omega), size_eq _ (by omega) (by omega), next_index i A.length (by omega) (by omega), wrap_id (x := s + (mx (A.getD i 0) 0 - mx (B.getD i 0) 0)) (by omega) (by omega),
        show -(mx (A.getD i 0) 0 - mx (B.getD i 0) 0) = mx (B.getD i 0) 0 - mx (A.getD i 0) 0 by omega]
      refine ev_neg (by rw [decide_eq_true_eq]; exact hy) (ev_pos (by omega) (ev_pos (by omega) (ev_pos (by omega) (ev_bind_now rfl (ev_ite (fun h => ev_some (by rw [if_pos h])) (fun h => ?_))))))
      rw [if_neg h]
      exact ih (i + 1) _ (by omega) (by omega) (by omega)
theorem max_any (L : List Int) (hL : L.length ≤ 1000) (d : Nat) : ∀ (i : Nat) (v : Int), i + d = L.length → ∃ r, Ev (fun k => slices_Max_int_int.l0 k L v (i : Int)) r ∧ (r > 200 ↔ v > 200 ∨ ∃ x ∈ L.drop i, x > 200) := by
  induction d with
  | zero =>
    intro i v hi
    refine ⟨v, ev_step ?_ (fun k => by rw [slices_Max_int_int.l0]), ?_⟩
    · exact ev_neg (by omega) (ev_some rfl)
    · rw [List.drop_of_length_le (by omega)]; simp
  | succ d ih =>
    intro i v hi
    obtain ⟨r, he, hr⟩ := ih (i + 1) (mx v (L.getD i 0)) (by omega)
    refine ⟨r, ev_step ?_ (fun k => by rw [slices_Max_int_int.l0]), ?_⟩
    · rw [rdi, next_index i L.length (by omega) (by omega)]
      exact ev_pos (by omega) (ev_pos (by omega) he)
    · rw [hr, drop_cons_at L 0 i (by omega)]
      have e : mx v (L.getD i 0) > 200 ↔ v > 200 ∨ L.getD i 0 > 200 := by unfold mx; split <;> omega
      rw [e]
      constructor
      · rintro ((h | h) | ⟨x, hx, h⟩)
        · exact .inl h
        · exact .inr ⟨_, List.mem_cons_self .., h⟩
        · exact .inr ⟨x, List.mem_cons_of_mem _ hx, h⟩
      · rintro (h | ⟨x, hx, h⟩)
        · exact .inl (.inl h)
        · rcases List.mem_cons.1 hx with rfl | hx
          · exact .inl (.inr h)
          · exact .inr ⟨x, hx, h⟩
theorem wrong_any (X : List Int) (hX : X.length ≤ 100) : ∃ b, Ev (fun k => monitor_wrong.f k X) b ∧ (b = true ↔ X.length > 24 ∨ ∃ x ∈ X, x > 200) := by
  unfold monitor_wrong.f
  by_cases h : (X.length : Int) > 24
  · exact ⟨true, ev_pos h (ev_some rfl), ⟨fun _ => .inl (by omega), fun _ => rfl⟩⟩
  · have hlen : ([0] ++ X).length = X.length + 1 := by simp
    obtain ⟨r, he, hr⟩ := max_any ([0] ++ X) (by omega) X.length 1 0 (by omega)
    have hf : Ev (fun k => slices_Max_int_int.f k ([0] ++ X)) r := by
      unfold slices_Max_int_int.f
      refine ev_neg (by omega) (ev_pos (by omega) ?_)
      have e0 : rd ([0] ++ X) 0 = 0 := rfl
      rw [e0]
      exact he
    refine ⟨decide (r > 200), ev_neg h (ev_bind_now rfl (ev_pos (by simp only [List.length_cons, List.length_nil]; omega) (ev_bind hf (ev_some rfl)))), ?_⟩
    rw [decide_eq_true_eq, hr]
    constructor
    · rintro (h1 | ⟨x, hx, h1⟩)
      · omega
      · exact .inr ⟨x, by simpa using hx, h1⟩
    · rintro (h1 | ⟨x, hx, h1⟩)
      · omega
      · exact .inr ⟨x, by simpa using hx, h1⟩
theorem good_any (A B : List Int) (hA : A.length ≤ 100) (hB : B.length ≤ 100) : Ev (fun k => monitor_Good.f k P T W F A B) (goodR P T W F A B) := by
  have no : ∀ q : Bool, q = true → goodR P T W F A B = false → Ev (fun k => monitor_Good.j0 k A B q P T W F) (goodR P T W F A B) := by
    intro q hq h
    refine ev_step ?_ (fun k => by rw [monitor_Good.j0])
    exact ev_pos hq (ev_some h.symm)
  have bad : (A.length > 24 ∨ ∃ x ∈ A, x > 200) ∨ (B.length > 24 ∨ ∃ x ∈ B, x > 200) → goodR P T W F A B = false := by
    intro h
    unfold goodR
    split
    · rename_i hc
      refine goodS_bad P T A B 0 hc.2.1 ?_
      rcases h with (h | h) | (h | h)
      · omega
      · exact .inl h
      · omega
      · exact .inr h
    · rfl
  obtain ⟨u, hu, iu⟩ := wrong_any A hA
  obtain ⟨v, hv, iv⟩ := wrong_any B hB
  unfold monitor_Good.f
  rw [chk_eq]
  refine ev_bind_now rfl (ev_ite (fun h => ?_) (fun h => no _ rfl (by unfold goodR; rw [if_neg (fun hc => h hc.1)])))
  refine ev_bind hu (ev_ite (fun h1 => no _ rfl (bad (.inl (iu.1 h1)))) (fun h1 => ev_bind hv (ev_ite (fun h2 => no _ rfl (bad (.inr (iv.1 h2)))) (fun h2 => ?_))))
  have h1' : ¬ (A.length > 24 ∨ ∃ x ∈ A, x > 200) := fun hc => h1 (iu.2 hc)
  have h2' : ¬ (B.length > 24 ∨ ∃ x ∈ B, x > 200) := fun hc => h2 (iv.2 hc)
  by_cases hl : A.length = B.length
  · refine ev_step ?_ (fun k => by rw [monitor_Good.j0])
    refine ev_neg (by simp [hl]) ?_
    have h24 : A.length ≤ 24 := by
      rcases Nat.lt_or_ge 24 A.length with hc | hc
      · exact absurd (.inl hc) h1'
      · exact hc
    have := good_loop P T W F A B h24 hl (fun x hx => by
      rcases Int.lt_or_le 200 x with hc | hc
      · exact absurd (.inr ⟨x, hx, hc⟩) h1'
      · exact hc) (fun x hx => by
      rcases Int.lt_or_le 200 x with hc | hc
      · exact absurd (.inr ⟨x, hx, hc⟩) h2'
      · exact hc) A.length 0 0 0 (by omega) (by omega) (by omega) (by omega) (by omega)
    have e : goodR P T W F A B = goodS P T A B 0 := by unfold goodR; rw [if_pos ⟨h, hl, h24⟩]
    rw [e]
    exact this
  · exact no _ (by simp; omega) (by unfold goodR; rw [if_neg (fun hc => hl hc.2.1)])
theorem rgood_any (A B : List Int) : Ev (fun k => awardingbodyref27_Good.f k P T W F A B) (goodR P T W F A B) := by
  have no : ∀ q : Bool, q = true → goodR P T W F A B = false → Ev (fun k => awardingbodyref27_Good.j0 k A B q P T W F) (goodR P T W F A B) := by
    intro q hq h
    refine ev_step ?_ (fun k => by rw [awardingbodyref27_Good.j0])
    exact ev_pos hq (ev_some h.symm)
  unfold awardingbodyref27_Good.f
  rw [rchk_eq]
  refine ev_bind_now rfl (ev_ite (fun h => ?_) (fun h => no _ rfl (by unfold goodR; rw [if_neg (fun hc => h hc.1)])))
  refine ev_ite (fun hl => ?_) (fun hl => no _ rfl (by unfold goodR; rw [if_neg (fun hc => hl (by omega))]))
  have hl : A.length = B.length := by omega
  by_cases h24 : (A.length : Int) > 24
  · exact no _ (decide_eq_true h24) (by unfold goodR; rw [if_neg (fun hc => by omega)])
  · refine ev_step ?_ (fun k => by rw [awardingbodyref27_Good.j0])
    refine ev_neg (by rw [decide_eq_true_eq]; exact h24) ?_
    have := rgood_loop P T W F A B (by omega) hl A.length 0 0 (by omega) (by omega) (by omega)
    have e : goodR P T W F A B = goodS P T A B 0 := by unfold goodR; rw [if_pos ⟨h, hl, by omega⟩]
    rw [e]
    exact this
end

/-! same; the dice. -/
theorem same_loop (l : List Bool) (hl : l.length ≤ 1000) (b : Bool) (d : Nat) : ∀ i : Nat, i + d = l.length → Ev (fun k => awardingbodylaw27_same.l0 k (l.length : Int) (i : Int) l b l b) true := by
  induction d with
  | zero =>
    intro i hi
    refine ev_step ?_ (fun k => by rw [awardingbodylaw27_same.l0])
    exact ev_neg (by omega) (ev_some rfl)
  | succ d ih =>
    intro i hi
    refine ev_step ?_ (fun k => by rw [awardingbodylaw27_same.l0])
    rw [next_index i l.length (by omega) (by omega)]
    exact ev_pos (by omega) (ev_pos (by omega) (ev_pos (by omega) (ev_pos (by omega) (ev_neg (by simp) (ih (i + 1) (by omega))))))
theorem same_self (l : List Bool) (hl : l.length ≤ 1000) (b : Bool) : Ev (fun k => awardingbodylaw27_same.f k l b l b) true := by
  unfold awardingbodylaw27_same.f
  refine ev_neg (by simp) ?_
  refine ev_step ?_ (fun k => by rw [awardingbodylaw27_same.j0])
  exact ev_neg (by simp) (same_loop l hl b l.length 0 (Nat.zero_add _))
theorem pick_ok {L : List Int} {p : Int} (h : DP L p) (l : List Int) (h1 : 1 ≤ l.length) (h2 : l.length ≤ 1000) : ∃ v q, Ev (fun k => awardingbodymark_Dice_Pick.f k L p l) (v, q) ∧ DP L q := by
  obtain ⟨v, q, h3, hq, h4, h5⟩ := dice_ok h (l.length : Int) (by omega) (by omega)
  refine ⟨rd l v, q, ?_, hq⟩
  unfold awardingbodymark_Dice_Pick.f
  exact ev_bind h3 (ev_pos h4 (ev_pos h5 (ev_some rfl)))
theorem bool_ok {L : List Int} {p : Int} (h : DP L p) : ∃ v q, Ev (fun k => awardingbodymark_Dice_Bool.f k L p 2) (v, q) ∧ DP L q := by
  obtain ⟨v, q, h3, hq, h4, h5⟩ := dice_ok h 2 (by omega) (by omega)
  refine ⟨v == wrap64 (2 - 1), q, ?_, hq⟩
  unfold awardingbodymark_Dice_Bool.f
  exact ev_bind h3 (ev_some rfl)

section
variable (a b x y : List Int) (l : List Bool) (ha : a.length ≤ 40) (hb : b.length ≤ 40) (hx : x.length ≤ 40) (hy : y.length ≤ 40) (hl : l.length ≤ 100) (wl : List Bool) (hw : wl.length ≤ 40) (ws : Bool) (L : List Int)
  (r0 r1 r2 r3 r4 r5 r6 r7 r8 r9 r10 r11 : Int)
include ha hb hx hy hl hw
/-- Six draws and steps of one rule. -/
theorem exact_l1 (P T W F : Int) (c : Int) (next : ∀ q, DP L q → Ev (fun k => awardingbodylaw27_MonitorExact.l0 k a b l x y (wrap64 (c + 1)) wl ws L q r0 r1 r2 r3 r4 r5 r6 r7 r8 r9 r10 r11) true) (d : Nat) :
    ∀ (i : Nat) (p : Int) (z : List Bool) (zs : Bool), i + d = 6 → DP L p → z.length ≤ 40 → Ev (fun k => awardingbodylaw27_MonitorExact.l1 k a b l x y (i : Int) c wl ws L p r0 r1 r2 r3 r4 r5 r6 r7 r8 r9 r10 r11 P T W F z zs) true := by
  induction d with
  | zero =>
    intro i p z zs hi hp hz
    refine ev_step ?_ (fun k => by rw [awardingbodylaw27_MonitorExact.l1])
    exact ev_neg (by omega) (next p hp)
  | succ d ih =>
    intro i p z zs hi hp hz
    obtain ⟨g, q, hg, hq⟩ := bool_ok hp
    have s1 := stpS_len P T W F z zs g
    have s2 := stpS_len P T W F wl ws g
    have s3 := stpS_le P T W F z zs g
    refine ev_step ?_ (fun k => by rw [awardingbodylaw27_MonitorExact.l1])
    refine ev_pos (by omega) (ev_bind hg (ev_bind (step_any P T W F z zs g (by omega)) (ev_bind (rstep_any P T W F z zs g (by omega)) (ev_bind (same_self _ (by omega) _) (ev_pos rfl ?_)))))
    refine ev_step ?_ (fun k => by rw [awardingbodylaw27_MonitorExact.j6])
    refine ev_neg (by simp) (ev_bind (step_any P T W F wl ws g (by omega)) (ev_bind (rstep_any P T W F wl ws g (by omega)) (ev_bind (same_self _ (by omega) _) (ev_pos rfl ?_))))
    refine ev_step ?_ (fun k => by rw [awardingbodylaw27_MonitorExact.j7])
    rw [next_index i 6 (by omega) (by omega)]
    exact ev_neg (by simp) (ev_bind (rstep_any P T W F z zs g (by omega)) (ev_ite (fun h => ih (i + 1) q _ _ (by omega) hq (by have := s3 h; omega)) (fun h => ih (i + 1) q _ _ (by omega) hq hz)))
/-- One rule. -/
theorem exact_rule (P T W F : Int) (c : Int) (p : Int) (hp : DP L p) (next : ∀ q, DP L q → Ev (fun k => awardingbodylaw27_MonitorExact.l0 k a b l x y (wrap64 (c + 1)) wl ws L q r0 r1 r2 r3 r4 r5 r6 r7 r8 r9 r10 r11) true) :
    Ev (fun k => (monitor_Check.f P T W F).bind fun t295 => ((awardingbodyref27_Check.f P T W F).bind fun t296 => (if t295 = t296 then ((monitor_Good.f k P T W F a b).bind fun t297 => ((awardingbodyref27_Good.f k P T W F a b).bind fun t298 => (if (t297 != t298) = true then (none) else ((monitor_Good.f k P T W F x y).bind fun t299 => ((awardingbodyref27_Good.f k P T W F x y).bind fun t300 => (if (t299 != t300) = true then (none) else ((monitor_Good.f k P T W F a a).bind fun t301 => ((awardingbodyref27_Good.f k P T W F a a).bind fun t302 => (if (t301 != t302) = true then (none) else ((monitor_Valid.f k P T W F wl ws).bind fun t303 => ((awardingbodyref27_Valid.f k P T W F wl ws).bind fun t304 => (awardingbodylaw27_MonitorExact.j3 k a b l x y c (t303 != t304) wl ws L p r0 r1 r2 r3 r4 r5 r6 r7 r8 r9 r10 r11 P T W F)))))))))))) else (none)))) true := by
  obtain ⟨R, hR1, hR2⟩ := run_same P T W F l hl
  refine ev_bind_now (chk_eq P T W F) (ev_bind_now (rchk_eq P T W F) (ev_pos rfl (ev_bind (good_any P T W F a b (by omega) (by omega)) (ev_bind (rgood_any P T W F a b) (ev_neg (by simp) ?_)))))
  refine ev_bind (good_any P T W F x y (by omega) (by omega)) (ev_bind (rgood_any P T W F x y) (ev_neg (by simp) ?_))
  refine ev_bind (good_any P T W F a a (by omega) (by omega)) (ev_bind (rgood_any P T W F a a) (ev_neg (by simp) ?_))
  refine ev_bind (valid_any P T W F wl ws (by omega)) (ev_bind (rvalid_any P T W F wl ws (by omega)) ?_)
  refine ev_step ?_ (fun k => by rw [awardingbodylaw27_MonitorExact.j3])
  refine ev_neg (by simp) (ev_bind hR1 (ev_bind hR2 (ev_pos rfl (ev_pos rfl ?_))))
  refine ev_step ?_ (fun k => by rw [awardingbodylaw27_MonitorExact.j4])
  refine ev_neg (by simp) ?_
  exact exact_l1 a b x y l ha hb hx hy hl wl hw ws L r0 r1 r2 r3 r4 r5 r6 r7 r8 r9 r10 r11 P T W F c next 6 0 p [] false (by omega) hp (by simp)
theorem exact_l0 (d : Nat) : ∀ (i : Nat) (p : Int), i + d = 3 → DP L p → Ev (fun k => awardingbodylaw27_MonitorExact.l0 k a b l x y (i : Int) wl ws L p r0 r1 r2 r3 r4 r5 r6 r7 r8 r9 r10 r11) true := by
  induction d with
  | zero =>
    intro i p hi hp
    refine ev_step ?_ (fun k => by rw [awardingbodylaw27_MonitorExact.l0])
    exact ev_neg (by omega) (ev_bind sane_ev (ev_some rfl))
  | succ d ih =>
    intro i p hi hp
    refine ev_step ?_ (fun k => by rw [awardingbodylaw27_MonitorExact.l0])
    refine ev_pos (by omega) (ev_pos (by omega) ?_)
    exact exact_rule a b x y l ha hb hx hy hl wl hw ws L r0 r1 r2 r3 r4 r5 r6 r7 r8 r9 r10 r11 _ _ _ _ (i : Int) p hp (fun q hq => by
      rw [next_index i 3 (by omega) (by omega)]
      exact ih (i + 1) q (by omega) hq)
end

/-- The law, whatever its arguments. -/
theorem MonitorExact (t : List Int) (r8 r9 r10 r11 : Int) (a b : List Int) (l : List Bool) (wl : List Bool) (ws : Bool) : ∃ k, awardingbodylaw27_MonitorExact.f k t r8 r9 r10 r11 a b l wl ws = some true := by
  refine Ev.rounds (g := fun k => awardingbodylaw27_MonitorExact.f k t r8 r9 r10 r11 a b l wl ws) ?_
  unfold awardingbodylaw27_MonitorExact.f
  have skip : ∀ z, z = true → Ev (fun k => awardingbodylaw27_MonitorExact.j0 k t a b l z r8 r9 r10 r11 wl ws) true := by
    intro z hz
    refine ev_step ?_ (fun k => by rw [awardingbodylaw27_MonitorExact.j0])
    exact ev_pos hz (ev_bind sane_ev (ev_some rfl))
  refine ev_bind_now rfl (ev_ite (fun h => ev_ite (fun _ => skip _ rfl) (fun ha => ev_ite (fun _ => skip _ rfl) (fun hb => ev_ite (fun _ => skip _ rfl) (fun hl => ?_)))) (fun h => skip _ rfl))
  rw [decide_eq_true_eq] at h
  by_cases hw : (wl.length : Int) > 40
  · exact skip _ (decide_eq_true hw)
  · rw [decide_eq_false hw]
    obtain ⟨P, T, W, F, q, hm, hq, hr⟩ := rule_ok (L := t) (p := 0) ⟨by omega, by omega, by omega⟩
    obtain ⟨v, q2, h2, hq2, hv1, hv2⟩ := dice_ok hq 4 (by omega) (by omega)
    have tail : ∀ (p : Int) (s0 s1 s2 s3 : Int), DP t p → Ev (fun k => awardingbodylaw27_MonitorExact.j1 k a b l r8 r9 r10 r11 wl ws t p P T (W : Int) (F : Int) s0 s1 s2 s3) true := by
      intro p s0 s1 s2 s3 hp
      obtain ⟨v1, p1, e1, hp1, _, _⟩ := dice_ok hp 5 (by omega) (by omega)
      obtain ⟨v2, p2, e2, hp2, _, _⟩ := dice_ok hp1 5 (by omega) (by omega)
      obtain ⟨v3, p3, e3, hp3, _, _⟩ := dice_ok hp2 5 (by omega) (by omega)
      obtain ⟨v4, p4, e4, hp4, _, _⟩ := dice_ok hp3 5 (by omega) (by omega)
      refine ev_step ?_ (fun k => by rw [awardingbodylaw27_MonitorExact.j1])
      refine ev_bind e1 (ev_bind e2 (ev_bind e3 (ev_bind e4 ?_)))
      exact exact_l0 a b _ _ l (by omega) (by omega) (by simp) (by simp) (by omega) wl (by omega) ws t P T (W : Int) (F : Int) s0 s1 s2 s3 r8 r9 r10 r11 3 0 p4 (by omega) hp4
    refine ev_step ?_ (fun k => by rw [awardingbodylaw27_MonitorExact.j0])
    refine ev_neg (by decide) (ev_bind_now rfl (ev_bind hm (ev_bind h2 (ev_ite (fun _ => ?_) (fun _ => ev_ite (fun _ => ?_) (fun _ => ev_ite (fun _ => ?_) (fun _ => ?_)))))))
    · obtain ⟨u, p, e, hp⟩ := pick_ok hq2 [-1, 200, 201] (by simp) (by simp)
      exact ev_bind e (tail p _ _ _ _ hp)
    · obtain ⟨u, p, e, hp⟩ := pick_ok hq2 [-1, 200, 201] (by simp) (by simp)
      exact ev_bind e (tail p _ _ _ _ hp)
    · obtain ⟨u, p, e, hp⟩ := pick_ok hq2 [0, 20, 21] (by simp) (by simp)
      exact ev_bind e (tail p _ _ _ _ hp)
    · obtain ⟨u, p, e, hp⟩ := pick_ok hq2 [0, (W : Int), wrap64 ((W : Int) + 1)] (by simp) (by simp)
      exact ev_bind e (tail p _ _ _ _ hp)

end Go.Proofs.Ytdcfjmkeakkfjaa.Pure
