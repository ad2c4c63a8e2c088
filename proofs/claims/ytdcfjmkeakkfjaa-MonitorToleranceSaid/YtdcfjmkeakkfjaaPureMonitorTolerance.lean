/- MonitorTolerance: for every tape, marks and widening the law answers true. Conditions: those of the law's row. -/
import Derived.Test.YtdcfjmkeakkfjaaPrint18
import Derived.Test.YtdcfjmkeakkfjaaPrint2
import Derived.Test.YtdcfjmkeakkfjaaPrint1
import Derived.Test.YtdcfjmkeakkfjaaMon
namespace Go.Proofs.Ytdcfjmkeakkfjaa.Pure
open Go.RowKit Go.Proofs.Ytdcfjmkeakkfjaa.Print Go.Proofs.YtdcfjmkeakkfjaaW.PrintWords Go.Proofs.YtdcfjmkeakkfjaaW.PrintLast Go.Proofs.YtdcfjmkeakkfjaaW.PrintMore
set_option linter.unusedVariables false
set_option linter.unusedSectionVars false

theorem rdi (l : List Int) (i : Nat) : rd l (i : Int) = l.getD i 0 := by unfold rd; rw [Int.toNat_natCast]
/-- Marks that the law makes. -/
def Small (X : List Int) : Prop := X.length ≤ 24 ∧ ∀ x ∈ X, 0 ≤ x ∧ x ≤ 8
theorem small_get {X : List Int} (h : Small X) (i : Nat) (hi : i < X.length) : 0 ≤ X.getD i 0 ∧ X.getD i 0 ≤ 8 := by
  rw [List.getD_eq_getElem?_getD, List.getElem?_eq_getElem hi]
  exact h.2 _ (List.getElem_mem hi)
/-- Two numbers at most c apart. -/
def near (c a b : Int) : Prop := a - b ≤ c ∧ b - a ≤ c
theorem far_ok (a b : Int) (h1 : -1000000 ≤ a) (h2 : a ≤ 1000000) (h3 : -1000000 ≤ b) (h4 : b ≤ 1000000) : ∃ v, monitor_far.f a b = some v ∧ ∀ c, v ≤ c ↔ near c a b := by
  refine ⟨_, rfl, fun c => ?_⟩
  rw [wrap_id (x := a - b) (by omega) (by omega), wrap_id (x := b - a) (by omega) (by omega)]
  unfold mx near
  split <;> omega

theorem max_loop (L : List Int) (hL : L.length ≤ 1000) (hb : ∀ x ∈ L, x ≤ 8) (d : Nat) : ∀ (i : Nat) (v : Int), i + d = L.length → v ≤ 8 → ∃ r, r ≤ 8 ∧ Ev (fun k => slices_Max_int_int.l0 k L v (i : Int)) r := by
  induction d with
  | zero =>
    intro i v hi hv
    refine ⟨v, hv, ev_step ?_ (fun k => by rw [slices_Max_int_int.l0])⟩
    exact ev_neg (by omega) (ev_some rfl)
  | succ d ih =>
    intro i v hi hv
    have hm : L.getD i 0 ≤ 8 := by
      rw [List.getD_eq_getElem?_getD, List.getElem?_eq_getElem (by omega)]
      exact hb _ (List.getElem_mem _)
    obtain ⟨r, hr, he⟩ := ih (i + 1) (mx v (L.getD i 0)) (by omega) (by unfold mx; split <;> omega)
    refine ⟨r, hr, ev_step ?_ (fun k => by rw [slices_Max_int_int.l0])⟩
    rw [rdi, next_index i L.length (by omega) (by omega)]
    exact ev_pos (by omega) (ev_pos (by omega) he)
theorem wrong_ev {X : List Int} (h : Small X) : Ev (fun k => monitor_wrong.f k X) false := by
  have h1 := h.1
  unfold monitor_wrong.f
  refine ev_neg (by omega) (ev_bind_now rfl (ev_pos (by simp only [List.length_cons, List.length_nil]; omega) ?_))
  have hlen : ([0] ++ X).length = X.length + 1 := by simp
  obtain ⟨r, hr, he⟩ := max_loop ([0] ++ X) (by omega) (fun x hx => by
    rcases List.mem_append.1 hx with hx | hx
    · simp at hx; omega
    · exact (h.2 x hx).2) X.length 1 0 (by omega) (by omega)
  have hf : Ev (fun k => slices_Max_int_int.f k ([0] ++ X)) r := by
    unfold slices_Max_int_int.f
    refine ev_neg (by omega) (ev_pos (by omega) ?_)
    have e0 : rd ([0] ++ X) 0 = 0 := rfl
    rw [e0]
    exact he
  exact ev_bind hf (ev_some (decide_eq_false (by omega)))

section
variable {P T : Int} {W F : Nat} (hr : Rule P T W F)
include hr
theorem good_loop {X Y : List Int} (hX : Small X) (hY : Small Y) (hl : X.length = Y.length) (d : Nat) : ∀ (i : Nat) (a b : Int), i + d = X.length → 0 ≤ a → a ≤ 8 * i → 0 ≤ b → b ≤ 8 * i →
    ∃ g, Ev (fun k => monitor_Good.l0 k X Y a b (Y.length : Int) (i : Int) P T W F) g ∧ (g = true ↔ (∀ m, i ≤ m → m < X.length → near P (X.getD m 0) (Y.getD m 0)) ∧ near T (a + (X.drop i).sum) (b + (Y.drop i).sum)) := by
  have hx := hX.1
  induction d with
  | zero =>
    intro i a b hi ha1 ha2 hb1 hb2
    obtain ⟨v, hv, hc⟩ := far_ok a b (by omega) (by omega) (by omega) (by omega)
    refine ⟨decide (v ≤ T), ev_step ?_ (fun k => by rw [monitor_Good.l0]), ?_⟩
    · exact ev_neg (by omega) (ev_bind_now hv (ev_some rfl))
    rw [decide_eq_true_eq, hc, List.drop_of_length_le (by omega), List.drop_of_length_le (by omega), List.sum_nil, Int.add_zero, Int.add_zero]
    exact ⟨fun h => ⟨fun m h1 h2 => by omega, h⟩, fun h => h.2⟩
  | succ d ih =>
    intro i a b hi ha1 ha2 hb1 hb2
    obtain ⟨x1, x2⟩ := small_get hX i (by omega)
    obtain ⟨y1, y2⟩ := small_get hY i (by omega)
    have ex : mx (X.getD i 0) 0 = X.getD i 0 := by unfold mx; split <;> omega
    have ey : mx (Y.getD i 0) 0 = Y.getD i 0 := by unfold mx; split <;> omega
    obtain ⟨v, hv, hc⟩ := far_ok (X.getD i 0) (Y.getD i 0) (by omega) (by omega) (by omega) (by omega)
    by_cases hp : v > P
    · refine ⟨false, ev_step ?_ (fun k => by rw [monitor_Good.l0]), ?_⟩
      · rw [rdi, rdi, ex, ey]
        exact ev_pos (by omega) (ev_pos (by omega) (ev_pos (by omega) (ev_pos (by omega) (ev_bind_now hv (ev_pos hp (ev_some rfl))))))
      · constructor
        · intro h; cases h
        · intro h
          have := (hc P).2 (h.1 i (by omega) (by omega))
          omega
    · obtain ⟨g, hg, hiff⟩ := ih (i + 1) (a + X.getD i 0) (b + Y.getD i 0) (by omega) (by omega) (by omega) (by omega) (by omega)
      refine ⟨g, ev_step ?_ (fun k => by rw [monitor_Good.l0]), ?_⟩
      · rw [rdi, rdi, ex, ey, next_index i X.length (by omega) (by omega), wrap_id (x := a + X.getD i 0) (by omega) (by omega), wrap_id (x := b + Y.getD i 0) (by omega) (by omega)]
        exact ev_pos (by omega) (ev_pos (by omega) (ev_pos (by omega) (ev_pos (by omega) (ev_bind_now hv (ev_neg hp hg)))))
      · rw [hiff, drop_cons_at X 0 i (by omega), drop_cons_at Y 0 i (by omega), List.sum_cons, List.sum_cons, Int.add_assoc, Int.add_assoc]
        constructor
        · rintro ⟨h1, h2⟩
          refine ⟨fun m a1 a2 => ?_, h2⟩
          by_cases hm : m = i
          · subst hm; exact (hc P).1 (by omega)
          · exact h1 m (by omega) a2
        · rintro ⟨h1, h2⟩
          exact ⟨fun m a1 a2 => h1 m (by omega) a2, h2⟩
/-- What Good answers for the law's marks. -/
theorem good_ok {X Y : List Int} (hX : Small X) (hY : Small Y) (hl : X.length = Y.length) :
    ∃ g, Ev (fun k => monitor_Good.f k P T W F X Y) g ∧ (g = true ↔ (∀ m, m < X.length → near P (X.getD m 0) (Y.getD m 0)) ∧ near T X.sum Y.sum) := by
  obtain ⟨g, hg, hiff⟩ := good_loop hr hX hY hl X.length 0 0 0 (by omega) (by omega) (by omega) (by omega) (by omega)
  rw [List.drop_zero, List.drop_zero, Int.zero_add, Int.zero_add] at hiff
  refine ⟨g, ?_, hiff.trans ⟨fun h => ⟨fun m a => h.1 m (by omega) a, h.2⟩, fun h => ⟨fun m _ a => h.1 m a, h.2⟩⟩⟩
  unfold monitor_Good.f
  refine ev_bind_now (check_eq hr) (ev_pos rfl (ev_bind (wrong_ev hX) (ev_neg (by decide) (ev_bind (wrong_ev hY) (ev_neg (by decide) ?_)))))
  refine ev_step ?_ (fun k => by rw [monitor_Good.j0])
  exact ev_neg (by simp [hl]) hg
end

theorem small_rev {X : List Int} (h : Small X) : Small X.reverse := ⟨by rw [List.length_reverse]; exact h.1, fun x hx => h.2 x (List.mem_reverse.1 hx)⟩
theorem rev_get (X : List Int) (m : Nat) (h : m < X.length) : X.reverse.getD m 0 = X.getD (X.length - 1 - m) 0 := by
  rw [List.getD_eq_getElem?_getD, List.getD_eq_getElem?_getD, List.getElem?_eq_getElem (by rw [List.length_reverse]; exact h), List.getElem?_eq_getElem (by omega), List.getElem_reverse]
theorem sum_rev (X : List Int) : X.reverse.sum = X.sum := by
  induction X with
  | nil => rfl
  | cons x X ih => rw [List.reverse_cons, List.sum_append, ih, List.sum_cons, List.sum_cons, List.sum_nil]; omega
theorem near_comm (c a b : Int) : near c a b ↔ near c b a := ⟨fun h => ⟨h.2, h.1⟩, fun h => ⟨h.2, h.1⟩⟩
theorem bool_eq {a b : Bool} {p q : Prop} (h1 : a = true ↔ p) (h2 : b = true ↔ q) (h : p ↔ q) : a = b := by
  cases a <;> cases b <;> simp_all

section
variable {P T P' T' : Int} {W F : Nat} (hr : Rule P T W F) (hr' : Rule P' T' W F) (hP : P ≤ P') (hT : T ≤ T')
include hr hr' hP hT
theorem tol_end {X Y : List Int} (hX : Small X) (hY : Small Y) (hl : X.length = Y.length) :
    Ev (fun k => awardingbodylaw27_MonitorTolerance.l1 k X Y X.reverse Y.reverse (-1) P T W F P' T' W F) true := by
  obtain ⟨g1, e1, i1⟩ := good_ok hr hX hY hl
  obtain ⟨g2, e2, i2⟩ := good_ok hr hX hX rfl
  obtain ⟨g3, e3, i3⟩ := good_ok hr hY hX hl.symm
  obtain ⟨g4, e4, i4⟩ := good_ok hr (small_rev hX) (small_rev hY) (by rw [List.length_reverse, List.length_reverse, hl])
  obtain ⟨g5, e5, i5⟩ := good_ok hr' hX hY hl
  have hP0 : 0 ≤ P := hr.1
  have hT0 : 0 ≤ T := hr.2.2.1
  have z2 : g2 = true := i2.2 ⟨fun m _ => ⟨by omega, by omega⟩, by omega, by omega⟩
  have z3 : g1 = g3 := bool_eq i1 i3 ⟨fun h => ⟨fun m hm => (near_comm _ _ _).1 (h.1 m (by omega)), (near_comm _ _ _).1 h.2⟩, fun h => ⟨fun m hm => (near_comm _ _ _).1 (h.1 m (by omega)), (near_comm _ _ _).1 h.2⟩⟩
  have z4 : g1 = g4 := by
    refine bool_eq i1 i4 ?_
    rw [sum_rev, sum_rev, List.length_reverse]
    constructor
    · rintro ⟨h, h2⟩
      refine ⟨fun m hm => ?_, h2⟩
      rw [rev_get X m hm, rev_get Y m (by omega), ← hl]
      exact h _ (by omega)
    · rintro ⟨h, h2⟩
      refine ⟨fun m hm => ?_, h2⟩
      have := h (X.length - 1 - m) (by omega)
      rw [rev_get X _ (by omega), rev_get Y _ (by omega), ← hl, show X.length - 1 - (X.length - 1 - m) = m by omega] at this
      exact this
  refine ev_step ?_ (fun k => by rw [awardingbodylaw27_MonitorTolerance.l1])
  refine ev_neg (by omega) (ev_bind e1 (ev_bind e2 (ev_pos z2 (ev_bind e3 (ev_pos (by rw [z3]; simp) (ev_bind e4 (ev_pos (by rw [z4]; simp) (ev_ite (fun h => ?_) (fun h => ev_bind sane_ev (ev_some rfl))))))))))
  have z5 : g5 = true := i5.2 ⟨fun m hm => by have := (i1.1 h).1 m hm; exact ⟨by have := this.1; omega, by have := this.2; omega⟩, by have := (i1.1 h).2.1; omega, by have := (i1.1 h).2.2; omega⟩
  exact ev_bind e5 (ev_pos z5 (ev_bind sane_ev (ev_some rfl)))
theorem tol_rev {X Y : List Int} (hX : Small X) (hY : Small Y) (hl : X.length = Y.length) (j : Nat) : j ≤ X.length →
    Ev (fun k => awardingbodylaw27_MonitorTolerance.l1 k X Y (X.drop j).reverse (Y.drop j).reverse ((j : Int) - 1) P T W F P' T' W F) true := by
  have hx := hX.1
  induction j with
  | zero =>
    intro _
    rw [List.drop_zero, List.drop_zero]
    exact tol_end hr hr' hP hT hX hY hl
  | succ j ih =>
    intro hj
    have := ih (by omega)
    rw [drop_cons_at X 0 j (by omega), drop_cons_at Y 0 j (by omega), List.reverse_cons, List.reverse_cons] at this
    have e : ((j + 1 : Nat) : Int) - 1 = (j : Int) := by omega
    rw [e]
    refine ev_step ?_ (fun k => by rw [awardingbodylaw27_MonitorTolerance.l1])
    have l1 : ((X.drop (j + 1)).reverse).length ≤ 24 := by rw [List.length_reverse, List.length_drop]; omega
    have l2 : ((Y.drop (j + 1)).reverse).length ≤ 24 := by rw [List.length_reverse, List.length_drop]; omega
    rw [rdi, rdi, wrap_id (x := (j : Int) - 1) (by omega) (by omega)]
    exact ev_pos (by omega) (ev_pos (by omega) (ev_pos (by omega) (ev_bind_now rfl (ev_pos (by simp only [List.length_cons, List.length_nil]; omega) (ev_pos (by omega) (ev_bind_now rfl (ev_pos (by simp only [List.length_cons, List.length_nil]; omega) this)))))))
theorem byte_mod {a : Int} (h : (Lit.int .u8 a).wf = true) : ∃ v, wrap64 (Int.tmod a 9) = v ∧ 0 ≤ v ∧ v ≤ 8 := by
  have hw0 : IntKind.u8.min ≤ a ∧ a ≤ IntKind.u8.max := by simpa [Lit.wf] using h
  have h2 : 0 ≤ a ∧ a ≤ 255 := ⟨Int.le_trans (by decide) hw0.1, Int.le_trans hw0.2 (by decide)⟩
  have t1 := Int.tmod_lt_of_pos a (show (0 : Int) < 9 by omega)
  have t2 := Int.tmod_nonneg 9 h2.1
  exact ⟨_, rfl, by rw [wrap_id (by omega) (by omega)]; omega, by rw [wrap_id (by omega) (by omega)]; omega⟩
theorem tol_loop (A B : List Int) (hA : ∀ x ∈ A, (Lit.int .u8 x).wf = true) (hB : ∀ x ∈ B, (Lit.int .u8 x).wf = true) (hn : A.length ≤ 24) (hl : A.length = B.length) (d : Nat) :
    ∀ (i : Nat) (X Y : List Int), i + d = A.length → X.length = i → Y.length = i → Small X → Small Y → Ev (fun k => awardingbodylaw27_MonitorTolerance.l0 k A B X Y (A.length : Int) (i : Int) P T W F P' T' W F) true := by
  induction d with
  | zero =>
    intro i X Y hi hx hy hX hY
    refine ev_step ?_ (fun k => by rw [awardingbodylaw27_MonitorTolerance.l0])
    refine ev_neg (by omega) ?_
    have := tol_rev hr hr' hP hT hX hY (by omega) X.length (Nat.le_refl _)
    rw [List.drop_of_length_le (Nat.le_refl _), List.drop_of_length_le (by omega)] at this
    rw [wrap_id (by omega) (by omega)]
    exact this
  | succ d ih =>
    intro i X Y hi hx hy hX hY
    have ma : A.getD i 0 ∈ A := by rw [List.getD_eq_getElem?_getD, List.getElem?_eq_getElem (by omega)]; exact List.getElem_mem _
    have mb : B.getD i 0 ∈ B := by rw [List.getD_eq_getElem?_getD, List.getElem?_eq_getElem (by omega)]; exact List.getElem_mem _
    obtain ⟨u, eu, u1, u2⟩ := byte_mod hr hr' hP hT (hA _ ma)
    obtain ⟨v, ev, v1, v2⟩ := byte_mod hr hr' hP hT (hB _ mb)
    refine ev_step ?_ (fun k => by rw [awardingbodylaw27_MonitorTolerance.l0])
    rw [rdi, rdi, eu, ev, next_index i A.length (by omega) (by omega)]
    refine ev_pos (by omega) (ev_pos (by omega) (ev_pos (by omega) (ev_bind_now rfl (ev_pos (by simp only [List.length_cons, List.length_nil]; omega) (ev_pos (by omega) (ev_bind_now rfl (ev_pos (by simp only [List.length_cons, List.length_nil]; omega) ?_)))))))
    refine ih (i + 1) (X ++ [u]) (Y ++ [v]) (by omega) (by simp [hx]) (by simp [hy]) ⟨by simp; omega, fun x h => ?_⟩ ⟨by simp; omega, fun x h => ?_⟩
    · rcases List.mem_append.1 h with h | h
      · exact hX.2 x h
      · simp at h; omega
    · rcases List.mem_append.1 h with h | h
      · exact hY.2 x h
      · simp at h; omega
end

theorem widen (P a c : Int) (h0 : 0 ≤ P) (h1 : P ≤ 200) (ha : (Lit.int .u8 a).wf = true) (hc : 0 < c) (hc2 : c ≤ 10) : ∃ P', mn (wrap64 (P + Int.tmod (wrap64 a) c)) 200 = P' ∧ P ≤ P' ∧ P' ≤ 200 := by
  have hw0 : IntKind.u8.min ≤ a ∧ a ≤ IntKind.u8.max := by simpa [Lit.wf] using ha
  have h2 : 0 ≤ a ∧ a ≤ 255 := ⟨Int.le_trans (by decide) hw0.1, Int.le_trans hw0.2 (by decide)⟩
  have t1 := Int.tmod_lt_of_pos a hc
  have t2 := Int.tmod_nonneg c h2.1
  refine ⟨_, rfl, ?_, ?_⟩
  · rw [wrap_id (x := a) (by omega) (by omega), wrap_id (by omega) (by omega)]
    unfold mn
    split <;> omega
  · rw [wrap_id (x := a) (by omega) (by omega), wrap_id (by omega) (by omega)]
    unfold mn
    split <;> omega

theorem MonitorTolerance : awardingbodylaw27_MonitorTolerance.Pure := by
  intro t a b c _ _ _ _ _ ha _ _ hb hc
  refine Ev.rounds (g := fun k => awardingbodylaw27_MonitorTolerance.f k t a b c) ?_
  unfold awardingbodylaw27_MonitorTolerance.f
  have skip : ∀ z, z = true → Ev (fun k => awardingbodylaw27_MonitorTolerance.j0 k t a b c z) true := by
    intro z hz
    refine ev_step ?_ (fun k => by rw [awardingbodylaw27_MonitorTolerance.j0])
    exact ev_pos hz (ev_bind sane_ev (ev_some rfl))
  refine ev_bind_now rfl (ev_ite (fun h => ev_ite (fun _ => skip _ rfl) (fun hn => ?_)) (fun h => skip _ rfl))
  rw [decide_eq_true_eq] at h
  by_cases hl : a.length = b.length
  · obtain ⟨P, T, W, F, q, hm, _, hr⟩ := rule_ok (L := t) (p := 0) ⟨by omega, by omega, by omega⟩
    obtain ⟨P', eP, p1, p2⟩ := widen P c 5 hr.1 hr.2.1 hc (by omega) (by omega)
    obtain ⟨T', eT, t1, t2⟩ := widen T c 7 hr.2.2.1 hr.2.2.2.1 hc (by omega) (by omega)
    have hr' : Rule P' T' W F := by
      obtain ⟨z1, z2, z3, z4, z5⟩ := hr
      exact ⟨by omega, p2, by omega, t2, z5⟩
    refine ev_step ?_ (fun k => by rw [awardingbodylaw27_MonitorTolerance.j0])
    refine ev_neg (by simp [hl]) (ev_bind_now rfl (ev_bind hm ?_))
    simp only [eP, eT]
    exact tol_loop hr hr' p1 t1 a b ha hb (by omega) hl a.length 0 [] [] (by omega) rfl rfl ⟨by simp, fun x h => by cases h⟩ ⟨by simp, fun x h => by cases h⟩
  · exact skip _ (by simp; omega)

end Go.Proofs.Ytdcfjmkeakkfjaa.Pure
