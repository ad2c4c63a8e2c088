/- The generators of thresholds and values. -/
import Derived.Test.YthbmpjglkbhhgaaPrint4
import Derived.Test.YthbmpjglkbhhgaaPrint7
import Derived.Test.YthbmpjglkbhhgaaBub
namespace Go.Proofs.Ythbmpjglkbhhgaa.Pure
open Go.RowKit Go.Proofs.Ythbmpjglkbhhgaa.Print Go.Proofs.YthbmpjglkbhhgaaW.PrintWords Go.Proofs.YthbmpjglkbhhgaaW.PrintLast Go.Proofs.YthbmpjglkbhhgaaW.PrintMore

theorem wild_ok {L : List Int} {p : Int} (h : TP L p) : ∃ v q, awardingbodymake_Tape_Wild.f L p = some (v, q) ∧ TP L q := by
  unfold awardingbodymake_Tape_Wild.f
  obtain ⟨v, q, hr, hq, _⟩ := pick_ok h [(-1), 0, 1, 2, 31, 32, 99, 100, 200, 201, 9999, 10000, 1000000, 1000001, 1152921504606846976, 1152921504606846977, (-1152921504606846976), 9223372036854775807, (-9223372036854775808)] (by simp) (by simp)
  rw [hr]
  exact ⟨v, q, rfl, hq⟩
theorem spoil_ok {L : List Int} {p : Int} (h : TP L p) (x n : Int) (hn : n ≤ 1000000) : ∃ v q, awardingbodymake_Tape_Spoil.f L p x n = some (v, q) ∧ TP L q ∧ (n ≤ 0 → v = x) := by
  unfold awardingbodymake_Tape_Spoil.f
  by_cases hp : n > 0
  · obtain ⟨b, q, hr, hq⟩ := one_ok h n (by omega)
    obtain ⟨v, q2, hr2, hq2⟩ := wild_ok hq
    rw [if_pos hp, hr]
    simp only [Option.bind_some]
    by_cases hb : b = true
    · rw [if_pos hb, hr2]; exact ⟨v, q2, rfl, hq2, by omega⟩
    · rw [if_neg hb]; exact ⟨x, q, rfl, hq, by omega⟩
  · rw [if_neg hp]; exact ⟨x, p, rfl, h, fun _ => rfl⟩

theorem threshold_ok {L : List Int} {p : Int} (h : TP L p) (n : Int) (hn : n ≤ 1000000) :
    ∃ d f ld q, awardingbodymake_Tape_Threshold.f L p n = some (d, f, ld, q) ∧ TP L q ∧ (n ≤ 0 → thrB d f ld = true) := by
  obtain ⟨v1, q1, h1, hq1, hv1⟩ := range_ok h 3 8 (by omega) (by omega) (by omega)
  obtain ⟨v2, q2, h2, hq2, hv2⟩ := spoil_ok hq1 v1 n hn
  obtain ⟨v3, q3, h3, hq3, hv3⟩ := range_ok hq2 1 v1 (by omega) (by omega) (by omega)
  obtain ⟨v4, q4, h4, hq4, hv4⟩ := spoil_ok hq3 v3 n hn
  obtain ⟨v5, q5, h5, hq5, hv5⟩ := range_ok hq4 1 4 (by omega) (by omega) (by omega)
  obtain ⟨v6, q6, h6, hq6, hv6⟩ := spoil_ok hq5 v5 n hn
  refine ⟨v2, v4, v6, q6, ?_, hq6, fun h0 => ?_⟩
  · unfold awardingbodymake_Tape_Threshold.f
    simp only [h1, h2, h3, h4, h5, h6, Option.bind_some]
  · have := hv2 h0
    have := hv4 h0
    have := hv6 h0
    exact decide_eq_true (by omega)

theorem ints_loop (L : List Int) (lo hi : Int) (h1 : -1000 ≤ lo) (h2 : hi ≤ 1000) (h3 : lo ≤ hi) (d : Nat) : ∀ (acc : List Int) (p : Int), acc.length + d ≤ 1000 → (∀ v ∈ acc, lo ≤ v ∧ v ≤ hi) → TP L p →
    ∃ out q, Ev (fun k => awardingbodymake_Tape_Ints.l0 k lo hi acc (d : Int) L p) (out, q) ∧ TP L q ∧ out.length = acc.length + d ∧ ∀ v ∈ out, lo ≤ v ∧ v ≤ hi := by
  induction d with
  | zero =>
    intro acc p hl ha hp
    refine ⟨acc, p, ?_, hp, by omega, ha⟩
    refine ev_step ?_ (fun k => by rw [awardingbodymake_Tape_Ints.l0])
    exact ev_neg (by omega) (ev_some rfl)
  | succ d ih =>
    intro acc p hl ha hp
    obtain ⟨v, q, hv, hq, hr⟩ := range_ok hp lo hi (by omega) (by omega) h3
    obtain ⟨out, q2, he, hq2, hlen, hall⟩ := ih (acc ++ [v]) q (by simp; omega) (fun u hu => by
      rcases List.mem_append.1 hu with hu | hu
      · exact ha u hu
      · rw [List.mem_singleton.1 hu]; exact hr) hq
    refine ⟨out, q2, ?_, hq2, by simp at hlen; omega, hall⟩
    refine ev_step ?_ (fun k => by rw [awardingbodymake_Tape_Ints.l0])
    refine ev_pos (by omega) (ev_bind_now hv (ev_pos (by omega) ?_))
    rw [wrap_id (x := ((d + 1 : Nat) : Int) - 1) (by omega) (by omega), show ((d + 1 : Nat) : Int) - 1 = (d : Int) by omega]
    exact he
theorem ints_ok {L : List Int} {p : Int} (h : TP L p) (most lo hi : Int) (h0 : 0 ≤ most ∧ most ≤ 100) (h1 : -1000 ≤ lo) (h2 : hi ≤ 1000) (h3 : lo ≤ hi) :
    ∃ out q, Ev (fun k => awardingbodymake_Tape_Ints.f k L p most lo hi) (out, q) ∧ TP L q ∧ (out.length : Int) ≤ most ∧ ∀ v ∈ out, lo ≤ v ∧ v ≤ hi := by
  obtain ⟨v, q, hv, hq, hr⟩ := range_ok h 0 most (by omega) (by omega) (by omega)
  obtain ⟨d, rfl⟩ : ∃ d : Nat, v = d := ⟨v.toNat, by omega⟩
  obtain ⟨out, q2, he, hq2, hlen, hall⟩ := ints_loop L lo hi h1 h2 h3 d [] q (by simp; omega) (by simp) hq
  refine ⟨out, q2, ?_, hq2, by simp at hlen; omega, hall⟩
  unfold awardingbodymake_Tape_Ints.f
  exact ev_bind_now hv he

theorem inB_of {l : List Int} (h : ∀ v ∈ l, 0 ≤ v ∧ v ≤ 9) : inB l := by
  unfold inB
  rw [List.any_eq_false]
  intro v hv
  have := h v hv
  simp only [outB, decide_eq_true_eq]
  omega

theorem values_ok {L : List Int} {p : Int} (h : TP L p) : ∃ out q, Ev (fun k => awardingbodylaw20_values.f k L p) (out, q) ∧ TP L q ∧ 2 ≤ out.length ∧ out.length ≤ 5 ∧ inB out := by
  obtain ⟨v1, q1, h1, hq1, hv1, _⟩ := next_ok h 10 (by omega)
  obtain ⟨v2, q2, h2, hq2, hv2, _⟩ := next_ok hq1 10 (by omega)
  obtain ⟨out, q3, he, hq3, hlen, hall⟩ := ints_ok hq2 3 0 9 (by omega) (by omega) (by omega) (by omega)
  refine ⟨[v1, v2] ++ out, q3, ?_, hq3, by simp, by simp; omega, inB_of (fun v hv => ?_)⟩
  · unfold awardingbodylaw20_values.f
    refine ev_bind_now h1 (ev_bind_now h2 ?_)
    simp only [Option.bind_some]
    exact ev_bind he (ev_pos (by simp; omega) (ev_some rfl))
  · rcases List.mem_append.1 hv with hv | hv
    · simp only [List.mem_cons, List.not_mem_nil, or_false] at hv
      omega
    · exact hall v hv

/-- A field that is chosen: it alone is the darkest, and it alone is dark, or it leads. -/
def Chosen (d f ld : Int) (l : List Int) (b : Nat) : Prop :=
  b < l.length ∧ (∀ j, j < l.length → j ≠ b → l.getD j 0 < l.getD b 0) ∧
    ((d ≤ l.getD b 0 ∧ ∀ j, j < l.length → j ≠ b → l.getD j 0 < d) ∨ (f ≤ l.getD b 0 ∧ ∀ j, j < l.length → j ≠ b → l.getD j 0 ≤ l.getD b 0 - ld))
theorem Chosen.unique {d f ld : Int} {l : List Int} {b c : Nat} (h : Chosen d f ld l b) (k : Chosen d f ld l c) : b = c := by
  rcases Nat.lt_trichotomy b c with hlt | he | hlt
  · have := h.2.1 c k.1 (by omega)
    have := k.2.1 b h.1 (by omega)
    omega
  · exact he
  · have := h.2.1 c k.1 (by omega)
    have := k.2.1 b h.1 (by omega)
    omega

theorem leads_iff (l : List Int) (b : Nat) (ld : Int) : leadsB l b ld = true ↔ ∀ j, j < l.length → j ≠ b → l.getD j 0 ≤ l.getD b 0 - ld := by
  unfold leadsB
  rw [List.all_eq_true]
  constructor
  · intro h j hj hne
    have := h j (List.mem_range.2 hj)
    rw [behind_eq, decide_eq_true_eq] at this
    omega
  · intro h j hj
    have hj := List.mem_range.1 hj
    rw [behind_eq, decide_eq_true_eq]
    by_cases he : j = b
    · exact .inl he
    · exact .inr (h j hj he)

/-- Just one element meets p: at b, and nowhere else. -/
theorem dark_one (d : Int) : ∀ (l : List Int) (b : Nat), b < l.length → d ≤ l.getD b 0 → (darkN d l = 1 ↔ ∀ j, j < l.length → j ≠ b → l.getD j 0 < d) := by
  intro l
  induction l with
  | nil => intro b hb; simp at hb
  | cons v l ih =>
    intro b hb hd
    rw [dark_cons]
    have hz : ∀ (l : List Int), darkN d l = 0 ↔ ∀ j, j < l.length → l.getD j 0 < d := by
      intro l
      unfold darkN
      rw [show ((List.countP (fun v => decide (d ≤ v)) l : Nat) : Int) = 0 ↔ List.countP (fun v => decide (d ≤ v)) l = 0 by omega, List.countP_eq_zero]
      constructor
      · intro h j hj
        have := h (l.getD j 0) (by rw [List.getD_eq_getElem?_getD, List.getElem?_eq_getElem hj]; exact List.getElem_mem _)
        simp only [decide_eq_true_eq] at this
        omega
      · intro h u hu
        obtain ⟨j, hj, rfl⟩ := List.getElem_of_mem hu
        have := h j hj
        rw [List.getD_eq_getElem?_getD, List.getElem?_eq_getElem hj] at this
        simp only [Option.getD_some] at this
        simp only [decide_eq_true_eq]
        omega
    cases b with
    | zero =>
      have e : (v :: l).getD 0 0 = v := rfl
      rw [e] at hd
      rw [if_pos hd, show 1 + darkN d l = 1 ↔ darkN d l = 0 by omega, hz]
      constructor
      · intro h j hj hne
        obtain ⟨j, rfl⟩ : ∃ i, j = i + 1 := ⟨j - 1, by omega⟩
        exact h j (by simp at hj; omega)
      · intro h j hj
        exact h (j + 1) (by simp; omega) (by omega)
    | succ b =>
      have e : (v :: l).getD (b + 1) 0 = l.getD b 0 := rfl
      rw [e] at hd
      have hb' : b < l.length := by simp at hb; omega
      have hpos : darkN d l ≠ 0 := fun h => by have := (hz l).1 h b hb'; omega
      have hge := (dark_le d l).1
      by_cases hv : d ≤ v
      · rw [if_pos hv]
        constructor
        · intro h; omega
        · intro h
          have : (v :: l).getD 0 0 = v := rfl
          have := h 0 (by simp) (by omega)
          omega
      · rw [if_neg hv, Int.zero_add, ih b hb' hd]
        constructor
        · intro h j hj hne
          cases j with
          | zero => show v < d; omega
          | succ j => exact h j (by simp at hj; omega) (by omega)
        · intro h j hj hne
          exact h (j + 1) (by simp; omega) (by omega)
theorem dark_pos (d : Int) (l : List Int) (h : 0 < darkN d l) : ∃ j, j < l.length ∧ d ≤ l.getD j 0 := by
  unfold darkN at h
  have h : 0 < List.countP (fun v => decide (d ≤ v)) l := by omega
  obtain ⟨u, hu, hp⟩ := List.countP_pos_iff.1 h
  obtain ⟨j, hj, rfl⟩ := List.getElem_of_mem hu
  refine ⟨j, hj, ?_⟩
  rw [List.getD_eq_getElem?_getD, List.getElem?_eq_getElem hj]
  simpa using hp

/-- What Judge answers at valid arguments. -/
theorem judge_spec (d f ld : Int) (l : List Int) (ht : thrB d f ld = true) (h2 : 2 ≤ l.length) (h5 : l.length ≤ 5) (hin : inB l) :
    ∃ a : Int, Ev (fun k => bubble_Judge.f k d f ld l) (a, 0) ∧ (darkN d l = 1 → 0 ≤ a) ∧
      ((∃ b : Nat, a = b ∧ Chosen d f ld l b) ∨ ((∀ b, ¬ Chosen d f ld l b) ∧ a = if darkN d l > 1 then -2 else -1)) := by
  obtain ⟨r, hr, _, _, _, h4⟩ := judge_ev d f ld l (by omega)
  obtain ⟨b, hb, hv⟩ := h4 ht h2 h5 hin
  subst hv
  have hld : 1 ≤ f ∧ f ≤ d ∧ 1 ≤ ld := by simp [thrB] at ht; omega
  have hd1 : darkN d l = 1 → d ≤ l.getD b 0 := by
    intro h
    obtain ⟨j, hj, hdj⟩ := dark_pos d l (by omega)
    have := hb.2.1 j hj
    omega
  by_cases hc : darkN d l = 1 ∨ (leadsB l b ld && decide (f ≤ l.getD b 0)) = true
  · have e : verdict d f ld l b = ((b : Int), 0) := by unfold verdict fin; rw [if_pos hc]
    rw [e] at hr
    refine ⟨b, hr, fun _ => by omega, .inl ⟨b, rfl, hb.1, ?_⟩⟩
    rcases hc with hc | hc
    · have hdb := hd1 hc
      have ho := (dark_one d l b hb.1 hdb).1 hc
      exact ⟨fun j hj hne => by have := ho j hj hne; omega, .inl ⟨hdb, ho⟩⟩
    · simp only [Bool.and_eq_true, decide_eq_true_eq] at hc
      have ho := (leads_iff l b ld).1 hc.1
      exact ⟨fun j hj hne => by have := ho j hj hne; omega, .inr ⟨hc.2, ho⟩⟩
  · have e : verdict d f ld l b = ((if darkN d l > 1 then -2 else -1 : Int), 0) := by
      unfold verdict fin
      rw [if_neg hc]
      split <;> rfl
    rw [e] at hr
    refine ⟨_, hr, fun h => absurd (.inl h) hc, .inr ⟨fun c hch => hc ?_, rfl⟩⟩
    have hcb : c = b := by
      have hF : FM l c := ⟨hch.1, fun j hj => by
        by_cases he : j = c
        · subst he; omega
        · have := hch.2.1 j hj he; omega, fun j hj => hch.2.1 j (by have := hch.1; omega) (by omega)⟩
      exact hF.unique hb
    subst hcb
    rcases hch.2.2 with ⟨hdb, ho⟩ | ⟨hf, ho⟩
    · exact .inl ((dark_one d l c hch.1 hdb).2 ho)
    · exact .inr (by rw [Bool.and_eq_true, decide_eq_true_eq]; exact ⟨(leads_iff l c ld).2 ho, hf⟩)

end Go.Proofs.Ythbmpjglkbhhgaa.Pure
