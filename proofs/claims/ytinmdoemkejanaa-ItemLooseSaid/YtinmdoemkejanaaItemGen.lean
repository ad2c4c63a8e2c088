/- The generators of words and items: they answer; what they give is short, and valid where no mistake is asked for. -/
import Derived.Test.YtinmdoemkejanaaPrint12
import Derived.Test.YtinmdoemkejanaaPartGen
namespace Go.Proofs.Ytinmdoemkejanaa.Pure
open Go.RowKit Go.Proofs.Ytinmdoemkejanaa.Print Go.Proofs.YtinmdoemkejanaaW.PrintWords Go.Proofs.YtinmdoemkejanaaW.PrintLast Go.Proofs.YtinmdoemkejanaaW.PrintMore
set_option linter.unusedVariables false

/-- A text of plain letters. -/
def Plain (s : ByteArray) : Prop := ∀ v ∈ bytesOf s, badC v = false
theorem plain_app {a b : ByteArray} (ha : Plain a) (hb : Plain b) : Plain (a ++ b) := by
  intro v hv
  unfold bytesOf at hv
  rw [show (a ++ b).data.toList = a.data.toList ++ b.data.toList by simp, List.map_append, List.mem_append] at hv
  exact hv.elim (fun h => ha v h) (fun h => hb v h)
theorem plain_stem {s : ByteArray} (h : Plain s) : stemB s = false := by
  unfold stemB
  rw [List.any_eq_false]
  intro i hi
  rw [List.mem_range] at hi
  rw [← rd_bytes s i hi]
  have := h _ (rd_mem (bytesOf s) i (by omega) (by have := bytesOf_length s; omega))
  rw [this]; decide
theorem word_loop (L : List Int) (d : Nat) : ∀ (acc : ByteArray) (p : Int), acc.size + d ≤ 1000 → Plain acc → TP L p →
    ∃ s q, Ev (fun k => awardingbodymake_Tape_Word.l0 k acc (d : Int) L p) (s, q) ∧ TP L q ∧ s.size = acc.size + d ∧ Plain s := by
  induction d with
  | zero =>
    intro acc p hl ha hp
    exact ⟨acc, p, (by refine ev_step ?_ (fun k => by rw [awardingbodymake_Tape_Word.l0]); exact ev_neg (by omega) (ev_some rfl)), hp, by omega, ha⟩
  | succ d ih =>
    intro acc p hl ha hp
    obtain ⟨v, q1, h1, hq1, hv, _⟩ := next_ok hp 3 (by omega)
    have hv := hv (by omega)
    have hw : Plain (strOfNums [wrap64 (97 + v) % 256]) := by
      intro x hx
      rw [wrap_id (x := 97 + v) (by omega) (by omega)] at hx
      unfold bytesOf at hx
      rw [strOfNums_data] at hx
      have hx : x = ((UInt8.ofNat ((97 + v) % 256).toNat).toNat : Int) := by simpa using hx
      have e : (UInt8.ofNat ((97 + v) % 256).toNat).toNat = (97 + v).toNat := by
        rw [UInt8.toNat_ofNat']; omega
      rw [hx, e]
      exact decide_eq_false (by omega)
    have hz : (strOfNums [wrap64 (97 + v) % 256]).size = 1 := strOfNums_size _
    have hz2 : (acc ++ strOfNums [wrap64 (97 + v) % 256]).size = acc.size + 1 := by rw [ByteArray.size_append, hz]
    obtain ⟨s, q, he, hq, hs, hpl⟩ := ih (acc ++ strOfNums [wrap64 (97 + v) % 256]) q1 (by omega) (plain_app ha hw) hq1
    refine ⟨s, q, ?_, hq, by omega, hpl⟩
    refine ev_step ?_ (fun k => by rw [awardingbodymake_Tape_Word.l0])
    refine ev_pos (by omega) (ev_bind_now h1 (ev_bind_now rfl (ev_pos (show acc.size + (strOfNums [wrap64 (97 + v) % 256]).size ≤ 9223372036854775807 by omega) ?_)))
    rw [wrap_id (x := ((d + 1 : Nat) : Int) - 1) (by omega) (by omega), show ((d + 1 : Nat) : Int) - 1 = (d : Int) by omega]
    exact he
theorem word_gen {L : List Int} {p : Int} (h : TP L p) : ∃ s q, Ev (fun k => awardingbodymake_Tape_Word.f k L p 3) (s, q) ∧ TP L q ∧ s.size ≤ 3 ∧ Plain s := by
  obtain ⟨v, q, hr, hq, hv⟩ := range_ok h 1 3 (by omega) (by omega) (by omega)
  obtain ⟨d, rfl⟩ : ∃ d : Nat, v = d := ⟨v.toNat, by omega⟩
  obtain ⟨s, q2, he, hq2, hs, hpl⟩ := word_loop L d (⟨#[]⟩ : ByteArray) q (by show 0 + d ≤ 1000; omega) (by intro v hv; cases hv) hq
  have : (⟨#[]⟩ : ByteArray).size = 0 := rfl
  refine ⟨s, q2, ?_, hq2, by omega, hpl⟩
  unfold awardingbodymake_Tape_Word.f
  exact ev_bind_now hr he

/-! Enemies: ascending, in range, not the item's own number. -/
theorem getD_app {α : Type} (l m : List α) (d : α) (i : Nat) (h : i < l.length) : (l ++ m).getD i d = l.getD i d := by
  rw [List.getD_eq_getElem?_getD, List.getD_eq_getElem?_getD, List.getElem?_append_left h]
theorem enB_iff (id : Int) (l : List Int) : enB id l = false ↔ ∀ i, i < l.length → (badEI id l i || descI l i) = false := by
  unfold enB
  rw [List.any_eq_false]
  constructor
  · intro h i hi
    have := h i (List.mem_range.2 hi)
    simpa using this
  · intro h i hi
    rw [h i (List.mem_range.1 hi)]; decide
def EnOk (id n : Int) (l : List Int) : Prop := enB id l = false ∧ (∀ x ∈ l, x < n) ∧ (l.length : Int) ≤ n
theorem getD_mem (l : List Int) (i : Nat) (h : i < l.length) : l.getD i 0 ∈ l := by
  rw [List.getD_eq_getElem?_getD, List.getElem?_eq_getElem h]; exact List.getElem_mem _
theorem enOk_app {id n : Int} {l : List Int} (h : EnOk id n l) (h0 : 0 ≤ n) (h1 : n ≤ 9999) (h2 : n ≠ id) : EnOk id (n + 1) (l ++ [n]) := by
  obtain ⟨he, hx, hl⟩ := h
  refine ⟨?_, ?_, by simp; omega⟩
  · rw [enB_iff] at he ⊢
    intro i hi
    rw [List.length_append] at hi
    simp only [List.length_cons, List.length_nil] at hi
    by_cases hlt : i < l.length
    · have := he i hlt
      unfold badEI descI at this ⊢
      rw [getD_app l [n] 0 i hlt, getD_app l [n] 0 (i - 1) (by omega)]
      exact this
    · have e : i = l.length := by omega
      subst e
      have v : (l ++ [n]).getD l.length 0 = n := by rw [List.getD_eq_getElem?_getD]; simp
      unfold badEI descI badE
      rw [v, Bool.or_eq_false_iff]
      refine ⟨decide_eq_false (by omega), decide_eq_false ?_⟩
      rintro ⟨hp, hle⟩
      rw [getD_app l [n] 0 (l.length - 1) (by omega)] at hle
      have := hx _ (getD_mem l (l.length - 1) (by omega))
      omega
  · intro x hxm
    rcases List.mem_append.1 hxm with h | h
    · have := hx x h; omega
    · rw [List.mem_singleton.1 h]; omega
theorem enOk_up {id n : Int} {l : List Int} (h : EnOk id n l) : EnOk id (n + 1) l := ⟨h.1, fun x hx => by have := h.2.1 x hx; omega, by have := h.2.2; omega⟩

/-- What an item is after its mistake, if one is asked for. -/
theorem item_j2 {L : List Int} {p : Int} (h : TP L p) (b : Bool) (id i ver : Int) (s : ByteArray) (ps : List Part) (en : List Int) (h1 : s.size ≤ 41) (h2 : 1 ≤ ps.length ∧ ps.length ≤ 90) (h3 : en.length ≤ 90) :
    ∃ (i' ver' : Int) (s' : ByteArray) (ps' : List Part) (en' : List Int) (q : Int), Ev (fun k => awardingbodymake_Tape_Item.j2 k id b L p i ver s ps en) (i', ver', s', ps', en', q) ∧ TP L q ∧ s'.size ≤ 100 ∧ ps'.length ≤ 100 ∧ en'.length ≤ 100 ∧ (b = false → i' = i ∧ ver' = ver ∧ s' = s ∧ ps' = ps ∧ en' = en) := by
  by_cases hb : b = true
  · subst hb
    obtain ⟨c, q, hr, hq, _⟩ := next_ok h 7 (by omega)
    have step : ∀ {r}, Ev (fun k => (awardingbodymake_Tape_Item.j2 (k + 1) id true L p i ver s ps en)) r → Ev (fun k => awardingbodymake_Tape_Item.j2 k id true L p i ver s ps en) r := fun h => ev_step h (fun _ => rfl)
    by_cases c0 : c = 0
    · obtain ⟨x, q2, hr2, hq2⟩ := wild_ok hq
      exact ⟨x, ver, s, ps, en, q2, (by refine ev_step ?_ (fun k => by rw [awardingbodymake_Tape_Item.j2]); exact ev_pos rfl (ev_bind_now hr (ev_pos c0 (ev_bind_now hr2 (ev_some rfl))))), hq2, by omega, by omega, by omega, fun h => by cases h⟩
    by_cases c1 : c = 1
    · obtain ⟨x, q2, hr2, hq2, _⟩ := pick_ok hq [0, 8, 9, (-1)] (by simp) (by simp)
      exact ⟨i, x, s, ps, en, q2, (by refine ev_step ?_ (fun k => by rw [awardingbodymake_Tape_Item.j2]); exact ev_pos rfl (ev_bind_now hr (ev_neg c0 (ev_pos c1 (ev_bind_now hr2 (ev_some rfl)))))), hq2, by omega, by omega, by omega, fun h => by cases h⟩
    by_cases c2 : c = 2
    · obtain ⟨x, q2, hr2, hq2, hx, _⟩ := next_ok hq 3 (by omega)
      have hx := hx (by omega)
      refine ⟨i, ver, _, ps, en, q2, (by refine ev_step ?_ (fun k => by rw [awardingbodymake_Tape_Item.j2]); exact ev_pos rfl (ev_bind_now hr (ev_neg c0 (ev_neg c1 (ev_pos c2 (ev_bind_now rfl (ev_bind_now hr2 (ev_pos (by omega) (ev_pos (by simp only [List.length_cons, List.length_nil]; omega) (ev_some rfl)))))))))), hq2, ?_, by omega, by omega, fun h => by cases h⟩
      obtain h | h | h : x = 0 ∨ x = 1 ∨ x = 2 := by omega
      all_goals subst h; exact Nat.le_of_ble_eq_true rfl
    by_cases c3 : c = 3
    · exact ⟨i, ver, s, [], en, q, (by refine ev_step ?_ (fun k => by rw [awardingbodymake_Tape_Item.j2]); exact ev_pos rfl (ev_bind_now hr (ev_neg c0 (ev_neg c1 (ev_neg c2 (ev_pos c3 (ev_some rfl))))))), hq, by omega, by simp, by omega, fun h => by cases h⟩
    by_cases c4 : c = 4
    · obtain ⟨v, q2, hr2, hq2, _⟩ := part_gen hq 1 (by omega)
      exact ⟨i, ver, s, ps ++ [v], en, q2, (by refine ev_step ?_ (fun k => by rw [awardingbodymake_Tape_Item.j2]); exact ev_pos rfl (ev_bind_now hr (ev_neg c0 (ev_neg c1 (ev_neg c2 (ev_neg c3 (ev_pos c4 (ev_bind hr2 (ev_pos (by omega) (ev_some rfl)))))))))), hq2, by omega, by simp; omega, by omega, fun h => by cases h⟩
    by_cases c5 : c = 5
    · obtain ⟨x, q2, hr2, hq2, _⟩ := pick_ok hq [0, id, (-1), 10000, 3] (by simp) (by simp)
      exact ⟨i, ver, s, ps, en ++ [x], q2, (by refine ev_step ?_ (fun k => by rw [awardingbodymake_Tape_Item.j2]); exact ev_pos rfl (ev_bind_now hr (ev_neg c0 (ev_neg c1 (ev_neg c2 (ev_neg c3 (ev_neg c4 (ev_pos c5 (ev_bind_now hr2 (ev_pos (by omega) (ev_some rfl))))))))))), hq2, by omega, by omega, by simp; omega, fun h => by cases h⟩
    · refine ⟨i, ver, s, _, en, q, (by refine ev_step ?_ (fun k => by rw [awardingbodymake_Tape_Item.j2]); exact ev_pos rfl (ev_bind_now hr (ev_neg c0 (ev_neg c1 (ev_neg c2 (ev_neg c3 (ev_neg c4 (ev_neg c5 (ev_pos (by omega) (ev_bind_now rfl (ev_pos (by simp only [List.length_cons, List.length_nil]; omega) (ev_some rfl)))))))))))), hq, by omega, ?_, by omega, fun h => by cases h⟩
      simp only [List.length_append, List.length_cons, List.length_nil]; omega
  · exact ⟨i, ver, s, ps, en, p, (by refine ev_step ?_ (fun k => by rw [awardingbodymake_Tape_Item.j2]); exact ev_neg hb (ev_some rfl)), h, by omega, by omega, by omega, fun _ => ⟨rfl, rfl, rfl, rfl, rfl⟩⟩
theorem item_l1 (L : List Int) (n : Int) (hn : n ≤ 1000000) (id i ver : Int) (s : ByteArray) (ps : List Part) (h1 : s.size ≤ 41) (h2 : 1 ≤ ps.length ∧ ps.length ≤ 90) (d : Nat) :
    ∀ (e : Int) (en : List Int) (p : Int), e + d = 6 → 0 ≤ e → EnOk id e en → TP L p →
    ∃ (i' ver' : Int) (s' : ByteArray) (ps' : List Part) (en' : List Int) (q : Int), Ev (fun k => awardingbodymake_Tape_Item.l1 k id n e L p i ver s ps en) (i', ver', s', ps', en', q) ∧ TP L q ∧ s'.size ≤ 100 ∧ ps'.length ≤ 100 ∧ en'.length ≤ 100 ∧ (n ≤ 0 → i' = i ∧ ver' = ver ∧ s' = s ∧ ps' = ps ∧ EnOk id 6 en') := by
  induction d with
  | zero =>
    intro e en p he h0 hen hp
    have e6 : e = 6 := by omega
    subst e6
    by_cases hn0 : n > 0
    · obtain ⟨b, q1, hr, hq1⟩ := one_ok hp n (by omega)
      obtain ⟨i', ver', s', ps', en', q, hv, hq, a, b, c, _⟩ := item_j2 hq1 b id i ver s ps en h1 h2 (by have := hen.2.2; omega)
      exact ⟨i', ver', s', ps', en', q, (by refine ev_step ?_ (fun k => by rw [awardingbodymake_Tape_Item.l1]); exact ev_neg (by omega) (ev_pos hn0 (ev_bind_now hr hv))), hq, a, b, c, by omega⟩
    · obtain ⟨i', ver', s', ps', en', q, hv, hq, a, b, c, hk⟩ := item_j2 hp false id i ver s ps en h1 h2 (by have := hen.2.2; omega)
      refine ⟨i', ver', s', ps', en', q, (by refine ev_step ?_ (fun k => by rw [awardingbodymake_Tape_Item.l1]); exact ev_neg (by omega) (ev_neg hn0 hv)), hq, a, b, c, fun _ => ?_⟩
      obtain ⟨a, b, c, d, e⟩ := hk rfl
      exact ⟨a, b, c, d, e ▸ hen⟩
  | succ d ih =>
    intro e en p he h0 hen hp
    have w : wrap64 (e + 1) = e + 1 := wrap_id (by omega) (by omega)
    by_cases hid : e = id
    · obtain ⟨i', ver', s', ps', en', q, hv, rest⟩ := ih (e + 1) en p (by omega) (by omega) (enOk_up hen) hp
      refine ⟨i', ver', s', ps', en', q, (by refine ev_step ?_ (fun k => by rw [awardingbodymake_Tape_Item.l1]); refine ev_pos (by omega) (ev_pos hid ?_); rw [w]; exact hv), rest⟩
    · obtain ⟨b, q1, hr, hq1⟩ := one_ok hp 8 (by omega)
      by_cases hb : b = true
      · obtain ⟨i', ver', s', ps', en', q, hv, rest⟩ := ih (e + 1) (en ++ [e]) q1 (by omega) (by omega) (enOk_app hen h0 (by omega) hid) hq1
        refine ⟨i', ver', s', ps', en', q, (by refine ev_step ?_ (fun k => by rw [awardingbodymake_Tape_Item.l1]); refine ev_pos (by omega) (ev_neg hid (ev_bind_now hr (ev_pos hb (ev_pos (by have := hen.2.2; omega) ?_)))); rw [w]; exact hv), rest⟩
      · obtain ⟨i', ver', s', ps', en', q, hv, rest⟩ := ih (e + 1) en q1 (by omega) (by omega) (enOk_up hen) hq1
        refine ⟨i', ver', s', ps', en', q, (by refine ev_step ?_ (fun k => by rw [awardingbodymake_Tape_Item.l1]); refine ev_pos (by omega) (ev_neg hid (ev_bind_now hr (ev_neg hb ?_))); rw [w]; exact hv), rest⟩
theorem item_l0 (L : List Int) (n : Int) (hn : n ≤ 1000000) (id i ver : Int) (s : ByteArray) (h1 : s.size ≤ 41) (d : Nat) :
    ∀ (ps : List Part) (p : Int), 1 ≤ ps.length + d → ps.length + d ≤ 90 → (∀ v ∈ ps, pB v = true) → TP L p →
    ∃ (i' ver' : Int) (s' : ByteArray) (ps' : List Part) (en' : List Int) (q : Int), Ev (fun k => awardingbodymake_Tape_Item.l0 k id n (d : Int) L p i ver s ps) (i', ver', s', ps', en', q) ∧ TP L q ∧ s'.size ≤ 100 ∧ ps'.length ≤ 100 ∧ en'.length ≤ 100 ∧ (n ≤ 0 → i' = i ∧ ver' = ver ∧ s' = s ∧ ps'.length = ps.length + d ∧ (∀ v ∈ ps', pB v = true) ∧ EnOk id 6 en') := by
  induction d with
  | zero =>
    intro ps p hl1 hl2 hps hp
    have hen : EnOk id 0 [] := ⟨by rw [enB_iff]; intro i hi; simp at hi, by simp, by simp⟩
    obtain ⟨i', ver', s', ps', en', q, hv, hq, a, b, c, hk⟩ := item_l1 L n hn id i ver s ps h1 ⟨by omega, by omega⟩ 6 0 [] p (by omega) (by omega) hen hp
    refine ⟨i', ver', s', ps', en', q, (by refine ev_step ?_ (fun k => by rw [awardingbodymake_Tape_Item.l0]); exact ev_neg (by omega) hv), hq, a, b, c, fun h0 => ?_⟩
    obtain ⟨a, b, c, d, e⟩ := hk h0
    exact ⟨a, b, c, by rw [d]; omega, by rw [d]; exact hps, e⟩
  | succ d ih =>
    intro ps p hl1 hl2 hps hp
    obtain ⟨v, q1, hr, hq1, hvp⟩ := part_gen hp 0 (by omega)
    obtain ⟨i', ver', s', ps', en', q, hv, hq, a, b, c, hk⟩ := ih (ps ++ [v]) q1 (by simp; omega) (by simp; omega) (fun x hx => by
      rcases List.mem_append.1 hx with h | h
      · exact hps x h
      · rw [List.mem_singleton.1 h]; exact hvp (by omega)) hq1
    refine ⟨i', ver', s', ps', en', q, (by refine ev_step ?_ (fun k => by rw [awardingbodymake_Tape_Item.l0]); refine ev_pos (by omega) (ev_bind hr (ev_pos (by omega) ?_)); rw [wrap_id (x := ((d + 1 : Nat) : Int) - 1) (by omega) (by omega), show ((d + 1 : Nat) : Int) - 1 = (d : Int) by omega]; exact hv), hq, a, b, c, fun h0 => ?_⟩
    · obtain ⟨a, b, c, d, e⟩ := hk h0
      exact ⟨a, b, c, by rw [d]; simp; omega, e⟩
theorem item_gen {L : List Int} {p : Int} (h : TP L p) (id ver n : Int) (hn : n ≤ 1000000) :
    ∃ (i' ver' : Int) (s' : ByteArray) (ps' : List Part) (en' : List Int) (q : Int), Ev (fun k => awardingbodymake_Tape_Item.f k L p id ver n) (i', ver', s', ps', en', q) ∧ TP L q ∧ s'.size ≤ 100 ∧ ps'.length ≤ 100 ∧ en'.length ≤ 100 ∧
      (n ≤ 0 → i' = id ∧ ver' = ver ∧ 1 ≤ s'.size ∧ s'.size ≤ 4 ∧ stemB s' = false ∧ 1 ≤ ps'.length ∧ ps'.length ≤ 3 ∧ (∀ v ∈ ps', pB v = true) ∧ enB id en' = false ∧ en'.length ≤ 6) := by
  obtain ⟨w, q1, hw, hq1, hwl, hwp⟩ := word_gen h
  obtain ⟨d, q2, hr, hq2, hd⟩ := range_ok hq1 1 3 (by omega) (by omega) (by omega)
  obtain ⟨d, rfl⟩ : ∃ m : Nat, d = m := ⟨d.toNat, by omega⟩
  have hz : ((⟨#[113]⟩ : ByteArray) ++ w).size = 1 + w.size := ByteArray.size_append ..
  have hp : Plain ((⟨#[113]⟩ : ByteArray) ++ w) := plain_app (fun v hv => by
    have : v = 113 := by simpa [bytesOf] using hv
    subst this; decide) hwp
  obtain ⟨i', ver', s', ps', en', q, hv, hq, a, b, c, hk⟩ := item_l0 L n hn id id ver ((⟨#[113]⟩ : ByteArray) ++ w) (by omega) d [] q2 (by simp; omega) (by simp; omega) (by simp) hq2
  refine ⟨i', ver', s', ps', en', q, ?_, hq, a, b, c, fun h0 => ?_⟩
  · unfold awardingbodymake_Tape_Item.f
    exact ev_bind hw (ev_pos (show 1 + w.size ≤ 9223372036854775807 by omega) (ev_bind_now hr hv))
  · obtain ⟨a, b, c, e, f, g⟩ := hk h0
    simp only [List.length_nil] at e
    refine ⟨a, b, ?_, ?_, ?_, by omega, by omega, f, g.1, by have := g.2.2; omega⟩
    · rw [c]; omega
    · rw [c]; omega
    · rw [c]; exact plain_stem hp

end Go.Proofs.Ytinmdoemkejanaa.Pure
