/- BubbleSplits: for all fields and every tape the law answers true. No further conditions. -/
import Derived.Test.YthbmpjglkbhhgaaPrint17
import Derived.Test.YthbmpjglkbhhgaaPrint14
import Derived.Test.YthbmpjglkbhhgaaPrint15
import Derived.Test.YthbmpjglkbhhgaaPrint16
import Derived.Test.YthbmpjglkbhhgaaPrint3
import Derived.Test.YthbmpjglkbhhgaaTape
namespace Go.Proofs.Ythbmpjglkbhhgaa.Pure
open Go.RowKit Go.Proofs.Ythbmpjglkbhhgaa.Print Go.Proofs.YthbmpjglkbhhgaaW.PrintWords Go.Proofs.YthbmpjglkbhhgaaW.PrintLast Go.Proofs.YthbmpjglkbhhgaaW.PrintMore
set_option linter.unusedVariables false

abbrev Fld := S46
theorem awake_s : Ev (fun k => awardingbodylaw20_awake.f k) true := Ev.of awardingbodylaw20_awake.mono (show awardingbodylaw20_awake.f 30 = some true by kernel_rfl)

/-- The runs of one part's fields: the rest of the current run, and those behind it. -/
def splS : List Fld → List Int → List Int → List (List Int)
  | f :: g :: fs, c :: cs, cur => if g.f0 = f.f0 then splS (g :: fs) cs (cur ++ [c]) else (cur ++ [c]) :: splS (g :: fs) cs []
  | [_], c :: _, cur => [cur ++ [c]]
  | _, _, _ => []
def splR : Int → List Fld → List Int → List Int → List (List Int)
  | p, f :: fs, c :: cs, cur => if f.f0 = p then splR p fs cs (cur ++ [c]) else cur :: splR f.f0 fs cs [c]
  | _, _, _, cur => [cur]
theorem spl_same : ∀ (fs : List Fld) (cs : List Int) (f : Fld) (c : Int) (cur : List Int), fs.length = cs.length → splS (f :: fs) (c :: cs) cur = splR f.f0 fs cs (cur ++ [c])
  | [], cs, f, c, cur, _ => by simp [splS, splR]
  | g :: fs, [], _, _, _, h => by simp at h
  | g :: fs, d :: cs, f, c, cur, h => by
    have h' : fs.length = cs.length := by simpa using h
    rw [splS, splR]
    by_cases e : g.f0 = f.f0
    · rw [if_pos e, if_pos e, spl_same fs cs g d _ h', e]
    · rw [if_neg e, if_neg e, spl_same fs cs g d _ h', List.nil_append]
theorem splR_len : ∀ (fs : List Fld) (cs : List Int) (p : Int) (cur : List Int), (splR p fs cs cur).length ≤ fs.length + 1 ∧ ∀ r ∈ splR p fs cs cur, r.length ≤ cur.length + cs.length + 1
  | [], cs, p, cur => by simp [splR]; omega
  | f :: fs, [], p, cur => by simp [splR]
  | f :: fs, c :: cs, p, cur => by
    rw [splR]
    by_cases e : f.f0 = p
    · rw [if_pos e]
      have h := splR_len fs cs p (cur ++ [c])
      refine ⟨by simp; omega, fun r hr => ?_⟩
      have := h.2 r hr
      simp at this ⊢; omega
    · rw [if_neg e]
      have h := splR_len fs cs f.f0 [c]
      refine ⟨by simp; omega, fun r hr => ?_⟩
      rcases List.mem_cons.1 hr with rfl | hr
      · simp; omega
      · have := h.2 r hr
        simp at this ⊢; omega
theorem seg_snoc (C : List Int) (fr i : Nat) (h1 : fr ≤ i) (h2 : i < C.length) : (C.take (i + 1)).drop fr = (C.take i).drop fr ++ [C.getD i 0] := by
  rw [List.take_add_one, List.drop_append_of_le_length (by rw [List.length_take]; omega), List.getElem?_eq_getElem h2, List.getD_eq_getElem?_getD, List.getElem?_eq_getElem h2]
  rfl
theorem rdf (F : List Fld) (i : Nat) : rd_T46 F (i : Int) = F.getD i z46 := by unfold rd_T46; rw [Int.toNat_natCast]
theorem rdi (l : List Int) (i : Nat) : rd l (i : Int) = l.getD i 0 := by unfold rd; rw [Int.toNat_natCast]
theorem rdl_nat (X : List (List Int)) (i : Nat) : rd_L2 X (i : Int) = X.getD i [] := by unfold rd_L2; rw [Int.toNat_natCast]
theorem getD_in {α : Type} (l : List α) (d : α) (i : Nat) (h : i < l.length) : l.getD i d ∈ l := by
  rw [List.getD_eq_getElem?_getD, List.getElem?_eq_getElem h]
  exact List.getElem_mem _
theorem last_get (X : List (List Int)) (cur : List Int) (hx : X.length ≤ 1000000) : wrap64 (((X ++ [cur]).length : Int) - 1) = (X.length : Int) ∧ rd_L2 (X ++ [cur]) (X.length : Int) = cur := by
  constructor
  · rw [List.length_append, List.length_singleton, wrap_id (by omega) (by omega)]; omega
  · unfold rd_L2
    rw [Int.toNat_natCast, List.getD_eq_getElem?_getD, List.getElem?_append_right (Nat.le_refl _), Nat.sub_self]
    rfl
theorem last_set (X : List (List Int)) (cur z : List Int) : (X ++ [cur]).set ((X.length : Int)).toNat z = X ++ [z] := by
  rw [Int.toNat_natCast, List.set_append_right _ _ (Nat.le_refl _), Nat.sub_self]
  rfl

section
variable (F : List Fld) (C : List Int) (hF : F.length ≤ 1000) (hC : C.length = F.length)
include hF hC
theorem split_l0 (d : Nat) : ∀ (i fr : Nat) (out : List (List Int)), i + d = F.length → fr ≤ i → out.length ≤ i →
    Ev (fun k => bubble_Split.l0 k F C out (fr : Int) (F.length : Int) (i : Int)) (out ++ splS (F.drop i) (C.drop i) ((C.take i).drop fr), 0) := by
  induction d with
  | zero =>
    intro i fr out hi hfr ho
    refine ev_step ?_ (fun k => by rw [bubble_Split.l0])
    rw [List.drop_of_length_le (show F.length ≤ i by omega)]
    exact ev_neg (by omega) (ev_some (by simp [splS]))
  | succ d ih =>
    intro i fr out hi hfr ho
    refine ev_step ?_ (fun k => by rw [bubble_Split.l0])
    have hs := seg_snoc C fr i hfr (by omega)
    have hn := ih (i + 1) (i + 1) (out ++ [(C.take (i + 1)).drop fr]) (by omega) (Nat.le_refl _) (by first | omega | (simp; done) | (simp; omega))
    have he : (C.take (i + 1)).drop (i + 1) = [] := List.drop_of_length_le (by rw [List.length_take]; omega)
    rw [he] at hn
    rw [next_index i F.length (by omega) (by omega), drop_cons_at C 0 i (by omega), Int.toNat_natCast, Int.toNat_natCast]
    refine ev_pos (by omega) (ev_ite (fun h => ?_) (fun h => ?_))
    · refine ev_pos (by omega) (ev_pos (by omega) (ev_pos (by omega) (ev_pos (by omega) (ev_eq hn ?_))))
      rw [drop_cons_at F z46 i (by omega), List.drop_of_length_le (show F.length ≤ i + 1 by omega), hs]
      simp [splS]
    · have hd : F.drop i = F.getD i z46 :: F.getD (i + 1) z46 :: F.drop (i + 1 + 1) := by
        rw [drop_cons_at F z46 i (by omega), drop_cons_at F z46 (i + 1) (by omega)]
      have hd1 : F.drop (i + 1) = F.getD (i + 1) z46 :: F.drop (i + 1 + 1) := drop_cons_at F _ (i + 1) (by omega)
      rw [rdf, rdf]
      refine ev_pos (by omega) (ev_pos (by omega) (ev_pos (by omega) (ev_pos (by omega) (ev_ite (fun e => ?_) (fun e => ?_)))))
      · refine ev_eq (ih (i + 1) fr out (by omega) (by omega) (by omega)) ?_
        rw [hd, splS, if_pos e, hd1, hs]
      · refine ev_pos (by omega) (ev_pos (by omega) (ev_pos (by omega) (ev_pos (by omega) (ev_eq hn ?_))))
        rw [hd, splS, if_neg e, hd1, hs, List.append_assoc]
        rfl
theorem rsplit_l0 (d : Nat) : ∀ (i : Nat) (X : List (List Int)) (cur : List Int), i + 1 + d = F.length → X.length ≤ i → cur.length ≤ i + 1 →
    Ev (fun k => awardingbodyref20_Split.l0 k F C (X ++ [cur]) ((i + 1 : Nat) : Int)) (X ++ splR (F.getD i z46).f0 (F.drop (i + 1)) (C.drop (i + 1)) cur, 0) := by
  induction d with
  | zero =>
    intro i X cur hi hx hc
    refine ev_step ?_ (fun k => by rw [awardingbodyref20_Split.l0])
    rw [List.drop_of_length_le (show F.length ≤ i + 1 by omega)]
    exact ev_neg (by omega) (ev_some (by simp [splR]))
  | succ d ih =>
    intro i X cur hi hx hc
    refine ev_step ?_ (fun k => by rw [awardingbodyref20_Split.l0])
    have hp : wrap64 (((i + 1 : Nat) : Int) - 1) = (i : Int) := by rw [wrap_id (by omega) (by omega)]; omega
    have hg := last_get X cur (by omega)
    have hg2 := last_get (X ++ [cur]) [] (by first | omega | (simp; done) | (simp; omega))
    rw [next_index (i + 1) F.length (by omega) (by omega), hp, rdf, rdf, rdi, hg.1, hg.2, last_set, drop_cons_at F z46 (i + 1) (by omega), drop_cons_at C 0 (i + 1) (by omega), splR]
    refine ev_pos (by omega) (ev_neg (by omega) (ev_pos (by omega) (ev_pos (by omega) (ev_pos (by omega) (ev_ite (fun e => ?_) (fun e => ?_))))))
    · rw [if_pos e]
      refine ev_pos (by omega) (ev_pos (by first | omega | (simp; done) | (simp; omega)) (ev_pos (by omega) (ev_pos (by omega) ?_)))
      refine ev_eq (ih (i + 1) X (cur ++ [C.getD (i + 1) 0]) (by omega) (by omega) (by first | omega | (simp; done) | (simp; omega))) ?_
      rw [e]
    · rw [if_neg e]
      refine ev_pos (by first | omega | (simp; done) | (simp; omega)) (ev_bind_now rfl ?_)
      rw [hg2.1, hg2.2, last_set]
      refine ev_pos (by omega) (ev_pos (by first | omega | (simp; done) | (simp; omega)) (ev_pos (by omega) (ev_pos (by first | omega | (simp; done) | (simp; omega)) ?_)))
      refine ev_eq (ih (i + 1) (X ++ [cur]) [C.getD (i + 1) 0] (by omega) (by first | omega | (simp; done) | (simp; omega)) (by simp)) ?_
      rw [List.append_assoc]; rfl
/-- What both come to. -/
theorem both_eq : ∃ X : List (List Int), X.length ≤ 1001 ∧ (∀ r ∈ X, r.length ≤ 1002) ∧ Ev (fun k => bubble_Split.f k F C) (X, 0) ∧ Ev (fun k => awardingbodyref20_Split.f k F C) (X, 0) := by
  cases hF0 : F with
  | nil =>
    subst hF0
    have h0 : C = [] := List.eq_nil_of_length_eq_zero (by simpa using hC)
    subst h0
    refine ⟨[], by simp, by simp, ?_, ?_⟩
    · unfold bubble_Split.f slices_Clone_int_int.f
      refine ev_pos rfl (ev_bind_now (a := []) (by simp) ?_)
      refine ev_step ?_ (fun k => by rw [bubble_Split.l0])
      exact ev_neg (by simp) (ev_some rfl)
    · unfold awardingbodyref20_Split.f
      refine ev_pos rfl (ev_step ?_ (fun k => by rw [awardingbodyref20_Split.l0]))
      exact ev_neg (by simp) (ev_some rfl)
  | cons f fs =>
    obtain ⟨c, cs, rfl⟩ : ∃ c cs, C = c :: cs := by
      cases C with
      | nil => rw [hF0] at hC; simp at hC
      | cons c cs => exact ⟨c, cs, rfl⟩
    subst hF0
    have hl : fs.length = cs.length := by simpa using hC.symm
    have hb : fs.length + 1 ≤ 1000 := by simpa using hF
    have hq := splR_len fs cs f.f0 [c]
    refine ⟨splR f.f0 fs cs [c], by omega, fun r hr => by have := hq.2 r hr; simp at this; omega, ?_, ?_⟩
    · unfold bubble_Split.f slices_Clone_int_int.f
      refine ev_pos (by first | omega | (simp; done) | (simp; omega)) (ev_bind_now (a := c :: cs) ?_ ?_)
      · show (if ([] : List Int).length + (c :: cs).length < _ then _ else _) = _
        rw [if_pos (by first | omega | (simp; done) | (simp; omega))]; rfl
      · refine ev_eq (split_l0 (f :: fs) (c :: cs) hF hC (f :: fs).length 0 0 [] (Nat.zero_add _) (Nat.le_refl _) (Nat.le_refl _)) ?_
        simp only [List.drop_zero, List.take_zero, List.nil_append]
        rw [spl_same fs cs f c [] hl, List.nil_append]
    · unfold awardingbodyref20_Split.f
      refine ev_pos (by first | omega | (simp; done) | (simp; omega)) (ev_step ?_ (fun k => by rw [awardingbodyref20_Split.l0]))
      have hg2 := last_get [] [] (by simp)
      have h1 : wrap64 ((0 : Int) + 1) = ((0 + 1 : Nat) : Int) := by rw [wrap_id (by omega) (by omega)]; rfl
      refine ev_pos (by first | omega | (simp; done) | (simp; omega)) (ev_pos rfl (ev_pos (by first | omega | (simp; done) | (simp; omega)) (ev_bind_now rfl ?_)))
      rw [show (0 : Int) = (([] : List (List Int)).length : Int) from rfl]
      rw [hg2.1, hg2.2, last_set]
      refine ev_pos (by first | omega | (simp; done) | (simp; omega)) (ev_pos (by first | omega | (simp; done) | (simp; omega)) (ev_pos (by first | omega | (simp; done) | (simp; omega)) (ev_pos (by first | omega | (simp; done) | (simp; omega)) (ev_pos (by first | omega | (simp; done) | (simp; omega)) ?_))))
      have := rsplit_l0 (f :: fs) (c :: cs) hF hC fs.length 0 [] [c] (by first | omega | (simp; done) | (simp; omega)) (Nat.le_refl _) (by simp)
      simpa [rd, wrap64] using this
end
theorem both_ne (F : List Fld) (C : List Int) (h : ¬ (F.length : Int) = (C.length : Int)) : Ev (fun k => bubble_Split.f k F C) ([], 1) ∧ Ev (fun k => awardingbodyref20_Split.f k F C) ([], 1) := by
  unfold bubble_Split.f awardingbodyref20_Split.f
  exact ⟨ev_neg h (ev_some rfl), ev_neg h (ev_some rfl)⟩
theorem both (F : List Fld) (C : List Int) (hF : F.length ≤ 1000) : ∃ (X : List (List Int)) (e : Int), X.length ≤ 1001 ∧ (∀ r ∈ X, r.length ≤ 1002) ∧ Ev (fun k => bubble_Split.f k F C) (X, e) ∧ Ev (fun k => awardingbodyref20_Split.f k F C) (X, e) := by
  by_cases h : (F.length : Int) = (C.length : Int)
  · obtain ⟨X, h1, h2, h3, h4⟩ := both_eq F C hF (by omega)
    exact ⟨X, 0, h1, h2, h3, h4⟩
  · exact ⟨[], 1, by simp, by simp, both_ne F C h⟩

theorem ints_loop (l : List Int) (hl : l.length ≤ 1000000000000) (d : Nat) : ∀ i : Nat, i + d = l.length → Ev (fun k => awardingbodyref06_Ints.l0 k l l (i : Int)) true := by
  induction d with
  | zero =>
    intro i hi
    refine ev_step ?_ (fun k => by rw [awardingbodyref06_Ints.l0])
    exact ev_neg (by omega) (ev_some rfl)
  | succ d ih =>
    intro i hi
    refine ev_step ?_ (fun k => by rw [awardingbodyref06_Ints.l0])
    rw [next_index i l.length (by omega) hl]
    exact ev_pos (by omega) (ev_pos (by omega) (ev_pos (by omega) (ev_pos rfl (ih (i + 1) (by omega)))))
theorem ints_self (l : List Int) (hl : l.length ≤ 1000000000000) : Ev (fun k => awardingbodyref06_Ints.f k l l) true := by
  unfold awardingbodyref06_Ints.f
  exact ev_pos rfl (ints_loop l hl l.length 0 (by omega))

theorem law_l5 (X : List (List Int)) (hX : X.length ≤ 1001) (hr : ∀ r ∈ X, r.length ≤ 1002) (d : Nat) : ∀ i : Nat, i + d = X.length → Ev (fun k => awardingbodylaw20_BubbleSplits.l5 k X X (i : Int)) true := by
  induction d with
  | zero =>
    intro i hi
    refine ev_step ?_ (fun k => by rw [awardingbodylaw20_BubbleSplits.l5])
    exact ev_neg (by omega) (ev_bind awake_s (ev_some rfl))
  | succ d ih =>
    intro i hi
    refine ev_step ?_ (fun k => by rw [awardingbodylaw20_BubbleSplits.l5])
    rw [rdl_nat, next_index i X.length (by omega) (by omega)]
    have := hr _ (getD_in X [] i (by omega))
    exact ev_pos (by omega) (ev_pos (by omega) (ev_pos (by omega) (ev_bind (ints_self _ (by omega)) (ev_pos rfl (ih (i + 1) (by omega))))))

section
variable (G : List Fld) (hG : G.length ≤ 40)
include hG
theorem law_l4 (D : List Int) (X : List (List Int)) (hX : X.length ≤ 1001) (hr : ∀ r ∈ X, r.length ≤ 1002) (d : Nat) : ∀ i : Nat, i + d = X.length → Ev (fun k => awardingbodylaw20_BubbleSplits.l4 k G D X X (i : Int)) true := by
  induction d with
  | zero =>
    intro i hi
    refine ev_step ?_ (fun k => by rw [awardingbodylaw20_BubbleSplits.l4])
    obtain ⟨Y, e, h1, h2, h3, h4⟩ := both G D (by omega)
    refine ev_neg (by omega) (ev_bind h3 (ev_bind h4 (ev_pos rfl ?_)))
    refine ev_step ?_ (fun k => by rw [awardingbodylaw20_BubbleSplits.j5])
    exact ev_neg (by simp) (law_l5 Y h1 h2 Y.length 0 (Nat.zero_add _))
  | succ d ih =>
    intro i hi
    refine ev_step ?_ (fun k => by rw [awardingbodylaw20_BubbleSplits.l4])
    rw [rdl_nat, next_index i X.length (by omega) (by omega)]
    have := hr _ (getD_in X [] i (by omega))
    exact ev_pos (by omega) (ev_pos (by omega) (ev_pos (by omega) (ev_bind (ints_self _ (by omega)) (ev_pos rfl (ih (i + 1) (by omega))))))
theorem law_j2 (F : List Fld) (C D : List Int) (hF : F.length ≤ 1000) : Ev (fun k => awardingbodylaw20_BubbleSplits.j2 k G F C D) true := by
  refine ev_step ?_ (fun k => by rw [awardingbodylaw20_BubbleSplits.j2])
  obtain ⟨X, e, h1, h2, h3, h4⟩ := both F C hF
  refine ev_bind h3 (ev_bind h4 (ev_pos rfl ?_))
  refine ev_step ?_ (fun k => by rw [awardingbodylaw20_BubbleSplits.j3])
  exact ev_neg (by simp) (law_l4 G hG D X h1 h2 X.length 0 (Nat.zero_add _))
theorem law_l1 (F : List Fld) (C : List Int) (hF : F.length ≤ 1000) (hC : C.length ≤ 1000) {L : List Int} {p : Int} (h : TP L p) (d : Nat) : ∀ (i : Nat) (D : List Int), i + d = G.length → D.length = i →
    Ev (fun k => awardingbodylaw20_BubbleSplits.l1 k G F C D (i : Int) L p) true := by
  induction d with
  | zero =>
    intro i D hi hD
    refine ev_step ?_ (fun k => by rw [awardingbodylaw20_BubbleSplits.l1])
    obtain ⟨b, q, ho, hq⟩ := one_ok h 8 (by omega)
    refine ev_neg (by omega) (ev_bind_now ho (ev_ite (fun _ => ev_pos (by omega) (law_j2 G hG F _ D hF)) (fun _ => law_j2 G hG F _ D hF)))
  | succ d ih =>
    intro i D hi hD
    refine ev_step ?_ (fun k => by rw [awardingbodylaw20_BubbleSplits.l1])
    rw [next_index i G.length (by omega) (by omega)]
    exact ev_pos (by omega) (ev_pos (by omega) (ih (i + 1) _ (by omega) (by simp [hD])))
theorem law_l0 {L : List Int} (d : Nat) : ∀ (n : Nat) (F : List Fld) (C : List Int) (p : Int), TP L p → n = d → F.length + n ≤ 12 → C.length + n ≤ 12 →
    Ev (fun k => awardingbodylaw20_BubbleSplits.l0 k G F C (n : Int) L p) true := by
  induction d with
  | zero =>
    intro n F C p h hn hF hC
    refine ev_step ?_ (fun k => by rw [awardingbodylaw20_BubbleSplits.l0])
    exact ev_neg (by omega) (law_l1 G hG F C (by omega) (by omega) h G.length 0 [] (Nat.zero_add _) rfl)
  | succ d ih =>
    intro n F C p h hn hF hC
    refine ev_step ?_ (fun k => by rw [awardingbodylaw20_BubbleSplits.l0])
    obtain ⟨a, q1, h1, hq1, _⟩ := next_ok h 3 (by omega)
    obtain ⟨b, q2, h2, hq2, _⟩ := next_ok hq1 3 (by omega)
    obtain ⟨c, q3, h3, hq3, _⟩ := next_ok hq2 10 (by omega)
    rw [wrap_id (x := (n : Int) - 1) (by omega) (by omega), show (n : Int) - 1 = ((n - 1 : Nat) : Int) by omega]
    exact ev_pos (by omega) (ev_bind_now h1 (ev_bind_now h2 (ev_pos (by omega) (ev_bind_now h3 (ev_pos (by omega) (ih (n - 1) _ _ _ hq3 (by omega) (by first | omega | (simp; done) | (simp; omega)) (by first | omega | (simp; done) | (simp; omega))))))))
end

theorem BubbleSplits : awardingbodylaw20_BubbleSplits.Pure := by
  intro G l _ _ _ _ _ _
  obtain ⟨M, h0, hp⟩ := new_ok l
  obtain ⟨n, q, h1, hq, hn, _⟩ := next_ok hp 12 (by omega)
  refine Ev.rounds (g := fun k => awardingbodylaw20_BubbleSplits.f k G l) ?_
  unfold awardingbodylaw20_BubbleSplits.f
  refine ev_ite (fun _ => ev_some rfl) (fun hG => ev_bind_now h0 (ev_bind_now h1 ?_))
  obtain ⟨m, rfl⟩ : ∃ m : Nat, n = (m : Int) := ⟨n.toNat, by omega⟩
  exact law_l0 G (by omega) m m [] [] q hq rfl (by first | omega | (simp; done) | (simp; omega)) (by first | omega | (simp; done) | (simp; omega))

end Go.Proofs.Ythbmpjglkbhhgaa.Pure
