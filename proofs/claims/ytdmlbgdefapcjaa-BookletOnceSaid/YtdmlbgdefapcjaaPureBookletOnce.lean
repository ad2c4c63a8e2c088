/- BookletOnce: for every tape the law answers true. No further conditions. -/
import Derived.Test.YtdmlbgdefapcjaaPrint8
import Derived.Test.YtdmlbgdefapcjaaPrint1
import Derived.Test.YtdmlbgdefapcjaaPrint7
import Derived.Test.YtdmlbgdefapcjaaPaperGen
import Derived.Test.YtdmlbgdefapcjaaFields
namespace Go.Proofs.Ytdmlbgdefapcjaa.Pure
open Go.RowKit Go.Proofs.Ytdmlbgdefapcjaa.Print Go.Proofs.YtdmlbgdefapcjaaW.PrintWords Go.Proofs.YtdmlbgdefapcjaaW.PrintLast Go.Proofs.YtdmlbgdefapcjaaW.PrintMore
set_option linter.unusedVariables false
set_option linter.unusedSectionVars false

/-! The numbers of the choice parts. -/
def ch : List Part → Nat → List Int
  | [], _ => []
  | p :: l, i => if p.f0 = 2 then (i : Int) :: ch l (i + 1) else ch l (i + 1)
theorem ch_length : ∀ (l : List Part) (i : Nat), (ch l i).length ≤ l.length
  | [], _ => by simp [ch]
  | p :: l, i => by
    have := ch_length l (i + 1)
    unfold ch
    split
    · simp only [List.length_cons]; omega
    · simp only [List.length_cons]; omega
theorem ch_loop (l : List Part) (hl : l.length ≤ 1000000000000) (d : Nat) : ∀ (i : Nat) (acc : List Int), i + d = l.length → acc.length ≤ i → Ev (fun k => item_Choices.l0 k acc l (l.length : Int) (i : Int)) (acc ++ ch (l.drop i) i) := by
  induction d with
  | zero =>
    intro i acc hi ha
    refine ev_step ?_ (fun k => by rw [item_Choices.l0])
    rw [List.drop_of_length_le (by omega), ch, List.append_nil]
    exact ev_neg (by omega) (ev_some rfl)
  | succ d ih =>
    intro i acc hi ha
    refine ev_step ?_ (fun k => by rw [item_Choices.l0])
    rw [rdp_nat, drop_cons_at l z23 i (by omega), next_index i l.length (by omega) hl, ch]
    refine ev_pos (by omega) (ev_pos (by omega) (ev_pos (by omega) (ev_ite (fun h => ev_pos (by omega) (ev_eq (ih (i + 1) _ (by omega) (by simp; omega)) ?_)) (fun h => ev_eq (ih (i + 1) _ (by omega) (by omega)) ?_))))
    · rw [if_pos h, List.append_assoc]; rfl
    · rw [if_neg h]
def chS (c v : Int) (ps : List Part) : List Int := if vpS c v ps = true then ch ps 0 else []
theorem ch_ev (c v : Int) (ps : List Part) (hp : ps.length ≤ 1000000000000) : Ev (fun k => item_Choices.f k c v ps) (chS c v ps) := by
  unfold item_Choices.f chS
  refine ev_bind (vp_ev c v ps hp) (ev_ite (fun h => ?_) (fun h => ev_some (by rw [if_neg h])))
  rw [if_pos h]
  exact ch_loop ps hp ps.length 0 [] (by omega) (by simp)

/-! Make's pages, read as Valid reads them. -/
theorem rap (ps : List Part) : ∀ (r r2 : List Int) (nx : Nat) (s : Int), rowS ps (r ++ r2) nx s = (rowS ps r nx s).bind fun q => rowS ps r2 q.1 q.2
  | [], r2, nx, s => rfl
  | x :: r, r2, nx, s => by
    rw [List.cons_append, rowS, rowS]
    by_cases h : x = (nx : Int) ∧ nx < ps.length
    · rw [if_pos h, if_pos h]; exact rap ps r r2 _ _
    · rw [if_neg h, if_neg h]; rfl
theorem rnl (ps : List Part) (m : Nat) : rowsS ps (List.replicate m []) ps.length = true := by
  induction m with
  | zero => simp [rowsS]
  | succ m ih => rw [List.replicate_succ]; simp only [rowsS, rowS]; rw [if_neg (by omega)]; exact ih
theorem rcs (ps : List Part) (r : List Int) (rs : List (List Int)) (nx m : Nat) (s : Int) (h : rowS ps r nx 0 = some (m, s)) (hs : ¬ s > 30) : rowsS ps (r :: rs) nx = rowsS ps rs m := by
  simp only [rowsS, h, if_neg hs]
theorem pkv (ps : List Part) (m : Nat) (d : Nat) : ∀ (i a : Nat) (left : Int) (cur : List Int), i + d = ps.length → 0 ≤ left → left ≤ 30 → rowS ps cur a 0 = some (i, 30 - left) →
    rowsS ps (pk (ps.drop i) i left cur ++ List.replicate m []) a = true := by
  induction d with
  | zero =>
    intro i a left cur hi h0 h1 hc
    rw [List.drop_of_length_le (by omega), pk]
    show rowsS ps (cur :: List.replicate m []) a = true
    rw [rcs ps cur _ a i _ hc (by omega), show i = ps.length by omega]
    exact rnl ps m
  | succ d ih =>
    intro i a left cur hi h0 h1 hc
    have hn := need_le (ps.getD i z23)
    rw [drop_cons_at ps z23 i (by omega), pk]
    by_cases hlt : left < need (ps.getD i z23)
    · rw [if_pos hlt]
      show rowsS ps (cur :: (pk _ _ _ _ ++ List.replicate m [])) a = true
      rw [rcs ps cur _ a i _ hc (by omega)]
      refine ih (i + 1) i _ _ (by omega) (by omega) (by omega) ?_
      simp only [rowS]
      rw [if_pos ⟨by trivial, by omega⟩]
      unfold partAt
      rw [show 30 - (30 - need (ps.getD i z23)) = 0 + need (ps.getD i z23) by omega]
    · rw [if_neg hlt]
      refine ih (i + 1) a _ _ (by omega) (by omega) (by omega) ?_
      rw [rap, hc]
      simp only [Option.bind_some, rowS]
      rw [if_pos ⟨by trivial, by omega⟩]
      unfold partAt
      rw [show 30 - (left - need (ps.getD i z23)) = 30 - left + need (ps.getD i z23) by omega]
theorem mkv (c v : Int) (ps : List Part) (h : (makeS c v ps).2 = 0) : bvS c v ps (makeS c v ps).1 = true ∧ rowsS ps (makeS c v ps).1 0 = true := by
  unfold makeS at *
  by_cases h1 : vpS c v ps = true
  · rw [if_pos h1] at *
    unfold endS at *
    by_cases h2 : (fillS ([[]] ++ pk ps 0 30 [])).length > 12
    · rw [if_pos h2] at h; cases h
    · rw [if_neg h2] at *
      have hr : rowsS ps (fillS ([[]] ++ pk ps 0 30 [])) 0 = true := by
        unfold fillS
        generalize (4 - ([[]] ++ pk ps 0 30 []).length % 4) % 4 = m
        show rowsS ps ([] :: (pk ps 0 30 [] ++ List.replicate m [])) 0 = true
        rw [rcs ps [] _ 0 0 0 rfl (by omega)]
        have := pkv ps m ps.length 0 0 30 [] (by omega) (by omega) (by omega) rfl
        rw [List.drop_zero] at this
        exact this
      refine ⟨?_, hr⟩
      obtain ⟨f1, f2, f3⟩ := fill_len ([[]] ++ pk ps 0 30 [])
      unfold bvS
      have hl : 1 ≤ (fillS ([[]] ++ pk ps 0 30 [])).length := by
        rw [List.length_append] at f2
        simp only [List.length_cons, List.length_nil] at f2; omega
      rw [if_pos h1, if_pos ⟨hl, by show (fillS ([[]] ++ pk ps 0 30 [])).length ≤ 12; omega, f1, rfl⟩]
      exact hr
  · rw [if_neg h1] at h; cases h
theorem make_code (ps : List Part) (hv : vpS 0 0 ps = true) (h : ¬ (makeS 0 0 ps).2 = 0) : (makeS 0 0 ps).2 = 3 := by
  unfold makeS at *
  rw [if_pos hv] at *
  unfold endS at *
  by_cases h2 : (fillS ([[]] ++ pk ps 0 30 [])).length > 12
  · rw [if_pos h2]
  · rw [if_neg h2] at h; exact absurd rfl h

/-! The page of a part. -/
/-- A list holds a number. -/
def hasB (x : Int) : List Int → Bool
  | [] => false
  | y :: t => if y = x then true else hasB x t
/-- The first page that holds a number, from a page on. -/
def pgS (x : Int) : List (List Int) → Nat → Int
  | [], _ => -1
  | r :: t, i => if hasB x r = true then (i : Int) else pgS x t (i + 1)

theorem next_big (i n : Nat) (h : i < n) (hn : n ≤ maxLen) : wrap64 ((i : Int) + 1) = ((i + 1 : Nat) : Int) := by
  have hmax : maxLen ≤ 9223372036854775807 := Nat.le_of_ble_eq_true rfl
  rw [wrap_id (by omega) (by omega)]; omega
section
variable (x : Int)
theorem index_l0 (l : List Int) (hl : l.length ≤ maxLen) (d : Nat) : ∀ i : Nat, i + d = l.length → ∃ r, Ev (fun k => slices_Index_int_int.l0 k l x (l.length : Int) (i : Int)) r ∧ decide (r ≥ 0) = hasB x (l.drop i) := by
  induction d with
  | zero =>
    intro i hi
    refine ⟨-1, ?_, ?_⟩
    · refine ev_step ?_ (fun k => by rw [slices_Index_int_int.l0])
      exact ev_neg (by omega) (ev_some rfl)
    · rw [List.drop_of_length_le (by omega)]; rfl
  | succ d ih =>
    intro i hi
    rw [drop_cons_at l 0 i (by omega)]
    by_cases hx : x = l.getD i 0
    · refine ⟨(i : Int), ?_, ?_⟩
      · refine ev_step ?_ (fun k => by rw [slices_Index_int_int.l0])
        rw [rd_int]
        exact ev_pos (by omega) (ev_pos (by omega) (ev_pos (by omega) (ev_pos hx (ev_some rfl))))
      · rw [hasB, if_pos hx.symm]
        exact decide_eq_true (by omega)
    · obtain ⟨r, hr, e⟩ := ih (i + 1) (by omega)
      refine ⟨r, ?_, ?_⟩
      · refine ev_step ?_ (fun k => by rw [slices_Index_int_int.l0])
        rw [rd_int, next_big i l.length (by omega) hl]
        exact ev_pos (by omega) (ev_pos (by omega) (ev_pos (by omega) (ev_neg hx hr)))
      · rw [hasB, if_neg (fun h => hx h.symm)]
        exact e
theorem page1_ev (l : List Int) (hl : l.length ≤ maxLen) : Ev (fun k => booklet_PageOf_1.f k l x) (hasB x l) := by
  obtain ⟨r, hr, e⟩ := index_l0 x l hl l.length 0 (Nat.zero_add _)
  unfold booklet_PageOf_1.f slices_Contains_int_int.f slices_Index_int_int.f
  exact ev_bind (ev_bind hr (ev_some e)) (ev_some rfl)
variable (B : List (List Int)) (hB : B.length ≤ maxLen) (hr : ∀ r ∈ B, r.length ≤ maxLen)
include hB hr
theorem pageof_l0 (d : Nat) : ∀ i : Nat, i + d = B.length → Ev (fun k => slices_IndexFunc_int_int_PageOf_1_s41.l0 k B x (B.length : Int) (i : Int)) (pgS x (B.drop i) i) := by
  induction d with
  | zero =>
    intro i hi
    refine ev_step ?_ (fun k => by rw [slices_IndexFunc_int_int_PageOf_1_s41.l0])
    rw [List.drop_of_length_le (by omega)]
    exact ev_neg (by omega) (ev_some rfl)
  | succ d ih =>
    intro i hi
    refine ev_step ?_ (fun k => by rw [slices_IndexFunc_int_int_PageOf_1_s41.l0])
    rw [drop_cons_at B [] i (by omega), rdl_nat, next_big i B.length (by omega) hB]
    refine ev_pos (by omega) (ev_pos (by omega) (ev_pos (by omega) (ev_bind (page1_ev x _ (hr _ (getD_in B [] i (by omega)))) (ev_ite (fun h => ?_) (fun h => ?_)))))
    · rw [pgS, if_pos h]; exact ev_some rfl
    · rw [pgS, if_neg h]; exact ih (i + 1) (by omega)
theorem pageof_ev : Ev (fun k => booklet_PageOf.f k B x) (pgS x B 0) := by
  unfold booklet_PageOf.f slices_IndexFunc_int_int_PageOf_1_s41.f
  exact ev_bind (pageof_l0 x B hB hr B.length 0 (Nat.zero_add _)) (ev_some rfl)
end
theorem hasB_iff (x : Int) : ∀ r : List Int, hasB x r = true ↔ x ∈ r
  | [] => by simp [hasB]
  | y :: r => by
    rw [hasB]
    by_cases h : y = x
    · subst h; simp
    · rw [if_neg h, hasB_iff x r]
      simp [Ne.symm h]
theorem pgS_at (x : Int) : ∀ (B : List (List Int)) (k i : Nat), i < B.length → x ∈ B.getD i [] → (∀ j, j < i → x ∉ B.getD j []) → pgS x B k = ((k + i : Nat) : Int)
  | [], k, i, h, _, _ => by simp at h
  | r :: B, k, 0, h, hx, _ => by
    rw [pgS, if_pos ((hasB_iff x r).2 (by simpa using hx))]; rfl
  | r :: B, k, i + 1, h, hx, hn => by
    have h0 : x ∉ r := by simpa using hn 0 (by omega)
    rw [pgS, if_neg (fun e => h0 ((hasB_iff x r).1 e)), pgS_at x B (k + 1) i (by simpa using h) (by simpa using hx) (fun j hj => by simpa using hn (j + 1) (by omega))]
    congr 1; omega
theorem rowS_in (ps : List Part) : ∀ (r : List Int) (nx m : Nat) (s t : Int), rowS ps r nx s = some (m, t) → (∀ x ∈ r, x < (m : Int)) ∧ nx ≤ m ∧ (nx ≤ ps.length → m ≤ ps.length)
  | [], nx, m, s, t, h => by
    simp only [rowS, Option.some.injEq, Prod.mk.injEq] at h
    exact ⟨fun x hx => by simp at hx, by omega, by omega⟩
  | x :: r, nx, m, s, t, h => by
    simp only [rowS] at h
    by_cases hx : x = (nx : Int) ∧ nx < ps.length
    · rw [if_pos hx] at h
      obtain ⟨h2, h3, h4⟩ := rowS_in ps r _ _ _ _ h
      refine ⟨fun y hy => ?_, by omega, by omega⟩
      rcases List.mem_cons.1 hy with rfl | hy
      · omega
      · exact h2 y hy
    · rw [if_neg hx] at h; cases h

/-! How many options the first parts have. -/
def G (ps : List Part) : Nat → Int
  | 0 => 0
  | n + 1 => G ps n + (partAt ps n).f4
theorem part_f4 {ps : List Part} (ho : AllOk ps) (n : Nat) (h : n < ps.length) : 0 ≤ (partAt ps n).f4 ∧ (partAt ps n).f4 ≤ 5 ∧ (¬ (partAt ps n).f0 = 2 → (partAt ps n).f4 = 0) := by
  have := (pB_parts (ho _ (getD_in ps z23 n h))).2.2
  unfold partAt
  omega
theorem G_le {ps : List Part} (ho : AllOk ps) : ∀ n, n ≤ ps.length → 0 ≤ G ps n ∧ G ps n ≤ 5 * n
  | 0, _ => by simp [G]
  | n + 1, h => by
    have := G_le ho n (by omega)
    have := part_f4 ho n (by omega)
    rw [G]; omega
theorem rdf (F : List Fld) (i : Nat) : rd_T53 F (i : Int) = F.getD i z53 := by unfold rd_T53; rw [Int.toNat_natCast]

section
variable (ps : List Part) (ho : AllOk ps) (h24 : ps.length ≤ 24) (B : List (List Int)) (hB : B.length ≤ 12) (hr : ∀ r ∈ B, r.length ≤ 1000) (want : Int)
include ho h24 hB hr
/-- One part's options on its page. -/
theorem once_opts (i : Nat) (hi : i < B.length) (nx : Nat) (hnx : nx < ps.length) (hin : (nx : Int) ∈ B.getD i []) (hout : ∀ j, j < i → (nx : Int) ∉ B.getD j []) (F : List Fld) (hF : F.length ≤ 100000) (rest : List Fld)
    (d : Nat) : ∀ (o q : Nat) (S : List Bool), (o : Int) + d = (partAt ps nx).f4 → F.drop q = optsS (nx : Int) o d ++ rest → S.length = 120 → (∀ j, 5 * nx + o ≤ j → S.getD j false = false) →
    (∀ S' q', S'.length = 120 → (∀ j, 5 * (nx + 1) ≤ j → S'.getD j false = false) → F.drop q' = rest → Ev (fun k => awardingbodylaw12_BookletOnce.l2 k want (G ps (nx + 1)) S' (i : Int) F (q' : Int) 0 0 ps B) true) →
    Ev (fun k => awardingbodylaw12_BookletOnce.l2 k want (G ps nx + o) S (i : Int) F (q : Int) 0 0 ps B) true := by
  have hf4 := part_f4 ho nx hnx
  have hG := G_le ho nx (by omega)
  have hpo := pageof_ev (nx : Int) B (by have hmax : 1000 ≤ maxLen := Nat.le_of_ble_eq_true rfl; omega) (fun r h => by have hmax : 1000 ≤ maxLen := Nat.le_of_ble_eq_true rfl; have := hr r h; omega)
  rw [pgS_at (nx : Int) B 0 i hi hin hout, Nat.zero_add] at hpo
  induction d with
  | zero =>
    intro o q S hod hd hS hz h
    rw [optsS, List.nil_append] at hd
    have e : G ps nx + (o : Int) = G ps (nx + 1) := by rw [G]; omega
    rw [e]
    exact h S q hS (fun j hj => hz j (by omega)) hd
  | succ d ih =>
    intro o q S hod hd hS hz h
    have hq : q < F.length := by
      rcases Nat.lt_or_ge q F.length with h | h
      · exact h
      · rw [List.drop_of_length_le h] at hd; simp [optsS] at hd
    have hg := hd
    rw [drop_cons_at F z53 q hq, optsS, List.cons_append] at hg
    injection hg with hg hd'
    refine ev_step ?_ (fun k => by rw [awardingbodylaw12_BookletOnce.l2])
    rw [rdf, hg, next_index q F.length hq (by omega)]
    simp only []
    rw [rdp_nat]
    have hp4 : (ps.getD nx z23).f4 = (partAt ps nx).f4 := rfl
    have hk : ((nx : Int) * 5 + (o : Int)).toNat = 5 * nx + o := by omega
    have hrd : rdOf false S ((nx : Int) * 5 + (o : Int)) = false := by unfold rdOf; rw [hk]; exact hz _ (Nat.le_refl _)
    rw [hp4, hrd, hk, wrap_id (x := G ps nx + (o : Int) + 1) (by omega) (by omega)]
    refine ev_pos (by omega) (ev_pos (by omega) (ev_neg (by omega) (ev_neg (by omega) (ev_neg (by omega) (ev_pos (by omega) (ev_pos (by omega) (ev_neg (by omega) (ev_pos (by omega) (ev_pos (by omega) (ev_pos (by omega) (ev_pos (by omega) (ev_pos (by omega) (ev_neg (by simp) (ev_bind hpo (ev_pos rfl ?_)))))))))))))))
    have := ih (o + 1) (q + 1) (S.set (5 * nx + o) true) (by omega) hd' (by simpa using hS) (fun j hj => ?_) h
    · rw [show G ps nx + ((o + 1 : Nat) : Int) = G ps nx + (o : Int) + 1 by omega] at this
      exact this
    · rw [List.getD_eq_getElem?_getD, List.getElem?_set_ne (by omega), ← List.getD_eq_getElem?_getD]
      exact hz j (by omega)
/-- One page. -/
theorem once_row (i : Nat) (hi : i < B.length) (F : List Fld) (hF : F.length ≤ 100000) (m : Nat) (hm : m ≤ ps.length) (t : Int)
    (h : ∀ S', S'.length = 120 → (∀ j, 5 * m ≤ j → S'.getD j false = false) → Ev (fun k => awardingbodylaw12_BookletOnce.l1 k want (G ps m) S' ((i + 1 : Nat) : Int) 0 0 ps B) true) :
    ∀ (r : List Int) (nx q : Nat) (S : List Bool) (s : Int), rowS ps r nx s = some (m, t) → (∀ x ∈ r, x ∈ B.getD i []) → (∀ j, j < i → ∀ x ∈ B.getD j [], x < (nx : Int)) → F.drop q = fldsS ps r → S.length = 120 → (∀ j, 5 * nx ≤ j → S.getD j false = false) →
    Ev (fun k => awardingbodylaw12_BookletOnce.l2 k want (G ps nx) S (i : Int) F (q : Int) 0 0 ps B) true
  | [], nx, q, S, s, hrow, hin, hout, hd, hS, hz => by
    simp only [rowS, Option.some.injEq, Prod.mk.injEq] at hrow
    obtain ⟨rfl, _⟩ := hrow
    have hq : ¬ q < F.length := fun hq => by
      rw [fldsS, drop_cons_at F z53 q hq] at hd; cases hd
    refine ev_step ?_ (fun k => by rw [awardingbodylaw12_BookletOnce.l2])
    rw [next_index i B.length hi (by omega)]
    exact ev_neg (by omega) (h S hS hz)
  | x :: r, nx, q, S, s, hrow, hin, hout, hd, hS, hz => by
    simp only [rowS] at hrow
    by_cases hx : x = (nx : Int) ∧ nx < ps.length
    · rw [if_pos hx] at hrow
      obtain ⟨rfl, hnx⟩ := hx
      rw [fldsS, Int.toNat_natCast] at hd
      have hf4 := part_f4 ho nx hnx
      have := once_opts ps ho h24 B hB hr want i hi nx hnx (hin _ (by simp)) (fun j hj hmem => by have := hout j hj _ hmem; omega) F hF (fldsS ps r) (partAt ps nx).f4.toNat 0 q S (by omega) hd hS (fun j hj => hz j (by omega)) (fun S' q' hS' hz' hd' => once_row i hi F hF m hm t h r (nx + 1) q' S' _ hrow (fun y hy => hin y (by simp [hy])) (fun j hj y hy => by have := hout j hj y hy; omega) hd' hS' hz')
      simpa using this
    · rw [if_neg hx] at hrow; cases hrow
/-- All pages. -/
theorem once_pages (hv : bvS 0 0 ps B = true) (hw : G ps ps.length = want) (d : Nat) : ∀ (i nx : Nat) (S : List Bool), i + d = B.length → nx ≤ ps.length → rowsS ps (B.drop i) nx = true → (∀ j, j < i → ∀ x ∈ B.getD j [], x < (nx : Int)) → S.length = 120 → (∀ j, 5 * nx ≤ j → S.getD j false = false) →
    Ev (fun k => awardingbodylaw12_BookletOnce.l1 k want (G ps nx) S (i : Int) 0 0 ps B) true := by
  induction d with
  | zero =>
    intro i nx S hi hnx hrs hout hS hz
    rw [List.drop_of_length_le (by omega)] at hrs
    simp only [rowsS, decide_eq_true_eq] at hrs
    subst hrs
    refine ev_step ?_ (fun k => by rw [awardingbodylaw12_BookletOnce.l1])
    exact ev_neg (by omega) (ev_pos hw (ev_bind awake_ev (ev_some rfl)))
  | succ d ih =>
    intro i nx S hi hnx hrs hout hS hz
    rw [drop_cons_at B [] i (by omega)] at hrs
    simp only [rowsS] at hrs
    cases hx : rowS ps (B.getD i []) nx 0 with
    | none => rw [hx] at hrs; cases hrs
    | some q =>
      obtain ⟨m, t⟩ := q
      rw [hx] at hrs
      by_cases ht : t > 30
      · simp only [if_pos ht] at hrs; cases hrs
      · simp only [if_neg ht] at hrs
        obtain ⟨hlt, hle, hm⟩ := rowS_in ps _ _ _ _ _ hx
        have hm := hm hnx
        have hmem := getD_in B [] i (by omega)
        have hn := (bvS_nums hv).2 _ hmem
        have e : fieldsS 0 0 ps B (i : Int) = fldsS ps (B.getD i []) := by unfold fieldsS; rw [if_pos hv, if_pos ⟨by omega, by omega⟩, Int.toNat_natCast]
        have hfl := flds_len ps _ hn
        have hrl := hr _ hmem
        have hf := fields_ev 0 0 ps B (i : Int) (by omega) (by omega) (fun r h => by have := hr r h; omega)
        rw [e] at hf
        refine ev_step ?_ (fun k => by rw [awardingbodylaw12_BookletOnce.l1])
        refine ev_pos (by omega) (ev_bind hf ?_)
        exact once_row ps ho h24 B hB hr want i (by omega) (fldsS ps (B.getD i [])) (by omega) m hm t
          (fun S' hS' hz' => ih (i + 1) m S' (by omega) hm hrs (fun j hj x hxj => by
            rcases Nat.lt_or_ge j i with h | h
            · have := hout j h x hxj; omega
            · have : j = i := by omega
              subst this; exact hlt x hxj) hS' hz')
          (B.getD i []) nx 0 S 0 hx (fun x h => h) hout (by rw [List.drop_zero]) hS hz
/-- The sum over the choice parts. -/
theorem once_want (L : List Int) (hL : L.length ≤ 1000) (h : Ev (fun k => awardingbodylaw12_BookletOnce.l1 k (G ps ps.length) 0 (List.replicate 120 false) 0 0 0 ps B) true) (d : Nat) : ∀ (i a : Nat), i + d = ps.length → L.drop a = ch (ps.drop i) i →
    Ev (fun k => awardingbodylaw12_BookletOnce.l0 k L (G ps i) 0 (a : Int) 0 0 ps B) true := by
  induction d with
  | zero =>
    intro i a hi hd
    rw [List.drop_of_length_le (show ps.length ≤ i by omega), ch] at hd
    have ha : ¬ a < L.length := fun ha => by rw [drop_cons_at L 0 a ha] at hd; cases hd
    refine ev_step ?_ (fun k => by rw [awardingbodylaw12_BookletOnce.l0])
    rw [show i = ps.length by omega]
    exact ev_neg (by omega) h
  | succ d ih =>
    intro i a hi hd
    have hf4 := part_f4 ho i (by omega)
    have hG := G_le ho i (by omega)
    rw [drop_cons_at ps z23 i (by omega), ch] at hd
    have hp : ps.getD i z23 = partAt ps i := rfl
    rw [hp] at hd
    by_cases h2 : (partAt ps i).f0 = 2
    · rw [if_pos h2] at hd
      have ha : a < L.length := by
        rcases Nat.lt_or_ge a L.length with h | h
        · exact h
        · rw [List.drop_of_length_le h] at hd; cases hd
      have hd' := hd
      rw [drop_cons_at L 0 a ha] at hd'
      injection hd' with hg hd'
      refine ev_step ?_ (fun k => by rw [awardingbodylaw12_BookletOnce.l0])
      rw [rd_int, hg, next_index a L.length ha (by omega), rdp_nat, hp, wrap_id (x := G ps i + (partAt ps i).f4) (by omega) (by omega)]
      exact ev_pos (by omega) (ev_pos (by omega) (ev_pos (by omega) (ev_pos (by omega) (ih (i + 1) (a + 1) (by omega) hd'))))
    · rw [if_neg h2] at hd
      have e : G ps i = G ps (i + 1) := by rw [G]; have := hf4.2.2 h2; omega
      rw [e]
      exact ih (i + 1) a (by omega) hd
end
theorem BookletOnce : awardingbodylaw12_BookletOnce.Pure := by
  intro l _ _ _
  obtain ⟨M, h0, hp⟩ := new_ok l
  obtain ⟨ps, q, h1, _, hv⟩ := long_some hp
  obtain ⟨_, h24, ho⟩ := vpS_len hv
  obtain ⟨hB, hr⟩ := makeS_rows 0 0 ps (by omega)
  refine Ev.rounds (g := fun k => awardingbodylaw12_BookletOnce.f k l) ?_
  unfold awardingbodylaw12_BookletOnce.f
  refine ev_bind_now h0 (ev_bind h1 (ev_bind (make_ev 0 0 ps (by omega)) (ev_ite (fun h => ?_) (fun h => ev_pos (make_code ps hv h) (ev_bind awake_ev (ev_some rfl))))))
  obtain ⟨hb, hrows⟩ := mkv 0 0 ps h
  have hch : chS 0 0 ps = ch ps 0 := by unfold chS; rw [if_pos hv]
  refine ev_bind (ch_ev 0 0 ps (by omega)) ?_
  rw [hch]
  have hcl := ch_length ps 0
  have hz : ∀ j, 5 * 0 ≤ j → (List.replicate 120 false).getD j false = false := fun j _ => by
    rw [List.getD_eq_getElem?_getD, List.getElem?_replicate]; split <;> rfl
  have := once_pages ps ho h24 (makeS 0 0 ps).1 hB hr (G ps ps.length) hb rfl (makeS 0 0 ps).1.length 0 0 (List.replicate 120 false) (by omega) (by omega) (by rw [List.drop_zero]; exact hrows) (fun j hj => by omega) (by simp) hz
  exact once_want ps ho h24 (makeS 0 0 ps).1 hB hr (ch ps 0) (by omega) this ps.length 0 0 (by omega) (by simp)

end Go.Proofs.Ytdmlbgdefapcjaa.Pure
