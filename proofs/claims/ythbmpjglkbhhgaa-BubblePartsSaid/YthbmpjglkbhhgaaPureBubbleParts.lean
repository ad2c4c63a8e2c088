/- BubbleParts: for every tape the law answers true. No further conditions. -/
import Derived.Test.YthbmpjglkbhhgaaPrint8
import Derived.Test.YthbmpjglkbhhgaaPrint7
import Derived.Test.YthbmpjglkbhhgaaPageEq
import Derived.Test.YthbmpjglkbhhgaaThr
import Derived.Test.YthbmpjglkbhhgaaPaperGen
namespace Go.Proofs.Ythbmpjglkbhhgaa.Pure
open Go.RowKit Go.Proofs.Ythbmpjglkbhhgaa.Print Go.Proofs.YthbmpjglkbhhgaaW.PrintWords Go.Proofs.YthbmpjglkbhhgaaW.PrintLast Go.Proofs.YthbmpjglkbhhgaaW.PrintMore Go.Proofs.Ythbmpjglkbhhgaa.Bk
set_option linter.unusedVariables false
set_option linter.unusedSectionVars false

/-! Make's pages, read as Valid reads them. -/
/-- The numbers from a on, d of them. -/
def run (a : Nat) : Nat → List Int
  | 0 => []
  | d + 1 => (a : Int) :: run (a + 1) d
theorem rsn (a : Nat) : ∀ d : Nat, run a (d + 1) = run a d ++ [((a + d : Nat) : Int)]
  | 0 => by simp [run]
  | d + 1 => by
    have := rsn (a + 1) d
    rw [run, this, run, List.cons_append, show a + 1 + d = a + (d + 1) by omega]
theorem rap (ps : List Part) : ∀ (r r2 : List Int) (nx : Nat) (s : Int), rowS ps (r ++ r2) nx s = (rowS ps r nx s).bind fun q => rowS ps r2 q.1 q.2
  | [], r2, nx, s => rfl
  | x :: r, r2, nx, s => by
    rw [List.cons_append, rowS, rowS]
    by_cases h : x = (nx : Int) ∧ nx < ps.length
    · rw [if_pos h, if_pos h]; exact rap ps r r2 _ _
    · rw [if_neg h, if_neg h]; rfl
theorem rnl (ps : List Part) (m : Nat) : rowsS ps (List.replicate m []) ps.length = true := by
  induction m with
  | zero => simp [rowsS]
  | succ m ih => rw [List.replicate_succ]; simp only [rowsS, rowS]; rw [if_neg (by omega)]; exact ih
theorem rcs (ps : List Part) (r : List Int) (rs : List (List Int)) (nx m : Nat) (s : Int) (h : rowS ps r nx 0 = some (m, s)) (hs : ¬ s > 30) : rowsS ps (r :: rs) nx = rowsS ps rs m := by
  simp only [rowsS, h, if_neg hs]
theorem pkv (ps : List Part) (m : Nat) (d : Nat) : ∀ (i a : Nat) (left : Int) (cur : List Int), i + d = ps.length → 0 ≤ left → left ≤ 30 → rowS ps cur a 0 = some (i, 30 - left) →
    rowsS ps (pk (ps.drop i) i left cur ++ List.replicate m []) a = true := by
  induction d with
  | zero =>
    intro i a left cur hi h0 h1 hc
    rw [List.drop_of_length_le (by omega), pk]
    show rowsS ps (cur :: List.replicate m []) a = true
    rw [rcs ps cur _ a i _ hc (by omega), show i = ps.length by omega]
    exact rnl ps m
  | succ d ih =>
    intro i a left cur hi h0 h1 hc
    have hn := need_le (ps.getD i z65)
    rw [drop_cons_at ps z65 i (by omega), pk]
    by_cases hlt : left < need (ps.getD i z65)
    · rw [if_pos hlt]
      show rowsS ps (cur :: (pk _ _ _ _ ++ List.replicate m [])) a = true
      rw [rcs ps cur _ a i _ hc (by omega)]
      refine ih (i + 1) i _ _ (by omega) (by omega) (by omega) ?_
      simp only [rowS]
      rw [if_pos ⟨by trivial, by omega⟩]
      unfold Bk.partAt
      rw [show 30 - (30 - need (ps.getD i z65)) = 0 + need (ps.getD i z65) by omega]
    · rw [if_neg hlt]
      refine ih (i + 1) a _ _ (by omega) (by omega) (by omega) ?_
      rw [rap, hc]
      simp only [Option.bind_some, rowS]
      rw [if_pos ⟨by trivial, by omega⟩]
      unfold Bk.partAt
      rw [show 30 - (left - need (ps.getD i z65)) = 30 - left + need (ps.getD i z65) by omega]
theorem mkv (c v : Int) (ps : List Part) (h : (makeS c v ps).2 = 0) : vpS c v ps = true ∧ bvS c v ps (makeS c v ps).1 = true ∧ (makeS c v ps).1 = fillS ([[]] ++ pk ps 0 30 []) ∧ (fillS ([[]] ++ pk ps 0 30 [])).length ≤ 12 := by
  unfold makeS at *
  by_cases h1 : vpS c v ps = true
  · rw [if_pos h1] at *
    unfold endS at *
    by_cases h2 : (fillS ([[]] ++ pk ps 0 30 [])).length > 12
    · rw [if_pos h2] at h; cases h
    · rw [if_neg h2] at *
      refine ⟨h1, ?_, rfl, by omega⟩
      obtain ⟨f1, f2, f3⟩ := fill_len ([[]] ++ pk ps 0 30 [])
      unfold bvS
      have hl : 1 ≤ (fillS ([[]] ++ pk ps 0 30 [])).length := by
        rw [List.length_append] at f2
        simp only [List.length_cons, List.length_nil] at f2; omega
      rw [if_pos h1, if_pos ⟨hl, by show (fillS ([[]] ++ pk ps 0 30 [])).length ≤ 12; omega, f1, rfl⟩]
      show rowsS ps (fillS ([[]] ++ pk ps 0 30 [])) 0 = true
      unfold fillS
      generalize (4 - ([[]] ++ pk ps 0 30 []).length % 4) % 4 = m
      show rowsS ps ([] :: (pk ps 0 30 [] ++ List.replicate m [])) 0 = true
      rw [rcs ps [] _ 0 0 0 rfl (by omega)]
      have := pkv ps m ps.length 0 0 30 [] (by omega) (by omega) (by omega) rfl
      rw [List.drop_zero] at this
      exact this
  · rw [if_neg h1] at h; cases h

/-! The page of a part. -/
/-- A list holds a number. -/
def hasB (x : Int) : List Int → Bool
  | [] => false
  | y :: t => if y = x then true else hasB x t
/-- The first page that holds a number, from a page on. -/
def pgS (x : Int) : List (List Int) → Nat → Int
  | [], _ => -1
  | r :: t, i => if hasB x r = true then (i : Int) else pgS x t (i + 1)

theorem next_big (i n : Nat) (h : i < n) (hn : n ≤ maxLen) : wrap64 ((i : Int) + 1) = ((i + 1 : Nat) : Int) := by
  have hmax : maxLen ≤ 9223372036854775807 := Nat.le_of_ble_eq_true rfl
  rw [wrap_id (by omega) (by omega)]; omega
theorem rd_i (l : List Int) (i : Nat) : rd l (i : Int) = l.getD i 0 := by unfold rd; rw [Int.toNat_natCast]

section
variable (x : Int)
theorem index_l0 (l : List Int) (hl : l.length ≤ maxLen) (d : Nat) : ∀ i : Nat, i + d = l.length → ∃ r, Ev (fun k => slices_Index_int_int.l0 k l x (l.length : Int) (i : Int)) r ∧ decide (r ≥ 0) = hasB x (l.drop i) := by
  induction d with
  | zero =>
    intro i hi
    refine ⟨-1, ?_, ?_⟩
    · refine ev_step ?_ (fun k => by rw [slices_Index_int_int.l0])
      exact ev_neg (by omega) (ev_some rfl)
    · rw [List.drop_of_length_le (by omega)]; rfl
  | succ d ih =>
    intro i hi
    rw [drop_cons_at l 0 i (by omega)]
    by_cases hx : x = l.getD i 0
    · refine ⟨(i : Int), ?_, ?_⟩
      · refine ev_step ?_ (fun k => by rw [slices_Index_int_int.l0])
        rw [rd_i]
        exact ev_pos (by omega) (ev_pos (by omega) (ev_pos (by omega) (ev_pos hx (ev_some rfl))))
      · rw [hasB, if_pos hx.symm]
        exact decide_eq_true (by omega)
    · obtain ⟨r, hr, e⟩ := ih (i + 1) (by omega)
      refine ⟨r, ?_, ?_⟩
      · refine ev_step ?_ (fun k => by rw [slices_Index_int_int.l0])
        rw [rd_i, next_big i l.length (by omega) hl]
        exact ev_pos (by omega) (ev_pos (by omega) (ev_pos (by omega) (ev_neg hx hr)))
      · rw [hasB, if_neg (fun h => hx h.symm)]
        exact e
theorem page1_ev (l : List Int) (hl : l.length ≤ maxLen) : Ev (fun k => booklet_PageOf_1.f k l x) (hasB x l) := by
  obtain ⟨r, hr, e⟩ := index_l0 x l hl l.length 0 (Nat.zero_add _)
  unfold booklet_PageOf_1.f slices_Contains_int_int.f slices_Index_int_int.f
  exact ev_bind (ev_bind hr (ev_some e)) (ev_some rfl)
variable (B : List (List Int)) (hB : B.length ≤ maxLen) (hr : ∀ r ∈ B, r.length ≤ maxLen)
include hB hr
theorem pageof_l0 (d : Nat) : ∀ i : Nat, i + d = B.length → Ev (fun k => slices_IndexFunc_int_int_PageOf_1_s56.l0 k B x (B.length : Int) (i : Int)) (pgS x (B.drop i) i) := by
  induction d with
  | zero =>
    intro i hi
    refine ev_step ?_ (fun k => by rw [slices_IndexFunc_int_int_PageOf_1_s56.l0])
    rw [List.drop_of_length_le (by omega)]
    exact ev_neg (by omega) (ev_some rfl)
  | succ d ih =>
    intro i hi
    refine ev_step ?_ (fun k => by rw [slices_IndexFunc_int_int_PageOf_1_s56.l0])
    rw [drop_cons_at B [] i (by omega), rdl_nat, next_big i B.length (by omega) hB]
    refine ev_pos (by omega) (ev_pos (by omega) (ev_pos (by omega) (ev_bind (page1_ev x _ (hr _ (getD_in B [] i (by omega)))) (ev_ite (fun h => ?_) (fun h => ?_)))))
    · rw [pgS, if_pos h]; exact ev_some rfl
    · rw [pgS, if_neg h]; exact ih (i + 1) (by omega)
theorem pageof_ev : Ev (fun k => booklet_PageOf.f k B x) (pgS x B 0) := by
  unfold booklet_PageOf.f slices_IndexFunc_int_int_PageOf_1_s56.f
  exact ev_bind (pageof_l0 x B hB hr B.length 0 (Nat.zero_add _)) (ev_some rfl)
end
theorem hasB_iff (x : Int) : ∀ r : List Int, hasB x r = true ↔ x ∈ r
  | [] => by simp [hasB]
  | y :: r => by
    rw [hasB]
    by_cases h : y = x
    · subst h; simp
    · rw [if_neg h, hasB_iff x r]
      simp [Ne.symm h]
theorem pgS_ge (x : Int) : ∀ (B : List (List Int)) (k : Nat), pgS x B k = -1 ∨ (k : Int) ≤ pgS x B k
  | [], k => .inl rfl
  | r :: B, k => by
    rw [pgS]
    split
    · exact .inr (Int.le_refl _)
    · rcases pgS_ge x B (k + 1) with h | h
      · exact .inl h
      · exact .inr (by omega)
theorem pgS_get (x : Int) : ∀ (B : List (List Int)) (k j : Nat), pgS x B k = ((k + j : Nat) : Int) → j < B.length ∧ x ∈ B.getD j []
  | [], k, j, h => by rw [pgS] at h; omega
  | r :: B, k, j, h => by
    rw [pgS] at h
    by_cases hr : hasB x r = true
    · rw [if_pos hr] at h
      obtain rfl : j = 0 := by omega
      exact ⟨by simp, (hasB_iff x r).1 hr⟩
    · rw [if_neg hr] at h
      rcases pgS_ge x B (k + 1) with h1 | h1
      · omega
      · obtain ⟨m, rfl⟩ : ∃ m, j = m + 1 := ⟨j - 1, by omega⟩
        have := pgS_get x B (k + 1) m (by rw [h]; omega)
        exact ⟨by simp; omega, by simpa using this.2⟩
theorem pgS_hit (x : Int) : ∀ (B : List (List Int)) (k j : Nat), j < B.length → x ∈ B.getD j [] → (∀ m, m < j → ¬ x ∈ B.getD m []) → pgS x B k = ((k + j : Nat) : Int)
  | [], k, j, h, _, _ => by simp at h
  | r :: B, k, 0, _, hx, _ => by
    rw [pgS, if_pos ((hasB_iff x r).2 (by simpa using hx))]; rfl
  | r :: B, k, j + 1, h, hx, hn => by
    have h0 : ¬ x ∈ r := by simpa using hn 0 (by omega)
    rw [pgS, if_neg (fun e => h0 ((hasB_iff x r).1 e)), pgS_hit x B (k + 1) j (by simpa using h) (by simpa using hx) (fun m hm => by simpa using hn (m + 1) (by omega))]
    omega
theorem opts_has (x : Int) : ∀ (d o : Nat), 0 < d → ∃ g ∈ optsS x o d, g.f0 = x
  | 0, _, h => by omega
  | d + 1, o, _ => ⟨⟨x, (o : Int)⟩, by rw [optsS]; simp, rfl⟩
theorem flds_has (ps : List Part) (i : Nat) (h : 0 < (Bk.partAt ps i).f4.toNat) : ∀ r : List Int, (i : Int) ∈ r → ∃ g ∈ fldsS ps r, g.f0 = (i : Int)
  | [], hr => by simp at hr
  | x :: r, hr => by
    rw [fldsS]
    rcases List.mem_cons.1 hr with rfl | hr
    · obtain ⟨g, hg, e⟩ := opts_has (i : Int) (Bk.partAt ps (i : Int).toNat).f4.toNat 0 (by rw [Int.toNat_natCast]; exact h)
      exact ⟨g, List.mem_append_left _ hg, e⟩
    · obtain ⟨g, hg, e⟩ := flds_has ps i h r hr
      exact ⟨g, List.mem_append_right _ hg, e⟩
theorem flds_opts (ps : List Part) : ∀ (r : List Int), ∀ g ∈ fldsS ps r, 0 < (Bk.partAt ps g.f0.toNat).f4.toNat
  | [], g, h => by simp [fldsS] at h
  | x :: r, g, h => by
    rw [fldsS] at h
    rcases List.mem_append.1 h with h | h
    · rw [opts_f0 x _ _ g h]
      have := opts_len x (Bk.partAt ps x.toNat).f4.toNat 0
      have h2 := List.length_pos_of_mem h
      omega
    · exact flds_opts ps r g h
/-- A part's fields are on a page just where it is a choice part and its page is that. -/
theorem field_iff (c v : Int) (ps : List Part) (B : List (List Int)) (pg : Nat) (h : bvS c v ps B = true) (h1 : pg < B.length) (i : Nat) (hi : i < ps.length) :
    ((∃ g ∈ fieldsS c v ps B (pg : Int), g.f0 = (i : Int)) ↔ ((Bk.partAt ps i).f0 = 2 ∧ pgS (i : Int) B 0 = (pg : Int))) := by
  have e := (fields_ok c v ps B (pg : Int) h (by omega) (by omega)).1
  rw [Int.toNat_natCast] at e
  obtain ⟨hv, hr⟩ := bvS_rows h
  have hok := (vpS_all hv).2.2
  have hpi := pB_parts (hok (Bk.partAt ps i) (getD_in ps _ i hi))
  obtain ⟨_, hdis, _⟩ := rowsS_pair ps B 0 hr
  have once : (i : Int) ∈ B.getD pg [] → pgS (i : Int) B 0 = (pg : Int) := by
    intro hm
    have := pgS_hit (i : Int) B 0 pg h1 hm (fun m hm2 hx => by
      have hpw := List.pairwise_iff_getElem.1 hdis m pg (by omega) h1 hm2
      rw [List.getD_eq_getElem?_getD, List.getElem?_eq_getElem (by omega)] at hx
      rw [List.getD_eq_getElem?_getD, List.getElem?_eq_getElem h1] at hm
      have := hpw (i : Int) hx (i : Int) hm
      omega)
    rw [this]; omega
  rw [e]
  constructor
  · rintro ⟨g, hg, hgi⟩
    have ho := flds_opts ps _ g hg
    rw [hgi, Int.toNat_natCast] at ho
    have hm := flds_f0 ps _ g hg
    rw [hgi] at hm
    exact ⟨by omega, once hm⟩
  · rintro ⟨hk, hpg⟩
    obtain ⟨_, hm⟩ := pgS_get (i : Int) B 0 pg (by rw [hpg]; omega)
    exact flds_has ps i (by omega) _ hm

section
variable (d f ld : Int) (J : List Int → Int × Int) (hJ : ∀ l, l.length ≤ 1000000 → Ev (fun k => bubble_Judge.f k d f ld l) (J l) ∧ True)
  (c v : Int) (ps : List Part) (hps : ps.length ≤ 24) (B : List (List Int)) (hb : bvS c v ps B = true) (hB : B.length ≤ 1000) (hr : ∀ r ∈ B, r.length ≤ 1000) (pg : Nat) (hpg : pg < B.length) (C : List Int) (hC : C.length = (fieldsS c v ps B (pg : Int)).length)
include hJ hps hb hB hr hpg hC
theorem parts_l1 (e : Nat) : ∀ (i a q : Nat), i + e = ps.length → q ≤ (fieldsS c v ps B (pg : Int)).length → a ≤ (splS (fieldsS c v ps B (pg : Int)) C []).length →
    (splS (fieldsS c v ps B (pg : Int)) C []).drop a = splS ((fieldsS c v ps B (pg : Int)).drop q) (C.drop q) [] → (∀ g ∈ (fieldsS c v ps B (pg : Int)).take q, g.f0 < (i : Int)) → (∀ g ∈ (fieldsS c v ps B (pg : Int)).drop q, (i : Int) ≤ g.f0) →
    Ev (fun k => awardingbodylaw20_BubbleParts.l1 k (pg : Int) (pageL J ps.length (fieldsS c v ps B (pg : Int)) C) (splS (fieldsS c v ps B (pg : Int)) C []) (a : Int) (i : Int) c v ps B d f ld) true := by
  obtain ⟨_, hF, hm, hg⟩ := fields_ok c v ps B (pg : Int) hb (by omega) (by omega)
  have hX := splS_len (fieldsS c v ps B (pg : Int)) C []
  have hfi := field_iff c v ps B pg hb hpg
  have hL := pageL_len d f ld J hJ ps.length (fieldsS c v ps B (pg : Int)) C
  have hG := pageL_get d f ld J hJ ps.length (fieldsS c v ps B (pg : Int)) C
  generalize hFe : fieldsS c v ps B (pg : Int) = F at hF hm hg hX hfi hC hL hG ⊢
  generalize hXe : splS F C [] = X at hX ⊢
  generalize hOe : pageL J ps.length F C = O at hL hG ⊢
  induction e with
  | zero =>
    intro i a q hi hq ha hd _ hge
    have hz : F.drop q = [] := by
      cases hc : F.drop q with
      | nil => rfl
      | cons g gs =>
        have h1 : g ∈ F.drop q := by rw [hc]; simp
        have h2 := hge g h1
        have h3 := hg g (List.mem_of_mem_drop h1)
        omega
    rw [hz] at hd
    have hae : (a : Int) = (X.length : Int) := by
      rcases Nat.lt_or_ge a X.length with h | h
      · rw [drop_cons_at X [] a h] at hd; simp [splS] at hd
      · omega
    refine ev_step ?_ (fun k => by rw [awardingbodylaw20_BubbleParts.l1])
    exact ev_neg (by omega) (ev_pos hae (ev_bind awake_ev (ev_some rfl)))
  | succ e ih =>
    intro i a q hi hq ha hd hlt hge
    have hil : i < ps.length := by omega
    have hpo := pageof_ev (i : Int) B (by have hmax : 1000 ≤ maxLen := Nat.le_of_ble_eq_true rfl; omega) (fun r h => by have hmax : 1000 ≤ maxLen := Nat.le_of_ble_eq_true rfl; have := hr r h; omega)
    have no : (¬ ∃ g ∈ F, g.f0 = (i : Int)) → ∀ x : Bool, x = false → Ev (fun k => awardingbodylaw20_BubbleParts.j3 k (pg : Int) O X (a : Int) (i : Int) (-1) x c v ps B d f ld) true := by
      intro hno x hx
      refine ev_step ?_ (fun k => by rw [awardingbodylaw20_BubbleParts.j3])
      have hv : chosen J F C (-1) (i : Int) = -1 := by
        unfold chosen
        rw [if_pos (vls_none _ _ _ (fun g hgm e => hno ⟨g, hgm, e⟩))]
      have hO := hG i hil
      rw [hv] at hO
      rw [rd_nat, hO, next_index i ps.length hil (by omega)]
      refine ev_neg (by rw [hx]; simp) (ev_pos (by omega) (ev_pos (by omega) (ev_pos rfl ?_)))
      exact ih (i + 1) a q (by omega) hq ha hd (fun g h => by have := hlt g h; omega) (fun g h => by
        have h1 := hge g h
        have h2 : g.f0 ≠ (i : Int) := fun e => hno ⟨g, List.mem_of_mem_drop h, e⟩
        omega)
    have yes : (∃ g ∈ F, g.f0 = (i : Int)) → ∀ x : Bool, x = true → Ev (fun k => awardingbodylaw20_BubbleParts.j3 k (pg : Int) O X (a : Int) (i : Int) (-1) x c v ps B d f ld) true := by
      rintro ⟨g, hgm, hgi⟩ x hx
      refine ev_step ?_ (fun k => by rw [awardingbodylaw20_BubbleParts.j3])
      have hgd : g ∈ F.drop q := by
        have hgm' := hgm
        rw [← List.take_append_drop q F] at hgm'
        rcases List.mem_append.1 hgm' with h | h
        · have := hlt g h; omega
        · exact h
      have hql : q < F.length := by
        have := List.length_pos_of_mem hgd
        rw [List.length_drop] at this; omega
      have hF1 := drop_cons_at F z46 q hql
      have hC1 := drop_cons_at C 0 q (by omega)
      have hmono : Mono (F.drop q) := List.Pairwise.sublist (List.drop_sublist _ _) hm
      have hfi0 : (F.getD q z46).f0 = (i : Int) := by
        have h1 := hge (F.getD q z46) (by rw [hF1]; simp)
        rw [hF1] at hgd hmono
        rcases List.mem_cons.1 hgd with h2 | h2
        · rw [← h2]; exact hgi
        · have := (List.pairwise_cons.1 hmono).1 g h2
          omega
      have hl : (F.drop (q + 1)).length = (C.drop (q + 1)).length := by rw [List.length_drop, List.length_drop, hC]
      obtain ⟨m, h1, h2, h3, h4, h5⟩ := run_split (F.drop (q + 1)) (C.drop (q + 1)) (F.getD q z46) (C.getD q 0) [] hl
      rw [hF1] at hmono
      obtain ⟨hgt, hv1, hv2, hv3⟩ := run_vls (c := C.getD q 0) (cs := C.drop (q + 1)) hmono hl h1 h2 h4 h5
      rw [← hF1, ← hC1] at h3 hv1
      rw [← hF1] at hgt h2 h4
      rw [List.length_drop] at h2
      rw [List.drop_drop, List.drop_drop] at h3
      rw [List.drop_drop] at hgt
      rw [hfi0] at hv1 hgt h4
      rw [h3, List.nil_append] at hd
      obtain ⟨ha2, hxa, hd'⟩ := rows_drop hd
      have hrl : ((C.drop q).take m).length = m := by rw [List.length_take, List.length_drop]; omega
      have hvF : vls (i : Int) F C = (C.drop q).take m := by
        have := vls_app (i : Int) (F.take q) (C.take q) (F.drop q) (C.drop q) (by rw [List.length_take, List.length_take, hC])
        rw [List.take_append_drop, List.take_append_drop, vls_none (i : Int) (F.take q) _ (fun g' hg' => by have := hlt g' hg'; omega), List.nil_append, hv1] at this
        exact this
      have hv : chosen J F C (-1) (i : Int) = (J ((C.drop q).take m)).1 := by
        unfold chosen
        rw [hvF, if_neg]
        intro e0
        have := congrArg List.length e0
        rw [hrl] at this
        simp at this; omega
      have hO := hG i hil
      rw [hv] at hO
      rw [rdl_n, hxa, rd_nat, hO, next_index i ps.length hil (by omega), next_index a X.length ha2 (by omega)]
      refine ev_pos hx (ev_neg (by omega) (ev_pos (by omega) (ev_pos (by omega) (ev_bind (hJ _ (by rw [hrl]; omega)).1 (ev_pos (by omega) (ev_pos (by omega) (ev_pos rfl ?_)))))))
      refine ih (i + 1) (a + 1) (q + m) (by omega) (by omega) (by omega) hd' (fun g' hg' => ?_) (fun g' hg' => by have := hgt g' hg'; omega)
      rw [List.take_add] at hg'
      rcases List.mem_append.1 hg' with h | h
      · have := hlt g' h; omega
      · have := h4 g' h; omega
    refine ev_step ?_ (fun k => by rw [awardingbodylaw20_BubbleParts.l1])
    rw [rdp_nat]
    refine ev_pos (by omega) (ev_pos (by omega) (ev_ite (fun hk => ?_) (fun hk => ?_)))
    · refine ev_bind hpo ?_
      by_cases hpe : pgS (i : Int) B 0 = (pg : Int)
      · exact yes ((hfi i hil).2 ⟨hk, hpe⟩) _ (by rw [hpe]; simp)
      · exact no (fun hx => hpe ((hfi i hil).1 hx).2) _ (by simp [hpe])
    · exact no (fun hx => hk ((hfi i hil).1 hx).1) _ rfl
end

/-! Papers of few marks: Make divides them. -/
def Few (ps : List Part) : Prop := ∀ p ∈ ps, pB p = true ∧ p.f1 ≤ 12
theorem few_snoc {ps : List Part} {p : Part} (h : Few ps) (hp : pB p = true ∧ p.f1 ≤ 12) : Few (ps ++ [p]) := by
  intro x hx
  rcases List.mem_append.1 hx with hx | hx
  · exact h x hx
  · rw [List.mem_singleton.1 hx]; exact hp
theorem part_few {L : List Int} {p : Int} (h : TP L p) : ∃ (v : Part) (q : Int), Ev (fun k => awardingbodymake_Tape_Part.f k L p 0) (v.f0, v.f1, v.f2, v.f3, v.f4, v.f5, q) ∧ TP L q ∧ pB v = true ∧ v.f1 ≤ 12 := by
  obtain ⟨m, q1, h1, hq1, hm⟩ := range_ok h 1 12 (by omega) (by omega) (by omega)
  obtain ⟨t, q2, h2, hq2, ht, _⟩ := next_ok hq1 4 (by omega)
  obtain ⟨o, q3, h3, hq3, ho, _⟩ := next_ok hq2 3 (by omega)
  obtain ⟨c, q4, h4, hq4, hc, _⟩ := next_ok hq3 3 (by omega)
  have ht := ht (by omega)
  have ho := ho (by omega)
  unfold awardingbodymake_Tape_Part.f
  by_cases hc0 : c = 0
  · obtain ⟨op, q5, h5, hq5, hop⟩ := range_ok hq4 2 5 (by omega) (by omega) (by omega)
    obtain ⟨ke, q6, h6, hq6, hke, _⟩ := next_ok hq5 op (by omega)
    obtain ⟨m2, q7, h7, hq7, hm2⟩ := range_ok hq6 1 3 (by omega) (by omega) (by omega)
    have hke := hke (by omega)
    obtain ⟨v, q, he, hq, hk⟩ := part_gj0 hq7 0 (by omega) ⟨2, m2, t, o, op, ke⟩
    refine ⟨v, q, ev_bind_now h1 (ev_bind_now h2 (ev_bind_now h3 (ev_bind_now h4 (ev_pos hc0 (ev_bind_now h5 (ev_bind_now h6 (ev_bind_now h7 he))))))), hq, ?_⟩
    rw [hk (by omega)]
    refine ⟨?_, by show m2 ≤ 12; omega⟩
    show partB 2 m2 t o op ke = true
    unfold partB rangeB kindB
    rw [decide_eq_true (by omega), decide_eq_true (.inr ⟨rfl, by omega, by omega, by omega, by omega⟩)]
    rfl
  · obtain ⟨v, q, he, hq, hk⟩ := part_gj0 hq4 0 (by omega) ⟨1, m, t, o, 0, 0⟩
    refine ⟨v, q, ev_bind_now h1 (ev_bind_now h2 (ev_bind_now h3 (ev_bind_now h4 (ev_neg hc0 he)))), hq, ?_⟩
    rw [hk (by omega)]
    refine ⟨?_, by show m ≤ 12; omega⟩
    show partB 1 m t o 0 0 = true
    unfold partB rangeB kindB
    rw [decide_eq_true (by omega), decide_eq_true (.inl ⟨rfl, rfl, rfl⟩)]
    rfl
theorem paper_few_loop (L : List Int) (c v : Int) (d : Nat) : ∀ (ps : List Part) (p : Int), ps.length + d ≤ 1000 → Few ps → TP L p →
    ∃ out q, Ev (fun k => awardingbodymake_Tape_Paper.l0 k (d : Int) L p c v ps) (c, v, out, q) ∧ TP L q ∧ out.length = ps.length + d ∧ Few out := by
  induction d with
  | zero =>
    intro ps p hl ho hp
    refine ⟨ps, p, ?_, hp, by omega, ho⟩
    refine ev_step ?_ (fun k => by rw [awardingbodymake_Tape_Paper.l0])
    exact ev_neg (by omega) (ev_some rfl)
  | succ d ih =>
    intro ps p hl ho hp
    obtain ⟨x, q, hx, hq, hok⟩ := part_few hp
    obtain ⟨out, q2, he, hq2, h1, h2⟩ := ih (ps ++ [x]) q (by rw [List.length_append, List.length_singleton]; omega) (few_snoc ho hok) hq
    refine ⟨out, q2, ?_, hq2, by rw [List.length_append, List.length_singleton] at h1; omega, h2⟩
    refine ev_step ?_ (fun k => by rw [awardingbodymake_Tape_Paper.l0])
    rw [wrap_id (x := ((d + 1 : Nat) : Int) - 1) (by omega) (by omega), show ((d + 1 : Nat) : Int) - 1 = (d : Int) by omega]
    exact ev_pos (by omega) (ev_bind hx (ev_pos (by omega) he))
theorem paper_few {L : List Int} {p : Int} (h : TP L p) (c v : Int) :
    ∃ out q, Ev (fun k => awardingbodymake_Tape_Paper.f k L p c v) (c, v, out, q) ∧ TP L q ∧ 1 ≤ out.length ∧ out.length ≤ 6 ∧ Few out := by
  obtain ⟨n, q, hn, hq, h1, h2⟩ := range_ok h 1 6 (by omega) (by omega) (by omega)
  obtain ⟨d, rfl⟩ : ∃ d : Nat, n = d := ⟨n.toNat, by omega⟩
  obtain ⟨out, q2, he, hq2, h3, h4⟩ := paper_few_loop L c v d [] q (by simp; omega) (fun x hx => by cases hx) hq
  simp at h3
  refine ⟨out, q2, ?_, hq2, by omega, by omega, h4⟩
  unfold awardingbodymake_Tape_Paper.f
  exact ev_bind_now hn he
theorem sum_few : ∀ (l : List Part) (n : Int), Few l → 0 ≤ n → n + 12 * (l.length : Int) ≤ 1000000 → sumW l n ≤ n + 12 * (l.length : Int)
  | [], n, _, _, _ => by simp [sumW]
  | p :: l, n, h, hn, hb => by
    have hp := h p (by simp)
    have hp1 := pB_f1 hp.1
    simp only [List.length_cons] at hb ⊢
    have := sum_few l (n + p.f1) (fun q hq => h q (by simp [hq])) (by omega) (by omega)
    have e : sumW (p :: l) n = sumW l (wrap64 (n + p.f1)) := rfl
    rw [e, wrap_id (by omega) (by omega)]
    omega
theorem few_valid {ps : List Part} (h : Few ps) (h1 : 1 ≤ ps.length) (h2 : ps.length ≤ 6) : vpS 0 0 ps = true := by
  unfold vpS
  have hb : ¬ ps.any badP = true := by
    rw [List.any_eq_true]
    rintro ⟨p, hp, hq⟩
    unfold badP at hq
    rw [(h p hp).1] at hq
    cases hq
  have hs := sum_few ps 0 h (Int.le_refl _) (by omega)
  rw [if_pos ⟨by omega, by omega, by omega, by omega, by omega, by omega⟩, if_neg hb]
  exact decide_eq_true (by omega)
theorem few_make {ps : List Part} (h : Few ps) (h1 : 1 ≤ ps.length) (h2 : ps.length ≤ 6) : (makeS 0 0 ps).2 = 0 := by
  unfold makeS
  rw [if_pos (few_valid h h1 h2)]
  have hp := pk_len ps 0 30 []
  obtain ⟨f1, f2, f3⟩ := fill_len ([[]] ++ pk ps 0 30 [])
  unfold endS
  rw [if_neg]
  rw [List.length_append, List.length_singleton] at f3
  omega

theorem parts_l0 (d f ld : Int) (ht : thrB d f ld = true) (ps : List Part) (hw : Few ps) (h1 : 1 ≤ ps.length) (h6 : ps.length ≤ 6) (pg : Nat) (hpg : pg < 4) (L : List Int) (e : Nat) : ∀ (i : Nat) (C : List Int) (p : Int), TP L p → i + e = (fieldsS 0 0 ps (makeS 0 0 ps).1 (pg : Int)).length → C.length = i → (∀ x ∈ C, 0 ≤ x ∧ x ≤ 9) →
    Ev (fun k => awardingbodylaw20_BubbleParts.l0 k (makeS 0 0 ps).2 (pg : Int) (fieldsS 0 0 ps (makeS 0 0 ps).1 (pg : Int)) C (i : Int) L p 0 0 ps (makeS 0 0 ps).1 d f ld) true := by
  obtain ⟨hv, hb, hfe, hle⟩ := mkv 0 0 ps (few_make hw h1 h6)
  have hrows := makeS_rows 0 0 ps (by omega)
  have hB4 : pg < (makeS 0 0 ps).1.length := by
    obtain ⟨f1, f2, f3⟩ := fill_len ([[]] ++ pk ps 0 30 [])
    rw [List.length_append, List.length_singleton] at f2
    rw [hfe]
    omega
  obtain ⟨_, hF, hm, hg⟩ := fields_ok 0 0 ps (makeS 0 0 ps).1 (pg : Int) hb (by omega) (by omega)
  induction e with
  | zero =>
    intro i C p h hi hC hx
    refine ev_step ?_ (fun k => by rw [awardingbodylaw20_BubbleParts.l0])
    obtain ⟨J, hJ⟩ := judges d f ld
    have hin : C.any outB = false := by
      rw [List.any_eq_false]
      intro x hxm
      have := hx x hxm
      unfold outB
      rw [decide_eq_true_eq]; omega
    have hR : pgR J 0 0 ps (makeS 0 0 ps).1 d f ld (pg : Int) C = (pageL J ps.length (fieldsS 0 0 ps (makeS 0 0 ps).1 (pg : Int)) C, 0) := by
      unfold pgR
      rw [if_pos ⟨hv, ht, hb⟩, if_neg (by omega), if_pos (by omega), if_neg (by rw [hin]; simp)]
    have hp := page_ev d f ld J hJ 0 0 ps (makeS 0 0 ps).1 (pg : Int) C (by omega) (by omega) (fun r hr => by have := hrows.2 r hr; omega) (by omega)
    rw [hR] at hp
    refine ev_neg (by omega) (ev_bind hp (ev_bind (split_ev _ C (by omega) (by omega)) (ev_pos (few_make hw h1 h6) (ev_pos rfl (ev_pos rfl ?_)))))
    refine ev_step ?_ (fun k => by rw [awardingbodylaw20_BubbleParts.j1])
    have hL := pageL_len d f ld J hJ ps.length (fieldsS 0 0 ps (makeS 0 0 ps).1 (pg : Int)) C
    refine ev_neg (by rw [hL]; simp) ?_
    exact parts_l1 d f ld J hJ 0 0 ps (by omega) (makeS 0 0 ps).1 hb (by omega) hrows.2 pg hB4 C (by omega) ps.length 0 0 0 (by omega) (Nat.zero_le _) (Nat.zero_le _) (by simp) (fun g hgm => by simp at hgm) (fun g hgm => by rw [List.drop_zero] at hgm; exact (hg g hgm).1)
  | succ e ih =>
    intro i C p h hi hC hx
    refine ev_step ?_ (fun k => by rw [awardingbodylaw20_BubbleParts.l0])
    obtain ⟨x, q, h2, hq, hx1, _⟩ := next_ok h 10 (by omega)
    have hx1 := hx1 (by omega)
    rw [next_index i (fieldsS 0 0 ps (makeS 0 0 ps).1 (pg : Int)).length (by omega) (by omega)]
    refine ev_pos (by omega) (ev_bind_now h2 (ev_pos (by omega) (ih (i + 1) _ q hq (by omega) (by simp; omega) (fun y hy => ?_))))
    rcases List.mem_append.1 hy with hy | hy
    · exact hx y hy
    · rw [List.mem_singleton.1 hy]; omega

theorem BubbleParts : awardingbodylaw20_BubbleParts.Pure := by
  intro l _ _ _
  obtain ⟨M, h0, hp⟩ := new_ok l
  obtain ⟨ps, q, h1, hq, hl1, hl6, hw⟩ := paper_few hp 0 0
  obtain ⟨d, f, ld, q2, h2, hq2, ht⟩ := threshold_ok hq 0 (by omega)
  obtain ⟨pg, q3, h3, hq3, hpg, _⟩ := next_ok hq2 4 (by omega)
  have hpg := hpg (by omega)
  obtain ⟨g, rfl⟩ : ∃ g : Nat, pg = g := ⟨pg.toNat, by omega⟩
  have hrows := makeS_rows 0 0 ps (by omega)
  refine Ev.rounds (g := fun k => awardingbodylaw20_BubbleParts.f k l) ?_
  unfold awardingbodylaw20_BubbleParts.f
  refine ev_bind_now h0 (ev_bind h1 (ev_bind (make_ev 0 0 ps (by omega)) (ev_bind_now h2 (ev_bind_now h3 (ev_bind (fields_ev 0 0 ps _ (g : Int) (by omega) (by omega) (fun r hr => by have := hrows.2 r hr; omega)) ?_)))))
  exact parts_l0 d f ld (ht (by omega)) ps hw hl1 hl6 g (by omega) M (fieldsS 0 0 ps (makeS 0 0 ps).1 (g : Int)).length 0 [] q3 hq3 (Nat.zero_add _) rfl (fun x hx => by simp at hx)

end Go.Proofs.Ythbmpjglkbhhgaa.Pure
