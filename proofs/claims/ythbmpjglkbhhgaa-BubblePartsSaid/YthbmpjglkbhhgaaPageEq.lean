/- Pages: what Page comes to, program and reference alike. Conditions: papers and booklets of at most 1000 parts and 1000000 pages, at most 1000 choices. -/
import Derived.Test.YthbmpjglkbhhgaaPrint5
import Derived.Test.YthbmpjglkbhhgaaPrint3
import Derived.Test.YthbmpjglkbhhgaaBub
import Derived.Test.YthbmpjglkbhhgaaFields
namespace Go.Proofs.Ythbmpjglkbhhgaa.Pure
open Go.RowKit Go.Proofs.Ythbmpjglkbhhgaa.Print Go.Proofs.YthbmpjglkbhhgaaW.PrintWords Go.Proofs.YthbmpjglkbhhgaaW.PrintLast Go.Proofs.YthbmpjglkbhhgaaW.PrintMore Go.Proofs.Ythbmpjglkbhhgaa.Bk
set_option linter.unusedVariables false
set_option linter.unusedSectionVars false

/-- The runs of one part's fields: the rest of the current run, and those behind it. -/
def splS : List Fld → List Int → List Int → List (List Int)
  | f :: g :: fs, c :: cs, cur => if g.f0 = f.f0 then splS (g :: fs) cs (cur ++ [c]) else (cur ++ [c]) :: splS (g :: fs) cs []
  | [_], c :: _, cur => [cur ++ [c]]
  | _, _, _ => []
theorem seg_snoc (C : List Int) (fr i : Nat) (h1 : fr ≤ i) (h2 : i < C.length) : (C.take (i + 1)).drop fr = (C.take i).drop fr ++ [C.getD i 0] := by
  rw [List.take_add_one, List.drop_append_of_le_length (by rw [List.length_take]; omega), List.getElem?_eq_getElem h2, List.getD_eq_getElem?_getD, List.getElem?_eq_getElem h2]
  rfl
theorem rdf (F : List Fld) (i : Nat) : rd_T46 F (i : Int) = F.getD i z46 := by unfold rd_T46; rw [Int.toNat_natCast]
section
variable (F : List Fld) (C : List Int) (hF : F.length ≤ 1000) (hC : C.length = F.length)
include hF hC
theorem split_l0 (d : Nat) : ∀ (i fr : Nat) (out : List (List Int)), i + d = F.length → fr ≤ i → out.length ≤ i →
    Ev (fun k => bubble_Split.l0 k F C out (fr : Int) (F.length : Int) (i : Int)) (out ++ splS (F.drop i) (C.drop i) ((C.take i).drop fr), 0) := by
  induction d with
  | zero =>
    intro i fr out hi hfr ho
    refine ev_step ?_ (fun k => by rw [bubble_Split.l0])
    rw [List.drop_of_length_le (show F.length ≤ i by omega)]
    exact ev_neg (by omega) (ev_some (by simp [splS]))
  | succ d ih =>
    intro i fr out hi hfr ho
    refine ev_step ?_ (fun k => by rw [bubble_Split.l0])
    have hs := seg_snoc C fr i hfr (by omega)
    have hn := ih (i + 1) (i + 1) (out ++ [(C.take (i + 1)).drop fr]) (by omega) (Nat.le_refl _) (by simp; omega)
    have he : (C.take (i + 1)).drop (i + 1) = [] := List.drop_of_length_le (by rw [List.length_take]; omega)
    rw [he] at hn
    rw [next_index i F.length (by omega) (by omega), drop_cons_at C 0 i (by omega), Int.toNat_natCast, Int.toNat_natCast]
    refine ev_pos (by omega) (ev_ite (fun h => ?_) (fun h => ?_))
    · refine ev_pos (by omega) (ev_pos (by omega) (ev_pos (by omega) (ev_pos (by omega) (ev_eq hn ?_))))
      rw [drop_cons_at F z46 i (by omega), List.drop_of_length_le (show F.length ≤ i + 1 by omega), hs]
      simp [splS]
    · have hd : F.drop i = F.getD i z46 :: F.getD (i + 1) z46 :: F.drop (i + 1 + 1) := by
        rw [drop_cons_at F z46 i (by omega), drop_cons_at F z46 (i + 1) (by omega)]
      have hd1 : F.drop (i + 1) = F.getD (i + 1) z46 :: F.drop (i + 1 + 1) := drop_cons_at F _ (i + 1) (by omega)
      rw [rdf, rdf]
      refine ev_pos (by omega) (ev_pos (by omega) (ev_pos (by omega) (ev_pos (by omega) (ev_ite (fun e => ?_) (fun e => ?_)))))
      · refine ev_eq (ih (i + 1) fr out (by omega) (by omega) (by omega)) ?_
        rw [hd, splS, if_pos e, hd1, hs]
      · refine ev_pos (by omega) (ev_pos (by omega) (ev_pos (by omega) (ev_pos (by omega) (ev_eq hn ?_))))
        rw [hd, splS, if_neg e, hd1, hs, List.append_assoc]
        rfl
theorem split_ev : Ev (fun k => bubble_Split.f k F C) (splS F C [], 0) := by
  unfold bubble_Split.f slices_Clone_int_int.f
  refine ev_pos (by omega) (ev_bind_now (a := C) ?_ ?_)
  · show (if ([] : List Int).length + C.length < _ then _ else _) = _
    rw [if_pos (by simp; omega)]; rfl
  · exact ev_eq (split_l0 F C hF hC F.length 0 0 [] (Nat.zero_add _) (Nat.le_refl _) (Nat.le_refl _)) (by simp)
end

/-- The choices of a part's fields. -/
def vls (p : Int) : List Fld → List Int → List Int
  | f :: fs, c :: cs => if f.f0 = p then c :: vls p fs cs else vls p fs cs
  | _, _ => []
theorem vls_app (p : Int) : ∀ (A : List Fld) (X : List Int) (B : List Fld) (Y : List Int), A.length = X.length → vls p (A ++ B) (X ++ Y) = vls p A X ++ vls p B Y
  | [], [], B, Y, _ => by simp [vls]
  | [], _ :: _, _, _, h => by simp at h
  | _ :: _, [], _, _, h => by simp at h
  | f :: A, c :: X, B, Y, h => by
    have := vls_app p A X B Y (by simpa using h)
    simp only [List.cons_append, vls, this]
    split <;> rfl
theorem vls_all (p : Int) : ∀ (A : List Fld) (X : List Int), A.length = X.length → (∀ g ∈ A, g.f0 = p) → vls p A X = X
  | [], [], _, _ => rfl
  | [], _ :: _, h, _ => by simp at h
  | _ :: _, [], h, _ => by simp at h
  | f :: A, c :: X, h, hg => by
    rw [vls, if_pos (hg f (by simp)), vls_all p A X (by simpa using h) (fun g hm => hg g (by simp [hm]))]
theorem vls_none (p : Int) : ∀ (A : List Fld) (X : List Int), (∀ g ∈ A, g.f0 ≠ p) → vls p A X = []
  | [], X, _ => by simp [vls]
  | _ :: _, [], _ => by simp [vls]
  | f :: A, c :: X, hg => by
    rw [vls, if_neg (hg f (by simp)), vls_none p A X (fun g hm => hg g (by simp [hm]))]
theorem vls_len (p : Int) : ∀ (A : List Fld) (X : List Int), (vls p A X).length ≤ X.length
  | [], X => by simp [vls]
  | _ :: _, [] => by simp [vls]
  | f :: A, c :: X => by
    rw [vls]
    have := vls_len p A X
    split <;> simp <;> omega
theorem run_split : ∀ (fs : List Fld) (cs : List Int) (f : Fld) (c : Int) (cur : List Int), fs.length = cs.length →
    ∃ m, 1 ≤ m ∧ m ≤ (f :: fs).length ∧ splS (f :: fs) (c :: cs) cur = (cur ++ (c :: cs).take m) :: splS ((f :: fs).drop m) ((c :: cs).drop m) [] ∧ (∀ g ∈ (f :: fs).take m, g.f0 = f.f0) ∧ ∀ g gs, (f :: fs).drop m = g :: gs → g.f0 ≠ f.f0
  | [], cs, f, c, cur, _ => ⟨1, by simp, by simp, by simp [splS], by simp, by simp⟩
  | g :: fs, [], _, _, _, h => by simp at h
  | g :: fs, d :: cs, f, c, cur, h => by
    have h' : fs.length = cs.length := by simpa using h
    by_cases e : g.f0 = f.f0
    · obtain ⟨m, h1, h2, h3, h4, h5⟩ := run_split fs cs g d (cur ++ [c]) h'
      refine ⟨m + 1, by omega, by simp at h2 ⊢; omega, ?_, ?_, ?_⟩
      · rw [splS, if_pos e, h3]
        simp
      · intro x hx
        rw [List.take_succ_cons] at hx
        rcases List.mem_cons.1 hx with rfl | hx
        · rfl
        · rw [h4 x hx, e]
      · intro x xs hx
        rw [List.drop_succ_cons] at hx
        rw [← e]
        exact h5 x xs hx
    · refine ⟨1, by simp, by simp, ?_, by simp, ?_⟩
      · rw [splS, if_neg e]
        simp
      · intro x xs hx
        simp at hx
        rw [← hx.1]; exact e

/-- Parts in order. -/
def Mono (F : List Fld) : Prop := F.Pairwise (fun f g => f.f0 ≤ g.f0)
/-- A run and what lies behind it. -/
theorem run_vls {f : Fld} {fs : List Fld} {c : Int} {cs : List Int} (hm : Mono (f :: fs)) (hl : fs.length = cs.length) {m : Nat} (h1 : 1 ≤ m) (h2 : m ≤ (f :: fs).length) (h4 : ∀ g ∈ (f :: fs).take m, g.f0 = f.f0) (h5 : ∀ g gs, (f :: fs).drop m = g :: gs → g.f0 ≠ f.f0) :
    (∀ g ∈ (f :: fs).drop m, f.f0 < g.f0) ∧ vls f.f0 (f :: fs) (c :: cs) = (c :: cs).take m ∧ vls f.f0 ((f :: fs).drop m) ((c :: cs).drop m) = [] ∧ ∀ i, i ≠ f.f0 → vls i (f :: fs) (c :: cs) = vls i ((f :: fs).drop m) ((c :: cs).drop m) := by
  have hgt : ∀ g ∈ (f :: fs).drop m, f.f0 < g.f0 := by
    intro g hg
    cases hd : (f :: fs).drop m with
    | nil => rw [hd] at hg; cases hg
    | cons x xs =>
      have hx := h5 x xs hd
      have hp : Mono ((f :: fs).drop m) := List.Pairwise.sublist (List.drop_sublist _ _) hm
      have hfx : f.f0 ≤ x.f0 := by
        have hxm : x ∈ fs := by
          have : x ∈ (f :: fs).drop m := by rw [hd]; simp
          obtain ⟨k, rfl⟩ : ∃ k, m = k + 1 := ⟨m - 1, by omega⟩
          rw [List.drop_succ_cons] at this
          exact List.mem_of_mem_drop this
        exact (List.pairwise_cons.1 hm).1 x hxm
      rw [hd] at hg hp
      rcases List.mem_cons.1 hg with rfl | hg
      · omega
      · have := (List.pairwise_cons.1 hp).1 g hg
        omega
  have hlen : (f :: fs).length = (c :: cs).length := by simp [hl]
  have hcut : ∀ i, vls i (f :: fs) (c :: cs) = vls i ((f :: fs).take m) ((c :: cs).take m) ++ vls i ((f :: fs).drop m) ((c :: cs).drop m) := by
    intro i
    rw [← vls_app i _ _ _ _ (by rw [List.length_take, List.length_take, hlen]), List.take_append_drop, List.take_append_drop]
  have hz : vls f.f0 ((f :: fs).drop m) ((c :: cs).drop m) = [] := vls_none _ _ _ (fun g hg => by have := hgt g hg; omega)
  refine ⟨hgt, ?_, hz, fun i hi => ?_⟩
  · rw [hcut, hz, List.append_nil]
    exact vls_all _ _ _ (by rw [List.length_take, List.length_take, hlen]) h4
  · rw [hcut, vls_none i ((f :: fs).take m) _ (fun g hg => by rw [h4 g hg]; exact fun e => hi e.symm), List.nil_append]

theorem rows_drop {X : List (List Int)} {q : Nat} {r : List Int} {rest : List (List Int)} (h : X.drop q = r :: rest) : q < X.length ∧ X.getD q [] = r ∧ X.drop (q + 1) = rest := by
  have hq : q < X.length := by
    rcases Nat.lt_or_ge q X.length with h1 | h1
    · exact h1
    · rw [List.drop_of_length_le h1] at h; cases h
  rw [drop_cons_at X [] q hq] at h
  injection h with h1 h2
  exact ⟨hq, h1, h2⟩
theorem rdl_n (X : List (List Int)) (i : Nat) : rd_L2 X (i : Int) = X.getD i [] := by unfold rd_L2; rw [Int.toNat_natCast]
theorem splS_len : ∀ (fs : List Fld) (cs : List Int) (cur : List Int), (splS fs cs cur).length ≤ fs.length
  | [], cs, cur => by simp [splS]
  | [_], [], _ => by simp [splS]
  | [_], _ :: _, _ => by simp [splS]
  | _ :: _ :: _, [], _ => by simp [splS]
  | f :: g :: fs, c :: cs, cur => by
    rw [splS]
    split
    · have := splS_len (g :: fs) cs (cur ++ [c]); simp at this ⊢; omega
    · have := splS_len (g :: fs) cs []; simp at this ⊢; omega
theorem getD_set (l : List Int) (p i : Nat) (v : Int) (hp : p < l.length) : (l.set p v).getD i 0 = if i = p then v else l.getD i 0 := by
  rw [List.getD_eq_getElem?_getD, List.getD_eq_getElem?_getD]
  by_cases h : i = p
  · subst h; rw [if_pos rfl, List.getElem?_set_self hp]; rfl
  · rw [if_neg h, List.getElem?_set_ne (fun e => h e.symm)]

section
variable (d f ld : Int) (J : List Int → Int × Int) (hJ : ∀ l, l.length ≤ 1000000 → Ev (fun k => bubble_Judge.f k d f ld l) (J l) ∧ True)
/-- What is chosen for a part. -/
def chosen (J : List Int → Int × Int) (F : List Fld) (C : List Int) (o : Int) (i : Int) : Int := if vls i F C = [] then o else (J (vls i F C)).1
include hJ
theorem page_loop (F : List Fld) (C : List Int) (hF : F.length ≤ 1000) (hC : C.length = F.length) (hm : Mono F) (N : Nat) (hr : ∀ g ∈ F, 0 ≤ g.f0 ∧ g.f0 < (N : Int)) (X : List (List Int)) (hX : X.length ≤ 1000) (n : Nat) : ∀ (a q : Nat) (out : List Int),
    F.length - a ≤ n → a ≤ F.length → X.drop q = splS (F.drop a) (C.drop a) [] → out.length = N →
    ∃ out', Ev (fun k => bubble_Page.l0 k F out (a : Int) X (X.length : Int) (q : Int) d f ld) (out', 0) ∧ out'.length = N ∧ ∀ i : Nat, i < N → out'.getD i 0 = chosen J (F.drop a) (C.drop a) (out.getD i 0) i := by
  induction n with
  | zero =>
    intro a q out hn ha hd ho
    have hz : F.drop a = [] := List.drop_of_length_le (by omega)
    rw [hz] at hd
    have hq : ¬ ((q : Int) < (X.length : Int)) := by
      intro h
      rw [drop_cons_at X [] q (by omega)] at hd
      simp [splS] at hd
    refine ⟨out, ev_step (ev_neg hq (ev_some rfl)) (fun k => by rw [bubble_Page.l0]), ho, fun i _ => ?_⟩
    rw [hz]; simp [chosen, vls]
  | succ n ih =>
    intro a q out hn ha hd ho
    rcases Nat.lt_or_ge a F.length with hlt | hge
    · have hF1 := drop_cons_at F z46 a hlt
      have hC1 := drop_cons_at C 0 a (by omega)
      have hl : (F.drop (a + 1)).length = (C.drop (a + 1)).length := by rw [List.length_drop, List.length_drop, hC]
      obtain ⟨m, h1, h2, h3, h4, h5⟩ := run_split (F.drop (a + 1)) (C.drop (a + 1)) (F.getD a z46) (C.getD a 0) [] hl
      have hmono : Mono (F.getD a z46 :: F.drop (a + 1)) := by rw [← hF1]; exact List.Pairwise.sublist (List.drop_sublist _ _) hm
      obtain ⟨hgt, hv1, hv2, hv3⟩ := run_vls (c := C.getD a 0) (cs := C.drop (a + 1)) hmono hl h1 h2 h4 h5
      rw [← hF1, ← hC1] at h3 hv1 hv2 hv3
      rw [← hF1] at hgt h2
      rw [List.length_drop] at h2
      rw [List.drop_drop, List.drop_drop] at h3 hv2
      simp only [List.drop_drop] at hv3
      rw [h3, List.nil_append] at hd
      obtain ⟨hq, hg, hd'⟩ := rows_drop hd
      have hrl : ((C.drop a).take m).length = m := by rw [List.length_take, List.length_drop]; omega
      have hfa : F.getD a z46 ∈ F := getD_in F _ a hlt
      obtain ⟨hp0, hp1⟩ := hr _ hfa
      obtain ⟨p, hp⟩ : ∃ p : Nat, (F.getD a z46).f0 = p := ⟨((F.getD a z46).f0).toNat, by omega⟩
      rw [hp] at hv1 hv2 hv3 hp0 hp1
      obtain ⟨out', he, ho', hs⟩ := ih (a + m) (q + 1) (out.set p (J ((C.drop a).take m)).1) (by omega) (by omega) hd' (by rw [List.length_set]; exact ho)
      refine ⟨out', ?_, ho', fun i hi => ?_⟩
      · refine ev_step ?_ (fun k => by rw [bubble_Page.l0])
        rw [rdl_n, rdf, hg, hp, hrl, next_index q X.length hq (by omega), Int.toNat_natCast, wrap_id (x := (a : Int) + (m : Int)) (by omega) (by omega)]
        refine ev_pos (by omega) (ev_pos (by omega) (ev_pos (by omega) (ev_pos (by omega) (ev_pos (by omega) (ev_bind (hJ _ (by rw [hrl]; omega)).1 (ev_pos (by omega) (ev_pos (by omega) ?_)))))))
        exact he
      · rw [hs i hi]
        unfold chosen
        rw [getD_set _ _ _ _ (by omega)]
        by_cases e : i = p
        · subst e
          rw [hv1, hv2, if_pos rfl, if_pos rfl, if_neg]
          intro e0
          have := congrArg List.length e0
          rw [hrl] at this
          simp at this; omega
        · rw [if_neg e, hv3 (i : Int) (by omega)]
    · exact ih a q out (by omega) ha hd ho
/-- The list of what is chosen, part by part. -/
def pageL (J : List Int → Int × Int) (n : Nat) (F : List Fld) (C : List Int) : List Int := (List.range' 0 n).map (fun j : Nat => chosen J F C (-1) j)
theorem pageL_len (n : Nat) (F : List Fld) (C : List Int) : (pageL J n F C).length = n := by unfold pageL; simp
theorem pageL_get (n : Nat) (F : List Fld) (C : List Int) (i : Nat) (hi : i < n) : (pageL J n F C).getD i 0 = chosen J F C (-1) i := by
  unfold pageL
  rw [List.getD_eq_getElem?_getD, List.getElem?_map, List.getElem?_range' (by simpa using hi)]
  simp
theorem page_list (F : List Fld) (C : List Int) (hF : F.length ≤ 1000) (hC : C.length = F.length) (hm : Mono F) (N : Nat) (hN : N ≤ 1000) (hr : ∀ g ∈ F, 0 ≤ g.f0 ∧ g.f0 < (N : Int)) :
    Ev (fun k => bubble_Page.l0 k F (List.replicate N (-1)) 0 (splS F C []) ((splS F C []).length : Int) 0 d f ld) (pageL J N F C, 0) := by
  have hX := splS_len F C []
  obtain ⟨out, he, ho, hs⟩ := page_loop d f ld J hJ F C hF hC hm N hr (splS F C []) (by omega) F.length 0 0 (List.replicate N (-1)) (by omega) (Nat.zero_le _) (by simp) (by simp)
  refine ev_eq he ?_
  have : out = pageL J N F C := by
    apply List.ext_getElem?
    intro i
    rcases Nat.lt_or_ge i N with h | h
    · have h1 := hs i h
      have h2 := pageL_get d f ld J hJ N F C i h
      rw [List.drop_zero, List.drop_zero, show (List.replicate N (-1 : Int)).getD i 0 = -1 by rw [List.getD_eq_getElem?_getD, List.getElem?_replicate, if_pos h]; rfl] at h1
      rw [List.getD_eq_getElem?_getD, List.getElem?_eq_getElem (by omega)] at h1
      rw [List.getD_eq_getElem?_getD, List.getElem?_eq_getElem (by rw [pageL_len d f ld J hJ]; exact h)] at h2
      rw [List.getElem?_eq_getElem (by omega), List.getElem?_eq_getElem (by rw [pageL_len d f ld J hJ]; exact h)]
      simp only [Option.getD_some] at h1 h2
      rw [h1, h2]
    · rw [List.getElem?_eq_none (by omega), List.getElem?_eq_none (by rw [pageL_len d f ld J hJ]; exact h)]
  rw [this]
end
/-! The fields of a page: in order, of parts that there are. -/
theorem opts_f0 (x : Int) : ∀ (d o : Nat), ∀ g ∈ optsS x o d, g.f0 = x
  | 0, _, g, h => by simp [optsS] at h
  | d + 1, o, g, h => by
    rw [optsS] at h
    rcases List.mem_cons.1 h with rfl | h
    · rfl
    · exact opts_f0 x d (o + 1) g h
theorem flds_f0 (ps : List Part) : ∀ (r : List Int), ∀ g ∈ fldsS ps r, g.f0 ∈ r
  | [], g, h => by simp [fldsS] at h
  | x :: r, g, h => by
    rw [fldsS] at h
    rcases List.mem_append.1 h with h | h
    · rw [opts_f0 x _ _ g h]; simp
    · exact List.mem_cons_of_mem _ (flds_f0 ps r g h)
theorem flds_mono (ps : List Part) : ∀ (r : List Int), r.Pairwise (· < ·) → Mono (fldsS ps r)
  | [], _ => by simp [fldsS, Mono]
  | x :: r, h => by
    rw [fldsS]
    have hp := List.pairwise_cons.1 h
    refine List.pairwise_append.2 ⟨?_, flds_mono ps r hp.2, fun a ha b hb => ?_⟩
    · refine List.Pairwise.imp_of_mem (R := fun _ _ => True) (fun {a b} ha hb _ => ?_) (List.pairwise_of_forall (fun _ _ => trivial))
      rw [opts_f0 x _ _ a ha, opts_f0 x _ _ b hb]; exact Int.le_refl _
    · rw [opts_f0 x _ _ a ha]
      have := hp.1 _ (flds_f0 ps r b hb)
      omega
theorem rowS_pair (ps : List Part) : ∀ (r : List Int) (nx m : Nat) (s t : Int), rowS ps r nx s = some (m, t) → r.Pairwise (· < ·) ∧ (∀ x ∈ r, (nx : Int) ≤ x ∧ x < (m : Int)) ∧ nx ≤ m
  | [], nx, m, s, t, h => by
    simp only [rowS, Option.some.injEq, Prod.mk.injEq] at h
    exact ⟨List.Pairwise.nil, fun x hx => by simp at hx, by omega⟩
  | x :: r, nx, m, s, t, h => by
    simp only [rowS] at h
    by_cases hx : x = (nx : Int) ∧ nx < ps.length
    · rw [if_pos hx] at h
      obtain ⟨h1, h2, h3⟩ := rowS_pair ps r _ _ _ _ h
      refine ⟨List.pairwise_cons.2 ⟨fun y hy => by have := h2 y hy; omega, h1⟩, fun y hy => ?_, by omega⟩
      rcases List.mem_cons.1 hy with rfl | hy
      · omega
      · have := h2 y hy; omega
    · rw [if_neg hx] at h; cases h
theorem rowsS_pair (ps : List Part) : ∀ (B : List (List Int)) (nx : Nat), rowsS ps B nx = true → (∀ r ∈ B, r.Pairwise (· < ·)) ∧ B.Pairwise (fun r r' => ∀ x ∈ r, ∀ y ∈ r', x < y) ∧ ∀ r ∈ B, ∀ x ∈ r, (nx : Int) ≤ x
  | [], nx, _ => ⟨fun r h => by simp at h, List.Pairwise.nil, fun r h => by simp at h⟩
  | r :: B, nx, h => by
    simp only [rowsS] at h
    cases hx : rowS ps r nx 0 with
    | none => rw [hx] at h; cases h
    | some q =>
      obtain ⟨m, t⟩ := q
      rw [hx] at h
      by_cases ht : t > 30
      · simp only [if_pos ht] at h; cases h
      · simp only [if_neg ht] at h
        obtain ⟨h1, h2, h3⟩ := rowS_pair ps r _ _ _ _ hx
        obtain ⟨g1, g2, g3⟩ := rowsS_pair ps B m h
        refine ⟨fun r' hr' => ?_, List.pairwise_cons.2 ⟨fun r' hr' x hxr y hy => ?_, g2⟩, fun r' hr' x hxr => ?_⟩
        · rcases List.mem_cons.1 hr' with rfl | hr'
          · exact h1
          · exact g1 r' hr'
        · have a := h2 x hxr
          have b := g3 r' hr' y hy
          omega
        · rcases List.mem_cons.1 hr' with rfl | hr'
          · exact (h2 x hxr).1
          · have := g3 r' hr' x hxr; omega
theorem bvS_rows {c v : Int} {ps : List Part} {B : List (List Int)} (h : bvS c v ps B = true) : vpS c v ps = true ∧ rowsS ps B 0 = true := by
  unfold bvS at h
  by_cases h1 : vpS c v ps = true
  · rw [if_pos h1] at h
    by_cases h2 : 1 ≤ B.length ∧ B.length ≤ 12 ∧ B.length % 4 = 0 ∧ (B.getD 0 []).length = 0
    · rw [if_pos h2] at h; exact ⟨h1, h⟩
    · rw [if_neg h2] at h; cases h
  · rw [if_neg h1] at h; cases h
theorem pair_len : ∀ (r : List Int) (n : Nat) (a : Int), r.Pairwise (· < ·) → (∀ x ∈ r, a ≤ x ∧ x < a + n) → r.length ≤ n
  | [], n, a, _, _ => by simp
  | x :: r, n, a, h, hx => by
    have h1 := hx x (by simp)
    obtain ⟨m, rfl⟩ : ∃ m, n = m + 1 := ⟨n - 1, by omega⟩
    have := pair_len r m (a + 1) (List.pairwise_cons.1 h).2 (fun y hy => by
      have h2 := (List.pairwise_cons.1 h).1 y hy
      have h3 := hx y (by simp [hy])
      omega)
    simp; omega
/-- What is known of a page's fields. -/
theorem fields_ok (c v : Int) (ps : List Part) (B : List (List Int)) (pg : Int) (h : bvS c v ps B = true) (h0 : 0 ≤ pg) (h1 : pg < (B.length : Int)) :
    fieldsS c v ps B pg = fldsS ps (B.getD pg.toNat []) ∧ (fieldsS c v ps B pg).length ≤ 120 ∧ Mono (fieldsS c v ps B pg) ∧ ∀ g ∈ fieldsS c v ps B pg, 0 ≤ g.f0 ∧ g.f0 < (ps.length : Int) := by
  have e : fieldsS c v ps B pg = fldsS ps (B.getD pg.toNat []) := by unfold fieldsS; rw [if_pos h, if_pos ⟨h0, h1⟩]
  have hm := getD_in B [] pg.toNat (by omega)
  have hn := (bvS_nums h).2 _ hm
  obtain ⟨hv, hr⟩ := bvS_rows h
  have hp := (rowsS_pair ps B 0 hr).1 _ hm
  have hl : (B.getD pg.toNat []).length ≤ ps.length := pair_len _ _ 0 hp (fun x hx => by obtain ⟨j, rfl, hj, _⟩ := hn x hx; omega)
  have hf := flds_len ps _ hn
  have h24 := (bvS_nums h).1
  rw [e]
  refine ⟨rfl, by omega, flds_mono ps _ hp, fun g hg => ?_⟩
  obtain ⟨j, hj, hj2, _⟩ := hn _ (flds_f0 ps _ g hg)
  omega
theorem judges (d f ld : Int) : ∃ J : List Int → Int × Int, ∀ l : List Int, l.length ≤ 1000000 → Ev (fun k => bubble_Judge.f k d f ld l) (J l) ∧ True := by
  refine ⟨fun l => if hl : l.length ≤ 1000000 then Classical.choose (judge_same d f ld l (by omega)) else (0, 0), fun l hl => ?_⟩
  simp only [dif_pos hl]
  exact Classical.choose_spec (judge_same d f ld l (by omega))
/-- What Page comes to. -/
def pgR (J : List Int → Int × Int) (c v : Int) (ps : List Part) (B : List (List Int)) (d f ld pg : Int) (C : List Int) : List Int × Int :=
  if vpS c v ps = true ∧ thrB d f ld = true ∧ bvS c v ps B = true then
    (if pg < 0 ∨ pg ≥ (B.length : Int) then ([], 4) else if C.length = (fieldsS c v ps B pg).length then (if C.any outB = true then ([], 2) else (pageL J ps.length (fieldsS c v ps B pg) C, 0)) else ([], 22))
  else ([], 1)
theorem repeat_eq (n : Nat) (h : n ≤ 1000) : slices_Repeat_int_int.f [(-1)] (n : Int) = some (List.replicate n (-1)) := by
  unfold slices_Repeat_int_int.f
  rw [if_pos ⟨rfl, by omega, by omega⟩, Int.toNat_natCast]
  rfl
section
variable (d f ld : Int) (J : List Int → Int × Int) (hJ : ∀ l, l.length ≤ 1000000 → Ev (fun k => bubble_Judge.f k d f ld l) (J l) ∧ True)
  (c v : Int) (ps : List Part) (B : List (List Int)) (pg : Int) (C : List Int) (hps : ps.length ≤ 1000) (hB : B.length ≤ 1000000) (hr : ∀ r ∈ B, r.length ≤ 1000000) (hC : C.length ≤ 1000)
include hJ hps hB hr hC
theorem page_ev : Ev (fun k => bubble_Page.f k c v ps B d f ld pg C) (pgR J c v ps B d f ld pg C) := by
  have bad : ∀ x : Bool, x = true → ¬ (vpS c v ps = true ∧ thrB d f ld = true ∧ bvS c v ps B = true) → Ev (fun k => bubble_Page.j0 k pg C x c v ps B d f ld) (pgR J c v ps B d f ld pg C) := by
    intro x hx hn
    refine ev_step ?_ (fun k => by rw [bubble_Page.j0])
    exact ev_pos hx (ev_some (by unfold pgR; rw [if_neg hn]))
  unfold bubble_Page.f
  refine ev_bind (vp_ev c v ps (by omega)) (ev_ite (fun h1 => ?_) (fun h1 => bad _ rfl (fun h => h1 h.1)))
  refine ev_bind_now (thr_eq d f ld) (ev_ite (fun h2 => ?_) (fun h2 => bad _ rfl (fun h => h2 h.2.1)))
  refine ev_bind (bvalid_ev c v ps B hps hB hr) ?_
  cases hb : bvS c v ps B with
  | false => exact bad _ rfl (fun h => by rw [hb] at h; cases h.2.2)
  | true =>
    refine ev_step ?_ (fun k => by rw [bubble_Page.j0])
    refine ev_neg (by simp) ?_
    have e : pgR J c v ps B d f ld pg C = (if pg < 0 ∨ pg ≥ (B.length : Int) then ([], 4) else if C.length = (fieldsS c v ps B pg).length then (if C.any outB = true then ([], 2) else (pageL J ps.length (fieldsS c v ps B pg) C, 0)) else ([], 22)) := by
      unfold pgR; rw [if_pos ⟨h1, h2, hb⟩]
    rw [e]
    refine ev_ite (fun h3 => ev_some (by rw [if_pos (.inl h3)])) (fun h3 => ev_ite (fun h4 => ev_some (by rw [if_pos (.inr h4)])) (fun h4 => ?_))
    rw [if_neg (by omega)]
    obtain ⟨_, hl, hm, hg⟩ := fields_ok c v ps B pg hb (by omega) (by omega)
    refine ev_bind (fields_ev c v ps B pg hps hB hr) (ev_ite (fun h5 => ?_) (fun h5 => ev_some (by rw [if_neg (by omega)])))
    rw [if_pos (by omega)]
    refine ev_bind (contains_ev C (by omega)) (ev_ite (fun h6 => ev_some (by rw [if_pos h6])) (fun h6 => ?_))
    rw [if_neg h6]
    refine ev_bind_now (repeat_eq ps.length hps) (ev_bind (split_ev (fieldsS c v ps B pg) C (by omega) (by omega)) ?_)
    exact page_list d f ld J hJ (fieldsS c v ps B pg) C (by omega) (by omega) hm ps.length hps hg
end
theorem pgR_len (J : List Int → Int × Int) (c v : Int) (ps : List Part) (B : List (List Int)) (d f ld pg : Int) (C : List Int) (hps : ps.length ≤ 1000) : (pgR J c v ps B d f ld pg C).1.length ≤ 1000 := by
  unfold pgR
  split
  · split
    · simp
    · split
      · split
        · simp
        · simp [pageL]; omega
      · simp
  · simp

end Go.Proofs.Ythbmpjglkbhhgaa.Pure
