/- BubbleMoves: for every tape the law answers true. No further conditions. -/
import Derived.Test.YthbmpjglkbhhgaaPrint8
import Derived.Test.YthbmpjglkbhhgaaBubGen
import Derived.Test.YthbmpjglkbhhgaaOrder
namespace Go.Proofs.Ythbmpjglkbhhgaa.Pure
open Go.RowKit Go.Proofs.Ythbmpjglkbhhgaa.Print Go.Proofs.YthbmpjglkbhhgaaW.PrintWords Go.Proofs.YthbmpjglkbhhgaaW.PrintLast

/-- The values in another order. -/
def moved (l o : List Int) : List Int := o.map fun v => rd l v

theorem upto_moved (l : List Int) : moved l (upto l.length) = l := by
  refine List.ext_getElem (by simp [moved, upto]) (fun i h1 h2 => ?_)
  simp only [moved, upto, List.getElem_map, List.getElem_range]
  rw [rd_nat, List.getD_eq_getElem?_getD, List.getElem?_eq_getElem h2]
  rfl
theorem moved_perm {l o : List Int} (h : o.Perm (upto l.length)) : (moved l o).Perm l := by
  have := h.map (fun v => rd l v)
  exact this.trans (by rw [show List.map (fun v => rd l v) (upto l.length) = moved l (upto l.length) from rfl, upto_moved])
theorem dark_perm {d : Int} {l m : List Int} (h : l.Perm m) : darkN d l = darkN d m := by
  unfold darkN; rw [h.countP_eq]
theorem getD_map (o : List Int) (f : Int → Int) (i : Nat) (h : i < o.length) : (o.map f).getD i 0 = f (o.getD i 0) := by
  rw [List.getD_eq_getElem?_getD, List.getD_eq_getElem?_getD, List.getElem?_map, List.getElem?_eq_getElem h]; rfl

theorem order_at {n : Nat} {o : List Int} (h : o.Perm (upto n)) (i : Nat) (hi : i < n) : ∃ j : Nat, o.getD i 0 = j ∧ j < n := by
  have hl : o.length = n := by rw [h.length_eq, upto_length]
  have hm : o.getD i 0 ∈ o := by rw [List.getD_eq_getElem?_getD, List.getElem?_eq_getElem (by omega)]; exact List.getElem_mem _
  have := mem_upto.1 (h.mem_iff.1 hm)
  exact ⟨(o.getD i 0).toNat, by omega, by omega⟩
theorem order_onto {n : Nat} {o : List Int} (h : o.Perm (upto n)) (j : Nat) (hj : j < n) : ∃ i : Nat, o.getD i 0 = j ∧ i < n := by
  have hl : o.length = n := by rw [h.length_eq, upto_length]
  have hm : (j : Int) ∈ o := h.mem_iff.2 (mem_upto.2 ⟨by omega, by omega⟩)
  obtain ⟨i, hi, he⟩ := List.getElem_of_mem hm
  refine ⟨i, ?_, by omega⟩
  rw [List.getD_eq_getElem?_getD, List.getElem?_eq_getElem hi]
  exact he
theorem upto_nodup (n : Nat) : (upto n).Nodup := by
  unfold upto
  rw [List.nodup_iff_pairwise_ne, List.pairwise_map]
  exact (List.nodup_iff_pairwise_ne.1 List.nodup_range).imp (fun h => by omega)
theorem order_inj {n : Nat} {o : List Int} (h : o.Perm (upto n)) (i j : Nat) (hi : i < n) (hj : j < n) (he : o.getD i 0 = o.getD j 0) : i = j := by
  have hl : o.length = n := by rw [h.length_eq, upto_length]
  have hn : o.Nodup := h.nodup_iff.2 (upto_nodup n)
  rw [List.getD_eq_getElem?_getD, List.getD_eq_getElem?_getD, List.getElem?_eq_getElem (by omega), List.getElem?_eq_getElem (by omega)] at he
  simp only [Option.getD_some] at he
  have hw := List.pairwise_iff_getElem.1 (List.nodup_iff_pairwise_ne.1 hn)
  rcases Nat.lt_trichotomy i j with h1 | h1 | h1
  · exact absurd he (hw i j (by omega) (by omega) h1)
  · exact h1
  · exact absurd he.symm (hw j i (by omega) (by omega) h1)

theorem chosen_moved {d f ld : Int} {l o : List Int} (h : o.Perm (upto l.length)) (b c : Nat) (hc : c < l.length) (hb : o.getD c 0 = b) : Chosen d f ld (moved l o) c ↔ Chosen d f ld l b := by
  have hl : o.length = l.length := by rw [h.length_eq, upto_length]
  have hm : ∀ i, i < l.length → ∀ j : Nat, o.getD i 0 = j → (moved l o).getD i 0 = l.getD j 0 := by
    intro i hi j hj
    unfold moved
    rw [getD_map o _ i (by omega), hj, rd_nat]
  have hml : (moved l o).length = l.length := by unfold moved; simp [hl]
  have hbl : b < l.length := by obtain ⟨j, hj, hlt⟩ := order_at h c hc; omega
  have e := hm c hc b hb
  constructor
  · rintro ⟨_, h2, h3⟩
    rw [e] at h2 h3
    have tr : ∀ (P : Int → Prop), (∀ j, j < (moved l o).length → j ≠ c → P ((moved l o).getD j 0)) → ∀ j, j < l.length → j ≠ b → P (l.getD j 0) := by
      intro P hP j hj hne
      obtain ⟨i, hi, hlt⟩ := order_onto h j hj
      have := hP i (by omega) (fun hic => by subst hic; omega)
      rw [hm i hlt j hi] at this
      exact this
    exact ⟨hbl, tr (fun v => v < l.getD b 0) h2, h3.imp (fun h => ⟨h.1, tr (fun v => v < d) h.2⟩) (fun h => ⟨h.1, tr (fun v => v ≤ l.getD b 0 - ld) h.2⟩)⟩
  · rintro ⟨_, h2, h3⟩
    have tr : ∀ (P : Int → Prop), (∀ j, j < l.length → j ≠ b → P (l.getD j 0)) → ∀ j, j < (moved l o).length → j ≠ c → P ((moved l o).getD j 0) := by
      intro P hP j hj hne
      obtain ⟨i, hi, hlt⟩ := order_at h j (by omega)
      rw [hm j (by omega) i hi]
      exact hP i hlt (fun hib => hne (order_inj h j c (by omega) hc (by omega)))
    unfold Chosen
    rw [e]
    exact ⟨by omega, tr (fun v => v < l.getD b 0) h2, h3.imp (fun h => ⟨h.1, tr (fun v => v < d) h.2⟩) (fun h => ⟨h.1, tr (fun v => v ≤ l.getD b 0 - ld) h.2⟩)⟩

theorem moves_end (d f ld : Int) (l o : List Int) (ht : thrB d f ld = true) (h2 : 2 ≤ l.length) (h5 : l.length ≤ 5) (hin : inB l) (ho : o.Perm (upto l.length)) :
    ∃ a b : Int, Ev (fun k => bubble_Judge.f k d f ld l) (a, 0) ∧ Ev (fun k => bubble_Judge.f k d f ld (moved l o)) (b, 0) ∧ a < (l.length : Int) ∧ b < (l.length : Int) ∧ (a < 0 ∨ b < 0 → a = b) ∧ (0 ≤ a → 0 ≤ b → rd o b = a) := by
  have hp := moved_perm ho
  have hl : (moved l o).length = l.length := hp.length_eq
  have hin2 : inB (moved l o) := by
    unfold inB at hin ⊢
    rw [List.any_eq_false] at hin ⊢
    exact fun v hv => hin v (hp.mem_iff.1 hv)
  obtain ⟨a, ha, _, ca⟩ := judge_spec d f ld l ht h2 h5 hin
  obtain ⟨b, hb, _, cb⟩ := judge_spec d f ld (moved l o) ht (by omega) (by omega) hin2
  refine ⟨a, b, ha, hb, ?_⟩
  rcases ca with ⟨x, rfl, hx⟩ | ⟨hno, ea⟩
  · obtain ⟨c, hc, hclt⟩ := order_onto ho x hx.1
    have hch := (chosen_moved (d := d) (f := f) (ld := ld) ho x c hclt hc).2 hx
    rcases cb with ⟨y, rfl, hy⟩ | ⟨hno, _⟩
    · obtain rfl := hy.unique hch
      have := hx.1
      exact ⟨by omega, by omega, by omega, fun _ _ => by rw [rd_nat]; exact hc⟩
    · exact absurd hch (hno c)
  · rcases cb with ⟨y, rfl, hy⟩ | ⟨_, eb⟩
    · have hyl : y < l.length := by have := hy.1; omega
      obtain ⟨x, hx, _⟩ := order_at ho y hyl
      exact absurd ((chosen_moved (d := d) (f := f) (ld := ld) ho x y hyl hx).1 hy) (hno x)
    · rw [dark_perm hp] at eb
      have : a < 0 := by rw [ea]; split <;> omega
      have : b < 0 := by rw [eb]; split <;> omega
      exact ⟨by omega, by omega, fun _ => by rw [ea, eb], by omega⟩

theorem moves_loop (d f ld : Int) (l o : List Int) (ht : thrB d f ld = true) (h2 : 2 ≤ l.length) (h5 : l.length ≤ 5) (hin : inB l) (ho : o.Perm (upto l.length)) (n : Nat) : ∀ i : Nat, i + n = o.length →
    Ev (fun k => awardingbodylaw20_BubbleMoves.l0 k l o ((o.take i).map fun v => rd l v) (i : Int) d f ld) true := by
  have hlo : o.length = l.length := by rw [ho.length_eq, upto_length]
  induction n with
  | zero =>
    intro i hi
    refine ev_step ?_ (fun k => by rw [awardingbodylaw20_BubbleMoves.l0])
    rw [List.take_of_length_le (by omega)]
    obtain ⟨a, b, ha, hb, h3, h4, h6, h7⟩ := moves_end d f ld l o ht h2 h5 hin ho
    refine ev_neg (by omega) (ev_bind ha (ev_bind hb (ev_pos rfl (ev_pos rfl (ev_neg (by show ¬ a ≥ _; omega) ?_)))))
    refine ev_step ?_ (fun k => by rw [awardingbodylaw20_BubbleMoves.j1])
    refine ev_neg (by rw [decide_eq_true_eq]; show ¬ b ≥ _; omega) (ev_ite (fun h => ?_) (fun h => ?_))
    · refine ev_step ?_ (fun k => by rw [awardingbodylaw20_BubbleMoves.j2])
      exact ev_pos rfl (ev_pos (h6 (.inl h)) (ev_bind awake_ev (ev_some rfl)))
    · refine ev_step ?_ (fun k => by rw [awardingbodylaw20_BubbleMoves.j2])
      refine ev_ite (fun h8 => ?_) (fun h8 => ?_)
      · rw [decide_eq_true_eq] at h8
        exact ev_pos (h6 (.inr h8)) (ev_bind awake_ev (ev_some rfl))
      · rw [decide_eq_true_eq] at h8
        have h : ¬ a < 0 := h
        have h8 : ¬ b < 0 := h8
        exact ev_pos (by show 0 ≤ b; omega) (ev_pos (by show b < _; omega) (ev_pos (h7 (by omega) (by omega)) (ev_bind awake_ev (ev_some rfl))))
  | succ n ih =>
    intro i hi
    refine ev_step ?_ (fun k => by rw [awardingbodylaw20_BubbleMoves.l0])
    obtain ⟨j, hj, hlt⟩ := order_at ho i (by omega)
    rw [rd_nat, next_index i o.length (by omega) (by omega)]
    refine ev_pos (by omega) (ev_pos (by omega) (ev_pos (by omega) (ev_pos (by omega) (ev_pos (by simp; omega) ?_))))
    have e : ((o.take i).map fun v => rd l v) ++ [rd l (o.getD i 0)] = (o.take (i + 1)).map fun v => rd l v := by
      rw [List.take_succ_eq_append_getElem (by omega), List.map_append, List.getD_eq_getElem?_getD, List.getElem?_eq_getElem (by omega)]
      rfl
    rw [e]
    exact ih (i + 1) (by omega)

theorem BubbleMoves : awardingbodylaw20_BubbleMoves.Pure := by
  intro l0 _ _ _
  obtain ⟨M, hM, hp⟩ := new_ok l0
  obtain ⟨d, f, ld, q, ht, hq, hth⟩ := threshold_ok hp 0 (by omega)
  obtain ⟨l, q2, hl, hq2, h2, h5, hin⟩ := values_ok hq
  obtain ⟨o, q3, ho, hq3, hperm⟩ := order_ok hq2 l.length (by omega)
  refine Ev.rounds (g := fun k => awardingbodylaw20_BubbleMoves.f k l0) ?_
  unfold awardingbodylaw20_BubbleMoves.f
  refine ev_bind_now hM (ev_bind_now ht (ev_bind hl (ev_bind ho ?_)))
  exact moves_loop d f ld l o (hth (by omega)) h2 h5 hin hperm o.length 0 (by omega)

end Go.Proofs.Ythbmpjglkbhhgaa.Pure
