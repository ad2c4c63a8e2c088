/- BubbleDarker: for every tape and all three numbers the law answers true. No further conditions. -/
import Derived.Test.YthbmpjglkbhhgaaPrint9
import Derived.Test.YthbmpjglkbhhgaaBubGen
namespace Go.Proofs.Ythbmpjglkbhhgaa.Pure
open Go.RowKit Go.Proofs.Ythbmpjglkbhhgaa.Print Go.Proofs.YthbmpjglkbhhgaaW.PrintWords Go.Proofs.YthbmpjglkbhhgaaW.PrintLast

theorem getD_set (l : List Int) (i j : Nat) (v : Int) (h : i < l.length) : (l.set i v).getD j 0 = if j = i then v else l.getD j 0 := by
  rw [List.getD_eq_getElem?_getD, List.getD_eq_getElem?_getD, List.getElem?_set]
  by_cases hj : i = j
  · rw [if_pos hj, if_pos hj.symm, if_pos h]; rfl
  · rw [if_neg hj, if_neg (fun h => hj h.symm)]

theorem inB_iff {l : List Int} : inB l ↔ ∀ j, j < l.length → 0 ≤ l.getD j 0 ∧ l.getD j 0 ≤ 9 := by
  constructor
  · exact fun h j hj => inB_at h j hj
  · intro h
    refine inB_of (fun v hv => ?_)
    obtain ⟨j, hj, rfl⟩ := List.getElem_of_mem hv
    have := h j hj
    rw [List.getD_eq_getElem?_getD, List.getElem?_eq_getElem hj] at this
    exact this

theorem darker_judge {d f ld : Int} {l : List Int} (ht : thrB d f ld = true) (h2 : 2 ≤ l.length) (h5 : l.length ≤ 5) (hin : inB l) {b : Nat} (hb : Chosen d f ld l b) : Ev (fun k => bubble_Judge.f k d f ld l) ((b : Int), 0) := by
  obtain ⟨a, ha, _, hc⟩ := judge_spec d f ld l ht h2 h5 hin
  rcases hc with ⟨c, rfl, hc⟩ | ⟨hno, _⟩
  · rw [hb.unique hc]; exact ha
  · exact absurd hb (hno b)

theorem chosen_up {d f ld : Int} {l : List Int} {b : Nat} (h : Chosen d f ld l b) (v : Int) (hv : l.getD b 0 ≤ v) : Chosen d f ld (l.set b v) b := by
  have e : ∀ j, j < l.length → j ≠ b → (l.set b v).getD j 0 = l.getD j 0 := fun j hj hne => by rw [getD_set l b j v h.1, if_neg hne]
  have e2 : (l.set b v).getD b 0 = v := by rw [getD_set l b b v h.1, if_pos rfl]
  unfold Chosen
  rw [List.length_set, e2]
  refine ⟨h.1, fun j hj hne => by have := h.2.1 j hj hne; rw [e j hj hne]; omega, ?_⟩
  rcases h.2.2 with ⟨h3, h4⟩ | ⟨h3, h4⟩
  · exact .inl ⟨by omega, fun j hj hne => by rw [e j hj hne]; exact h4 j hj hne⟩
  · exact .inr ⟨by omega, fun j hj hne => by have := h4 j hj hne; rw [e j hj hne]; omega⟩
theorem chosen_down {d f ld : Int} {l : List Int} {b : Nat} (h : Chosen d f ld l b) (c : Nat) (hc : c < l.length) (hne : c ≠ b) (v : Int) (hv : v ≤ l.getD c 0) : Chosen d f ld (l.set c v) b := by
  have e2 : (l.set c v).getD b 0 = l.getD b 0 := by rw [getD_set l c b v hc, if_neg (fun h => hne h.symm)]
  have e : ∀ j, j < l.length → (l.set c v).getD j 0 ≤ l.getD j 0 := fun j hj => by
    rw [getD_set l c j v hc]
    split
    · rename_i h; subst h; exact hv
    · omega
  unfold Chosen
  rw [List.length_set, e2]
  refine ⟨h.1, fun j hj hn => by have := h.2.1 j hj hn; have := e j hj; omega, ?_⟩
  rcases h.2.2 with ⟨h3, h4⟩ | ⟨h3, h4⟩
  · exact .inl ⟨h3, fun j hj hn => by have := h4 j hj hn; have := e j hj; omega⟩
  · exact .inr ⟨h3, fun j hj hn => by have := h4 j hj hn; have := e j hj; omega⟩
theorem inB_set {l : List Int} (h : inB l) (c : Nat) (hc : c < l.length) (v : Int) (hv : 0 ≤ v ∧ v ≤ 9) : inB (l.set c v) := by
  rw [inB_iff] at h ⊢
  intro j hj
  rw [List.length_set] at hj
  rw [getD_set l c j v hc]
  split
  · exact hv
  · exact h j hj

theorem BubbleDarker : awardingbodylaw20_BubbleDarker.Pure := by
  intro l0 a1 a2 a3 _ _ _ _ _ _
  obtain ⟨M, hM, hp⟩ := new_ok l0
  obtain ⟨d, f, ld, q, ht, hq, hth⟩ := threshold_ok hp 0 (by omega)
  obtain ⟨l, q2, hl, hq2, h2, h5, hin⟩ := values_ok hq
  have hth := hth (by omega)
  obtain ⟨a, ha, _, hcase⟩ := judge_spec d f ld l hth h2 h5 hin
  refine Ev.rounds (g := fun k => awardingbodylaw20_BubbleDarker.f k l0 a1 a2 a3) ?_
  unfold awardingbodylaw20_BubbleDarker.f
  refine ev_bind_now hM (ev_bind_now ht (ev_bind hl (ev_bind ha (ev_pos rfl ?_))))
  refine ev_step ?_ (fun k => by rw [awardingbodylaw20_BubbleDarker.j0])
  rcases hcase with ⟨b, rfl, hb⟩ | ⟨_, e⟩
  · have hbl := hb.1
    obtain ⟨v, hv, hv2, _⟩ := cut_ok a1 9 (by omega)
    have hv2 := hv2 (by omega)
    obtain ⟨c, hc, hc2, _⟩ := cut_ok a2 (l.length : Int) (by omega)
    have hc2 := hc2 (by omega)
    obtain ⟨u, hu, hu2, _⟩ := cut_ok a3 9 (by omega)
    have hu2 := hu2 (by omega)
    have hbv := inB_at hin b hbl
    have e1 : mn 9 (wrap64 (rd l (b : Int) + v)) = min 9 (l.getD b 0 + v) := by rw [rd_nat, wrap_id (by omega) (by omega), mn_eq]
    have hb1 := chosen_up hb (min 9 (l.getD b 0 + v)) (by omega)
    have hin1 := inB_set hin b hbl (min 9 (l.getD b 0 + v)) (by omega)
    have hj1 := darker_judge hth (by simp; omega) (by simp; omega) hin1 hb1
    refine ev_neg (by rw [decide_eq_true_eq]; show ¬ ((b : Int) ≥ (l.length : Int)); omega) (ev_neg (by show ¬ (b : Int) < 0; omega) (ev_pos (by show 0 ≤ (b : Int); omega) (ev_pos (by show (b : Int) < (l.length : Int); omega) (ev_bind_now hv ?_))))
    simp only [Option.bind_some, e1, Int.toNat_natCast]
    refine ev_bind hj1 (ev_bind_now hc (ev_ite (fun he => ?_) (fun he => ?_)))
    · exact ev_bind hj1 (ev_pos rfl (ev_pos rfl (ev_pos rfl (ev_pos rfl (ev_bind awake_ev (ev_some rfl))))))
    · obtain ⟨c, rfl⟩ : ∃ n : Nat, c = n := ⟨c.toNat, by omega⟩
      have hcb : c ≠ b := fun h => he (by rw [h])
      have hcl : c < l.length := by omega
      refine ev_pos (by omega) (ev_pos (by omega) (ev_bind_now hu ?_))
      have hcv := inB_at hin1 c (by simp; omega)
      rw [Int.toNat_natCast, rd_nat, wrap_id (x := (l.set b (min 9 (l.getD b 0 + v))).getD c 0 - u) (by omega) (by omega), mx_eq]
      have hb2 := chosen_down hb1 c (by simp; omega) hcb (max 0 ((l.set b (min 9 (l.getD b 0 + v))).getD c 0 - u)) (by omega)
      have hin2 := inB_set hin1 c (by simp; omega) (max 0 ((l.set b (min 9 (l.getD b 0 + v))).getD c 0 - u)) (by omega)
      have hj2 := darker_judge hth (by simp; omega) (by simp; omega) hin2 hb2
      exact ev_bind hj2 (ev_pos rfl (ev_pos rfl (ev_pos rfl (ev_pos rfl (ev_bind awake_ev (ev_some rfl))))))
  · have hneg : a < 0 := by rw [e]; split <;> omega
    exact ev_neg (by rw [decide_eq_true_eq]; show ¬ (a ≥ (l.length : Int)); omega) (ev_pos hneg (ev_bind awake_ev (ev_some rfl)))

end Go.Proofs.Ythbmpjglkbhhgaa.Pure
