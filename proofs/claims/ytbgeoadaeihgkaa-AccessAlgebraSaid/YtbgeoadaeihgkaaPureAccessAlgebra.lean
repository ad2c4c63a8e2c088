/- AccessAlgebra: for every tape the law answers true. No further conditions. -/
import Derived.Test.YtbgeoadaeihgkaaPrint17
import Derived.Test.YtbgeoadaeihgkaaAccGen
namespace Go.Proofs.Ytbgeoadaeihgkaa.Pure
open Go.RowKit Go.Proofs.Ytbgeoadaeihgkaa.Print Go.Proofs.YtbgeoadaeihgkaaW.PrintWords Go.Proofs.YtbgeoadaeihgkaaW.PrintLast Go.Proofs.YtbgeoadaeihgkaaW.PrintMore

theorem or_and : ∀ m n : Fin 64, (Go.bits .and .i64 (Go.bits .or .i64 ((m.val : Nat) : Int) ((n.val : Nat) : Int)) 24 = 0 ↔ Go.bits .and .i64 ((m.val : Nat) : Int) 24 = 0 ∧ Go.bits .and .i64 ((n.val : Nat) : Int) 24 = 0) := by decide +kernel
theorem or_and24 {a b : Int} (ha : Nd a) (hb : Nd b) : Go.bits .and .i64 (orI a b) 24 = 0 ↔ Go.bits .and .i64 a 24 = 0 ∧ Go.bits .and .i64 b 24 = 0 := by
  obtain ⟨m, rfl, hm⟩ := ha.nat
  obtain ⟨n, rfl, hn⟩ := hb.nat
  exact or_and ⟨m, hm⟩ ⟨n, hn⟩
theorem one_and24 : Go.bits .and .i64 1 24 = 0 := by decide +kernel

/-- Does a separate room follow? -/
def sep (e n : Int) : Prop := ¬ (Go.bits .and .i64 n 24 = 0 ∧ e ≤ 25)
theorem imply_no {e n : Int} (h : validB e n = true) (hs : ¬ sep e n) : implyS e n = (e, n) := by
  unfold sep at hs
  have hs := Classical.not_not.1 hs
  unfold implyS
  rw [if_pos h, if_pos hs.1, if_neg (by omega)]
theorem imply_yes {e n : Int} (h : validB e n = true) (hs : sep e n) : implyS e n = (e, orI n 1) := by
  unfold sep at hs
  unfold implyS
  rw [if_pos h]
  by_cases h1 : Go.bits .and .i64 n 24 = 0
  · rw [if_pos h1, if_pos (by have := fun h2 => hs ⟨h1, h2⟩; omega)]
  · rw [if_neg h1]

theorem sep_one {e n : Int} (hn : Nd n) : sep e (orI n 1) ↔ sep e n := by
  unfold sep
  rw [or_and24 hn one_nd]
  have := one_and24
  constructor
  · intro h h2; exact h ⟨⟨h2.1, this⟩, h2.2⟩
  · intro h h2; exact h ⟨h2.1.1, h2.2⟩
theorem sep_join {a b c d : Int} (hb : Nd b) (hd : Nd d) : sep (mx a c) (orI b d) ↔ sep a b ∨ sep c d := by
  unfold sep
  rw [or_and24 hb hd, mx_eq]
  by_cases h1 : Go.bits .and .i64 b 24 = 0 <;> by_cases h2 : Go.bits .and .i64 d 24 = 0 <;> simp [h1, h2] <;> omega

theorem or_one_one {n : Int} (hn : Nd n) : orI (orI n 1) 1 = orI n 1 := by rw [or_assoc hn one_nd one_nd, or_self one_nd]

theorem imply_idem {e n : Int} (h : validB e n = true) : implyS (implyS e n).1 (implyS e n).2 = implyS e n := by
  obtain ⟨h1, h2, hn⟩ := validB_iff.1 h
  by_cases hs : sep e n
  · rw [imply_yes h hs]
    have hv : validB e (orI n 1) = true := validB_iff.2 ⟨h1, h2, or_nd hn one_nd⟩
    show implyS e (orI n 1) = _
    rw [imply_yes hv ((sep_one hn).2 hs), or_one_one hn]
  · rw [imply_no h hs]
    exact imply_no h hs

theorem imply_valid {e n : Int} (h : validB e n = true) : validB (implyS e n).1 (implyS e n).2 = true := by
  obtain ⟨h1, h2, hn⟩ := validB_iff.1 h
  by_cases hs : sep e n
  · rw [imply_yes h hs]
    exact validB_iff.2 ⟨h1, h2, or_nd hn one_nd⟩
  · rw [imply_no h hs]
    exact h

theorem or_swap1 {b d : Int} (hb : Nd b) (hd : Nd d) : orI (orI (orI b 1) d) 1 = orI (orI b d) 1 := by
  rw [or_assoc hb one_nd hd, or_comm one_nd hd, ← or_assoc hb hd one_nd, or_assoc (or_nd hb hd) one_nd one_nd, or_self one_nd]
theorem or_swap2 {b d : Int} (hb : Nd b) (hd : Nd d) : orI (orI b (orI d 1)) 1 = orI (orI b d) 1 := by
  rw [← or_assoc hb hd one_nd, or_assoc (or_nd hb hd) one_nd one_nd, or_self one_nd]

theorem imply_join {a b c d : Int} (h1 : validB a b = true) (h2 : validB c d = true) :
    implyS (joinS (implyS a b).1 (implyS a b).2 (implyS c d).1 (implyS c d).2).1 (joinS (implyS a b).1 (implyS a b).2 (implyS c d).1 (implyS c d).2).2 = implyS (joinS a b c d).1 (joinS a b c d).2 := by
  rw [joinS_valid (imply_valid h1) (imply_valid h2), joinS_valid h1 h2]
  obtain ⟨p1, p2, p3⟩ := validB_iff.1 h1
  obtain ⟨q1, q2, q3⟩ := validB_iff.1 h2
  have hj := join_valid h1 h2
  have o1 := or_nd p3 one_nd
  have o2 := or_nd q3 one_nd
  by_cases s1 : sep a b
  · rw [imply_yes h1 s1]
    have hs : sep (mx a c) (orI b d) := (sep_join p3 q3).2 (.inl s1)
    by_cases s2 : sep c d
    · rw [imply_yes h2 s2]
      have hv : validB (mx a c) (orI (orI b 1) (orI d 1)) = true := join_valid (validB_iff.2 ⟨p1, p2, o1⟩) (validB_iff.2 ⟨q1, q2, o2⟩)
      show implyS (mx a c) (orI (orI b 1) (orI d 1)) = implyS (mx a c) (orI b d)
      rw [imply_yes hv ((sep_join o1 o2).2 (.inl ((sep_one p3).2 s1))), imply_yes hj hs, or_swap2 o1 q3, or_swap1 p3 q3]
    · rw [imply_no h2 s2]
      have hv : validB (mx a c) (orI (orI b 1) d) = true := join_valid (validB_iff.2 ⟨p1, p2, o1⟩) h2
      show implyS (mx a c) (orI (orI b 1) d) = implyS (mx a c) (orI b d)
      rw [imply_yes hv ((sep_join o1 q3).2 (.inl ((sep_one p3).2 s1))), imply_yes hj hs, or_swap1 p3 q3]
  · rw [imply_no h1 s1]
    by_cases s2 : sep c d
    · have hs : sep (mx a c) (orI b d) := (sep_join p3 q3).2 (.inr s2)
      rw [imply_yes h2 s2]
      have hv : validB (mx a c) (orI b (orI d 1)) = true := join_valid h1 (validB_iff.2 ⟨q1, q2, o2⟩)
      show implyS (mx a c) (orI b (orI d 1)) = implyS (mx a c) (orI b d)
      rw [imply_yes hv ((sep_join p3 o2).2 (.inr ((sep_one q3).2 s2))), imply_yes hj hs, or_swap2 p3 q3]
    · rw [imply_no h2 s2]

theorem AccessAlgebra : awardingbodylaw14_AccessAlgebra.Pure := by
  intro l0 _ _ _
  obtain ⟨M, hM, hp⟩ := new_ok l0
  obtain ⟨a, b, q1, h1, hq1, v1⟩ := access_ok hp
  obtain ⟨c, d, q2, h2, hq2, v2⟩ := access_ok hq1
  obtain ⟨e, f, q3, h3, hq3, v3⟩ := access_ok hq2
  obtain ⟨a1, a2, nb⟩ := validB_iff.1 v1
  obtain ⟨c1, c2, nd⟩ := validB_iff.1 v2
  obtain ⟨e1, e2, nf⟩ := validB_iff.1 v3
  refine Ev.rounds (g := fun k => awardingbodylaw14_AccessAlgebra.f k l0) ?_
  unfold awardingbodylaw14_AccessAlgebra.f
  refine ev_bind_now hM (ev_bind_now h1 (ev_bind_now h2 (ev_bind_now h3 (ev_bind (join_ev a b c d) (ev_bind_now (imply_eq _ _) ?_)))))
  refine ev_bind (join_ev a b c d) (ev_bind (join_ev c d a b) (ev_pos ?_ ?_))
  · rw [joinS_valid v1 v2, joinS_valid v2 v1, or_comm nd nb, mx_eq, mx_eq, Int.max_comm]; simp
  refine ev_bind (join_ev a b c d) (ev_bind (join_ev _ _ e f) (ev_bind (join_ev c d e f) (ev_bind (join_ev a b _ _) (ev_pos ?_ ?_))))
  · rw [joinS_valid v1 v2, joinS_valid v2 v3, joinS_valid (join_valid v1 v2) v3, joinS_valid v1 (join_valid v2 v3), or_assoc nb nd nf]
    simp only [mx_eq, Int.max_assoc]; simp
  refine ev_bind (join_ev a b a b) (ev_pos ?_ ?_)
  · rw [joinS_valid v1 v1, or_self nb, mx_eq, Int.max_self]; simp
  refine ev_bind_now (imply_eq _ _) (ev_pos ?_ ?_)
  · rw [joinS_valid v1 v2, imply_idem (join_valid v1 v2)]; simp
  refine ev_bind_now (imply_eq a b) (ev_bind_now (imply_eq c d) (ev_bind (join_ev _ _ _ _) (ev_bind_now (imply_eq _ _) (ev_pos ?_ ?_))))
  · rw [imply_join v1 v2]; simp
  exact ev_bind awake_ev (ev_some rfl)

end Go.Proofs.Ytbgeoadaeihgkaa.Pure
