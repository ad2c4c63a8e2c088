/- Order returns a permutation of the numbers below n. -/
import Derived.Test.YtbgeoadaeihgkaaPrint12
import Derived.Test.YtbgeoadaeihgkaaTape
namespace Go.Proofs.Ytbgeoadaeihgkaa.Pure
open Go.RowKit Go.Proofs.Ytbgeoadaeihgkaa.Print Go.Proofs.YtbgeoadaeihgkaaW.PrintWords Go.Proofs.YtbgeoadaeihgkaaW.PrintLast

def upto (n : Nat) : List Int := (List.range n).map (fun (j : Nat) => (j : Int))
theorem upto_succ (n : Nat) : upto (n + 1) = upto n ++ [(n : Int)] := by unfold upto; rw [List.range_succ, List.map_append]; rfl
theorem upto_length (n : Nat) : (upto n).length = n := by unfold upto; simp
theorem mem_upto {n : Nat} {x : Int} : x ∈ upto n ↔ 0 ≤ x ∧ x < (n : Int) := by
  unfold upto
  rw [List.mem_map]
  constructor
  · rintro ⟨j, hj, rfl⟩
    have := List.mem_range.1 hj
    omega
  · rintro ⟨h1, h2⟩
    exact ⟨x.toNat, List.mem_range.2 (by omega), by omega⟩

theorem insert_perm (l : List Int) (a : Nat) (x : Int) : List.Perm ((l.take a ++ [x]) ++ l.drop a) (l ++ [x]) := by
  rw [List.append_assoc]
  refine List.Perm.trans (l₂ := l.take a ++ (l.drop a ++ [x])) (List.Perm.append_left _ List.perm_append_comm) ?_
  rw [← List.append_assoc, List.take_append_drop]

theorem order_loop (L : List Int) (n : Nat) (hn : n ≤ 100000) (d : Nat) : ∀ (i : Nat) (acc : List Int) (p : Int), i + d = n → acc.Perm (upto i) → TP L p →
    ∃ out q, Ev (fun k => awardingbodymake_Tape_Order.l0 k (n : Int) acc (i : Int) L p) (out, q) ∧ TP L q ∧ out.Perm (upto n) := by
  induction d with
  | zero =>
    intro i acc p hi ha hp
    obtain rfl : i = n := by omega
    refine ⟨acc, p, ?_, hp, ha⟩
    refine ev_step ?_ (fun k => by rw [awardingbodymake_Tape_Order.l0])
    exact ev_neg (by omega) (ev_some rfl)
  | succ d ih =>
    intro i acc p hi ha hp
    have hlen : acc.length = i := by rw [ha.length_eq, upto_length]
    obtain ⟨v, q, hv, hq, h1, _⟩ := next_ok hp ((i : Int) + 1) (by omega)
    have h1 := h1 (by omega)
    obtain ⟨out, q2, he, hq2, hperm⟩ := ih (i + 1) ((([] ++ acc.take v.toNat) ++ [(i : Int)]) ++ acc.drop v.toNat) q (by omega) (by
      rw [upto_succ, List.nil_append]
      exact (insert_perm acc v.toNat i).trans (ha.append_right _)) hq
    refine ⟨out, q2, ?_, hq2, hperm⟩
    refine ev_step ?_ (fun k => by rw [awardingbodymake_Tape_Order.l0])
    rw [wrap_id (x := (i : Int) + 1) (by omega) (by omega)]
    refine ev_pos (by omega) (ev_bind_now hv (ev_pos h1.1 (ev_pos (by omega) ?_)))
    simp only [Option.bind_some]
    refine ev_pos (by simp; omega) ?_
    refine ev_pos (by simp; omega) ?_
    refine ev_pos (by simp; omega) ?_
    rw [show ((i : Int) + 1) = ((i + 1 : Nat) : Int) by omega]
    exact he

theorem order_ok {L : List Int} {p : Int} (h : TP L p) (n : Nat) (hn : n ≤ 100000) : ∃ out q, Ev (fun k => awardingbodymake_Tape_Order.f k L p (n : Int)) (out, q) ∧ TP L q ∧ out.Perm (upto n) := by
  obtain ⟨out, q, he, hq, hp⟩ := order_loop L n hn n 0 [] p (by omega) (by exact List.Perm.refl _) h
  exact ⟨out, q, he, hq, hp⟩

end Go.Proofs.Ytbgeoadaeihgkaa.Pure
