/- An array of truth values in a variable of the call's own, told as a row: its value as a row's, the variable's pointer made of it. No conditions. -/
import Derived.Test.YtdmlbgdefapcjaaWWords
namespace Go.Proofs.YtdmlbgdefapcjaaW.PrintWords
open Go.RowKit
/-- The pointer to the block of a row. -/
def ptrOf : Value → Value
  | .slice a _ _ => .pointer a
  | v => v
@[simp] theorem ptrOf_row (a : Option Addr) (n c : Nat) : ptrOf (.slice a n c) = .pointer a := rfl
theorem R_arr {w : World} {g base n : Nat} {T : TypeId} {ok : Nat → Prop} (h : w.heap[g]? = some (.cells (Array.replicate n (.bool false)) T (0, 0))) (hb : base ≤ g) (hok : ok g) (hn : n ≤ maxLen) :
    Kd.R Kd.bool T w base ok (.slice (some ⟨g, 0, none⟩) n n) (List.replicate n false) := by
  refine ⟨fun k hk => ?_, List.replicate n (.bool false), ⟨?_, .inr ⟨g, n, Array.replicate n (.bool false), ?_, hb, h, ?_, hn, ?_, ?_⟩⟩, ?_, ?_⟩
  · simp [Value.ownBlock] at hk; subst hk; exact hok
  · simp [Kd.bool, Kd.scalar]
  · simp
  · simp
  · simp [Kd.bool, Kd.scalar]
  · simp [Kd.bool, Kd.scalar]
  · simp [Kd.bool, Kd.scalar]
  · intro j p hj
    rw [List.getElem?_replicate] at hj
    split at hj
    · rename_i hjn
      injection hj with hj
      subst hj
      show (List.drop (j * 1) (List.replicate n (Value.bool false))).take 1 = [Value.bool false]
      rw [Nat.mul_one, List.drop_replicate, List.take_replicate, show min 1 (n - j) = 1 by omega]
      rfl
    · cases hj
section
variable {P : Program} {ops : Array Oper} {rest : List Oper} {o : Oper} {a : Act} {Q : Exit → Act → World → Prop}
/-- The variable's making. -/
theorem arr_event {W : World} (hgd : o.guard = none) {N : Tmp} (hd : o.dst = some N) {n base : Nat} {T : TypeId} {ok : Nat → Prop} (hn : n ≤ maxLen)
    (hrun : (execOp a.eval o).run P W = .ok (.value (.pointer (some ⟨W.heap.size, 0, none⟩))) (W.alloc (.cells (Array.replicate n (.bool false)) T (0, 0))))
    (hok : ok W.heap.size) (hbase : base ≤ W.heap.size)
    (h : ∀ v w1, Kd.R Kd.bool T w1 base ok v (List.replicate n false) → Below W.heap.size W w1 → True → True → wpList P ops Q rest (a.put o.dst (ptrOf v)) w1) : wpList P ops Q (o :: rest) a W := by
  refine box_event hgd hd hrun fun g hg w1 hw hb => ?_
  exact h (.slice (some ⟨g, 0, none⟩) n n) w1 (R_arr hw (by omega) (by rw [hg]; exact hok) hn) hb trivial trivial
end
theorem arr_ix (i j : Int) (m : Nat) (hi : 0 ≤ i) (hj : 0 ≤ j) : i.toNat * m + j.toNat = (i * m + j).toNat := by
  obtain ⟨a, rfl⟩ := Int.eq_ofNat_of_zero_le hi
  obtain ⟨b, rfl⟩ := Int.eq_ofNat_of_zero_le hj
  rw [← Int.natCast_mul, ← Int.natCast_add, Int.toNat_natCast, Int.toNat_natCast, Int.toNat_natCast]
/-- The address of an element: a row of rows of m. -/
theorem arr_add (g m : Nat) (i j : Int) (hi : 0 ≤ i) (hj : 0 ≤ j) : (Addr.add (Addr.add ⟨g, 0, none⟩ (i.toNat * m)) j.toNat) = ⟨g, (i * m + j).toNat, none⟩ := by
  obtain ⟨a, rfl⟩ := Int.eq_ofNat_of_zero_le hi
  obtain ⟨b, rfl⟩ := Int.eq_ofNat_of_zero_le hj
  have e : ((a : Int) * (m : Int) + (b : Int)).toNat = a * m + b := by
    rw [← Int.natCast_mul, ← Int.natCast_add, Int.toNat_natCast]
  rw [e, Int.toNat_natCast, Int.toNat_natCast]
  unfold Addr.add
  by_cases h : a * m = 0
  · rw [if_pos h, h, Nat.zero_add]
    by_cases hb : b = 0
    · rw [if_pos hb, hb]
    · rw [if_neg hb]
  · rw [if_neg h]
    by_cases hb : b = 0
    · rw [if_pos hb, hb]; simp
    · rw [if_neg hb]; simp
/-- The address of an element, whatever the row's head. -/
theorem arr_at (ad : Addr) (m : Nat) (i j : Int) (hi : 0 ≤ i) (hj : 0 ≤ j) : (ad.add (i.toNat * m)).add j.toNat = ad.add (i * m + j).toNat := by
  rw [← arr_ix i j m hi hj]
  unfold Addr.add
  by_cases h : i.toNat * m = 0
  · rw [if_pos h, h, Nat.zero_add]
  · rw [if_neg h]
    by_cases hb : j.toNat = 0
    · rw [if_pos hb, hb, Nat.add_zero, if_neg h]
    · rw [if_neg hb, if_neg (by omega), Nat.add_assoc]
end Go.Proofs.YtdmlbgdefapcjaaW.PrintWords
