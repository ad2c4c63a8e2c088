/- Several nils appended at once to a row of rows whose elements lie apart. Conditions: what grows fits. -/
import Derived.Test.YtdmlbgdefapcjaaWZeros
namespace Go.Proofs.YtdmlbgdefapcjaaW.PrintWords
open Go.RowKit
namespace Kd
section
variable {P : Program} {ops : Array Oper} {rest : List Oper} {o : Oper} {a : Act} {Q : Exit → Act → World → Prop} {Kc : Act → World → Prop} {α : Type}
theorem nils_reads {Rr : α → List Value → Prop} {W : World} {e : TypeId} (z : Value) (z0 : α) (m : Nat) (cs : List Value) (hcs : cs = List.replicate m z) (hz : Rr z0 [z]) (hm : m ≤ 9223372036854775807) :
    ReadsRow Rr 1 (W.alloc (.cells cs.toArray e)) (some ⟨W.heap.size, 0, none⟩) m (List.replicate m z0) := by
  subst hcs
  refine ⟨List.length_replicate, hm, fun hp => ⟨_, rfl, fun j p hj => ?_⟩⟩
  have hlt : j < m := by
    rcases Nat.lt_or_ge j m with h | h
    · exact h
    · rw [List.getElem?_eq_none (by simpa using h)] at hj; cases hj
  rw [List.getElem?_eq_getElem (by simpa using hlt), List.getElem_replicate] at hj
  injection hj with hj
  subst hj
  refine ⟨[z], rfl, hz, fun q u hu => ?_⟩
  have hq : q = 0 := by
    cases q with
    | zero => rfl
    | succ q => simp at hu
  subst hq
  have hu : z = u := by simpa using hu
  subst hu
  rw [add_at, Nat.zero_add, Nat.mul_one, Nat.add_zero]
  rw [blk_cell (heap_alloc_new W _) j]
  simp [hlt]
theorem S_append_nils (d : Kd α) {w0 W : World} (base : Nat) (hgd : o.guard = none) (s x : Operand) (t e : TypeId) (z : Value) (bytes : Nat)
    (ho : o.op = .call { callee := .builtin .append, args := #[s, x], argTypes := #[t, t] })
    (ht : P.underlying t = some (.slice e)) (hinfo : (P.info? e).map (fun i => (i.zero, i.size, i.bytes)) = some (some z, d.sz, bytes)) (hz : z.cells.size = d.sz) (hs0 : 0 < d.sz) (hb0 : 0 < bytes)
    (v : Value) (xs : List α) (m : Nat) (cs : List Value) (z0 : α) (ok : Nat → Prop) (hcs : cs = List.replicate m z) (hs : a.eval s = v) (hx : a.eval x = .slice (some ⟨W.heap.size, 0, none⟩) m m) (hzero : d.M W base (fun _ => False) z0 [z]) (hfresh : ∀ k, W.heap.size ≤ k → ok k)
    (HO : S d e W base ok v xs) (HB : Below base w0 W) (hbase : base ≤ W.heap.size) (hl : (xs.length + m) * bytes ≤ 140737488355328)
    (h : ∀ v1 w1, S d e w1 base ok v1 (xs ++ List.replicate m z0) → Below base w0 w1 → W.grownBy w1 v.ownBlock → (v1.ownBlock = v.ownBlock ∨ ∃ b, v1.ownBlock = some b ∧ W.heap.size ≤ b) → wpList P ops Q rest (a.put o.dst v1) w1) :
    wpList P ops Q (o :: rest) a (W.alloc (.cells cs.toArray e)) := by
  have hsz : d.sz = 1 := by rw [← d.K_len (d.K_of_M hzero)]; rfl
  obtain ⟨f, HR⟩ := R_zipO HO
  have hm : m ≤ 140737488355328 := Nat.le_trans (by have := Nat.le_mul_of_pos_right (xs.length + m) hb0; omega) hl
  have hrd : ReadsRow (fun (p : α × Option Nat) c => p = (z0, none) ∧ c = [z]) (tagO f d).sz (W.alloc (.cells cs.toArray e)) (some ⟨W.heap.size, 0, none⟩) m (List.replicate m (z0, none)) := by
    show ReadsRow _ d.sz _ _ _ _
    rw [hsz]
    exact nils_reads z (z0, none) m cs hcs ⟨rfl, rfl⟩ (by omega)
  refine R_append_rows (tagO f d) (Rr := fun p c => p = (z0, none) ∧ c = [z]) (w0 := w0) base hgd s x t e z bytes ho ht hinfo hz hs0 hb0 v _ (List.replicate m (z0, none)) (some ⟨W.heap.size, 0, none⟩) m m ok (fun _ => False) hs hx (R_alloc HR _) hrd ?_ (fun _ hk => hk.elim) (fun k hk => hfresh k (Nat.le_trans (by simp) hk)) (HB.alloc hbase _) (Nat.le_trans hbase (by simp)) (by rw [List.length_map, List.length_zipIdx]; exact hl) ?_
  · rintro p c ⟨rfl, rfl⟩
    exact d.M_mono (fun _ hk => hk.elim) (M_below hzero (below_alloc (Below.refl _ _) _))
  · intro v1 w1 hr hb hg hat
    refine h v1 w1 (S_zipO (f := f) hr) hb (World.grownBy.trans (World.grownBy_alloc W _ _) hg) ?_
    rcases hat with hat | ⟨b, h1, h2⟩
    · exact .inl hat
    · exact .inr ⟨b, h1, Nat.le_trans (by simp) h2⟩
theorem S_append_nils_step (d : Kd α) {w0 W : World} (base : Nat) (hw : Region.wanted o (yielded ops a.tmps) = true) (s x : Operand) (t e : TypeId) (z : Value) (bytes : Nat)
    (ho : o.op = .call { callee := .builtin .append, args := #[s, x], argTypes := #[t, t] })
    (ht : P.underlying t = some (.slice e)) (hinfo : (P.info? e).map (fun i => (i.zero, i.size, i.bytes)) = some (some z, d.sz, bytes)) (hz : z.cells.size = d.sz) (hs0 : 0 < d.sz) (hb0 : 0 < bytes)
    (v : Value) (xs : List α) (m : Nat) (cs : List Value) (z0 : α) (ok : Nat → Prop) (hcs : cs = List.replicate m z) (hs : a.eval s = v) (hx : a.eval x = .slice (some ⟨W.heap.size, 0, none⟩) m m) (hzero : d.M W base (fun _ => False) z0 [z]) (hfresh : ∀ k, W.heap.size ≤ k → ok k)
    (HO : S d e W base ok v xs) (HB : Below base w0 W) (hbase : base ≤ W.heap.size) (hl : (xs.length + m) * bytes ≤ 140737488355328)
    (h : ∀ v1 w1, S d e w1 base ok v1 (xs ++ List.replicate m z0) → Below base w0 w1 → W.grownBy w1 v.ownBlock → (v1.ownBlock = v.ownBlock ∨ ∃ b, v1.ownBlock = some b ∧ W.heap.size ≤ b) → Kc (a.put o.dst v1) w1) :
    if Region.wanted o (yielded ops a.tmps) = true then Oper.wp P o a (W.alloc (.cells cs.toArray e)) Kc Q else Kc (a.put o.dst undef) (W.alloc (.cells cs.toArray e)) := by
  have hsz : d.sz = 1 := by rw [← d.K_len (d.K_of_M hzero)]; rfl
  obtain ⟨f, HR⟩ := R_zipO HO
  have hm : m ≤ 140737488355328 := Nat.le_trans (by have := Nat.le_mul_of_pos_right (xs.length + m) hb0; omega) hl
  have hrd : ReadsRow (fun (p : α × Option Nat) c => p = (z0, none) ∧ c = [z]) (tagO f d).sz (W.alloc (.cells cs.toArray e)) (some ⟨W.heap.size, 0, none⟩) m (List.replicate m (z0, none)) := by
    show ReadsRow _ d.sz _ _ _ _
    rw [hsz]
    exact nils_reads z (z0, none) m cs hcs ⟨rfl, rfl⟩ (by omega)
  refine R_append_rows_step (tagO f d) (Rr := fun p c => p = (z0, none) ∧ c = [z]) (w0 := w0) base hw s x t e z bytes ho ht hinfo hz hs0 hb0 v _ (List.replicate m (z0, none)) (some ⟨W.heap.size, 0, none⟩) m m ok (fun _ => False) hs hx (R_alloc HR _) hrd ?_ (fun _ hk => hk.elim) (fun k hk => hfresh k (Nat.le_trans (by simp) hk)) (HB.alloc hbase _) (Nat.le_trans hbase (by simp)) (by rw [List.length_map, List.length_zipIdx]; exact hl) ?_
  · rintro p c ⟨rfl, rfl⟩
    exact d.M_mono (fun _ hk => hk.elim) (M_below hzero (below_alloc (Below.refl _ _) _))
  · intro v1 w1 hr hb hg hat
    refine h v1 w1 (S_zipO (f := f) hr) hb (World.grownBy.trans (World.grownBy_alloc W _ _) hg) ?_
    rcases hat with hat | ⟨b, h1, h2⟩
    · exact .inl hat
    · exact .inr ⟨b, h1, Nat.le_trans (by simp) h2⟩
end
end Kd
end Go.Proofs.YtdmlbgdefapcjaaW.PrintWords
