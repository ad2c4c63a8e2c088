/- A cut with a capacity ('xs[lo:hi:hi]'), and an append to it: what is appended to is full, so what comes of it is read where it lies. Conditions: the cut lies within the length; what grows fits. -/
import Derived.ArgAppend
import Derived.Test.YthbmpjglkbhhgaaWMore
namespace Go.Proofs.YthbmpjglkbhhgaaW.PrintWords
open Go.RowKit Go.Proofs.YthbmpjglkbhhgaaW.PrintMore

section
variable {P : Program}
theorem clip_to (t e : TypeId) (kh km : IntKind) {i : TypeInfo} (ht : P.underlying t = some (.slice e)) (hi : P.info? e = some i) (A : Option Addr) (n c : Nat) (j : Int) (h0 : 0 ≤ j) (hm : j ≤ n) (hc : n ≤ c) :
    ∀ W : World, (Instr.slice t (.slice A n c) none (some (.int kh j)) (some (.int km j))).run P W = .ok (.slice A j.toNat j.toNat) W := by
  intro W
  have hel : P.elem t = e := by simp [Program.elem, ht]
  have hu : P.underlying t = some (.slice (P.elem t)) := by rw [hel]; exact ht
  have ha : (A.map fun x => x.add 0) = A := by cases A <;> simp [Addr.add]
  rw [run_slice_hm W t A n c hu kh km j j h0 (by omega) (by omega), hel]
  simp [sizeOf, typeInfo, hi, sliced, Result.andThen, ha]
theorem clip_mid (t e : TypeId) (kl kh km : IntKind) {i : TypeInfo} (ht : P.underlying t = some (.slice e)) (hi : P.info? e = some i) (size : Nat) (hsz : i.size = size) (A : Option Addr) (n c : Nat) (lo hi' : Int) (h0 : 0 ≤ lo) (h1 : lo ≤ hi') (h2 : hi' ≤ n) (hc : n ≤ c) :
    ∀ W : World, (Instr.slice t (.slice A n c) (some (.int kl lo)) (some (.int kh hi')) (some (.int km hi'))).run P W = .ok (.slice (if hi'.toNat = lo.toNat then A else A.map (·.add (lo.toNat * size))) (hi'.toNat - lo.toNat) (hi'.toNat - lo.toNat)) W := by
  intro W
  have hel : P.elem t = e := by simp [Program.elem, ht]
  have hu : P.underlying t = some (.slice (P.elem t)) := by rw [hel]; exact ht
  rw [run_slice_lhm W t A n c hu kl kh km lo hi' hi' h0 h1 (by omega) (by omega), hel]
  simp [sizeOf, typeInfo, hi, hsz, sliced, Result.andThen]
end
namespace Kd
theorem F_clip {α : Type} {d : Kd α} {W : World} {ok : Nat → Prop} {A : Option Addr} {xs : List α} {lo hi : Nat} (h : F d W ok A xs.length xs) (h1 : lo ≤ hi) (h2 : hi ≤ xs.length) :
    F d W ok (if hi = lo then A else A.map (·.add (lo * d.sz))) ((xs.take hi).drop lo).length ((xs.take hi).drop lo) := by
  by_cases e : hi = lo
  · rw [if_pos e, show (xs.take hi).drop lo = [] from List.drop_of_length_le (by rw [List.length_take]; omega)]
    exact fun W' _ => ⟨rfl, by simp, fun h => absurd h (by simp)⟩
  · have := F_mid (c := xs.length) h h1 h2 (Nat.le_refl _)
    rw [if_neg (by omega)] at this
    rw [if_neg e]
    exact this
end Kd
namespace Kd
section
variable {P : Program} {ops : Array Oper} {rest : List Oper} {o : Oper} {a : Act} {Q : Exit → Act → World → Prop} {Kc : Act → World → Prop} {α : Type}
theorem clip_run (d : Kd α) {Rr : α → List Value → Prop} {W : World} (t ty e : TypeId) (z : Value) (bytes base : Nat)
    (ht : P.underlying t = some (.slice e)) (hinfo : (P.info? e).map (fun i => (i.zero, i.size, i.bytes)) = some (some z, d.sz, bytes)) (hz : z.cells.size = d.sz) (hs0 : 0 < d.sz) (hb0 : 0 < bytes)
    (A0 : Option Addr) (xs ys : List α) (A : Option Addr) (m c : Nat) (ok : Nat → Prop) (H0 : V d e W base ok (.slice A0 xs.length xs.length) xs) (HR : ReadsRow Rr d.sz W A m ys)
    (hK0 : ∀ x cs, d.K W x cs → d.M W W.heap.size (fun _ => False) x cs) (hKM : ∀ x cs, Rr x cs → d.M W W.heap.size (fun _ => False) x cs) (hfresh : ∀ k, W.heap.size ≤ k → ok k) (hl : (xs.length + m) * bytes ≤ 140737488355328) :
    ∃ v1 w1, (Builtin.append_ #[t, t] ty #[.slice A0 xs.length xs.length, .slice A m c]).run P W = .ok v1 w1 ∧ V d e w1 base ok v1 (xs ++ ys) ∧ Below W.heap.size W w1 := by
  obtain ⟨i0, hi, hzz⟩ := Option.map_eq_some_iff.1 hinfo
  simp only [Prod.mk.injEq] at hzz
  obtain ⟨hz0, hz1, hz2⟩ := hzz
  have hm : ys.length = m := HR.1
  have hlen : xs.length + m ≤ 140737488355328 := Nat.le_trans (Nat.le_mul_of_pos_right _ hb0) hl
  have HC0 : d.C W A0 xs.length xs := (V_reads' H0).2.2
  rcases Nat.eq_zero_or_pos m with h0 | hpos
  · subst h0
    obtain rfl : ys = [] := List.eq_nil_of_length_eq_zero hm
    refine ⟨.slice A0 xs.length xs.length, W, ?_, by simpa using H0, Below.refl _ _⟩
    rcases A with _ | ad <;> rcases A0 with _ | ad0 <;>
    simp [Builtin.append_, run_underlying ht, sizeOf, typeInfo, hi, Builtin.lenOf, Builtin.firstCells, storeCells, loadCells, loadCellsFrom]
  · obtain ⟨ad, rfl, _⟩ := HR.2.2 hpos
    obtain ⟨news, hnr0, hnc⟩ := ReadsRow.inner_ HR
    have hnr : Reps (d.M W W.heap.size (fun _ => False)) d.sz ys news := hnr0.imp_ (fun p c hp => hKM p c hp)
    have hone : ∀ u ∈ news, u.oneCell' = true := by
      intro u hu
      obtain ⟨q, hq, rfl⟩ := List.mem_iff_getElem.1 hu
      have hql : q / d.sz < ys.length := by
        rw [Nat.div_lt_iff_lt_mul hs0]
        rw [← hnr.1]
        exact hq
      have hcc := hnr.2 (q / d.sz) _ (List.getElem?_eq_getElem hql)
      refine d.K_one (d.K_of_M hcc) _ ?_
      rw [List.mem_iff_getElem?]
      refine ⟨q % d.sz, ?_⟩
      rw [List.getElem?_take, if_pos (Nat.mod_lt _ hs0), List.getElem?_drop, Nat.mul_comm, Nat.div_add_mod, List.getElem?_eq_getElem hq]
    have fin : ∀ olds v1 w1, Reps (d.M W W.heap.size (fun _ => False)) d.sz xs olds → w1.ownsRow W.heap.size e d.sz v1 (xs.length + m) (olds ++ news) → W.grownBy w1 none →
        V d e w1 base ok v1 (xs ++ ys) ∧ Below W.heap.size W w1 := by
      intro olds v1 w1 ho hown hg
      have hb : Below W.heap.size W w1 := ⟨hg.os, hg.tape, hg.output, hg.size, fun i hi => hg.block i hi (by simp)⟩
      have hr : d.R e w1 W.heap.size ok v1 (xs ++ ys) := ⟨fun k hk => hfresh k (own_base hown k hk), olds ++ news, by rw [List.length_append, hm]; exact hown, (reps_append ho hnr).imp_ (fun _ _ hp => d.M_mono (fun _ h => h.elim) (d.M_move (w1 := w1) (fun _ h => h.elim) hp))⟩
      exact ⟨R_V hr, hb⟩
    rcases A0 with _ | ad0
    · have hx0 : xs = [] := by
        cases xs with
        | nil => rfl
        | cons y l => obtain ⟨_, h_, _⟩ := HC0.2.2 (by simp); cases h_
      subst hx0
      obtain ⟨v1, w1, hrun, h2, hg, _⟩ := run_append_own (P := P) W W.heap.size t ty e i0 z d.sz bytes ht hi hz0 hz1 hz2 hz hs0 (.slice none 0 0) 0 [] (World.ownsRow_nil W _ e d.sz) ad m c news (by rw [hnr.1, hm]) hnc hone (by simp only [maxLen]; simpa using (show m ≤ 9223372036854775807 by simp at hlen; omega)) (by simpa using hl) (Nat.le_refl _)
      obtain ⟨r1, r2⟩ := fin [] v1 w1 (Reps.none _ _) (by simpa using h2) hg
      exact ⟨v1, w1, hrun, r1, r2⟩
    · obtain ⟨olds, hor, hoc⟩ := ReadsRow.inner_ HC0
      obtain ⟨v1, w1, hrun, h2, hg⟩ := run_append_arg_grows (P := P) W t ty e i0 z d.sz bytes ht hi hz0 hz1 hz2 hz hs0 ad0 xs.length xs.length olds hor.1 hoc ad m c news (by rw [hnr.1, hm]) hnc (by omega) (by simp only [maxLen]; omega) hl
      obtain ⟨r1, r2⟩ := fin olds v1 w1 (hor.imp_ (fun p c hp => hK0 p c hp)) h2 hg
      exact ⟨v1, w1, hrun, r1, r2⟩
theorem clip_append (d : Kd α) {Rr : α → List Value → Prop} {W : World} {base : Nat} (hgd : o.guard = none) (s x : Operand) (t e : TypeId) (z : Value) (bytes : Nat)
    (ho : o.op = .call { callee := .builtin .append, args := #[s, x], argTypes := #[t, t] })
    (ht : P.underlying t = some (.slice e)) (hinfo : (P.info? e).map (fun i => (i.zero, i.size, i.bytes)) = some (some z, d.sz, bytes)) (hz : z.cells.size = d.sz) (hs0 : 0 < d.sz) (hb0 : 0 < bytes)
    (A0 : Option Addr) (xs ys : List α) (A : Option Addr) (m c : Nat) (ok : Nat → Prop) (hs : a.eval s = .slice A0 xs.length xs.length) (hx : a.eval x = .slice A m c) (H0 : V d e W base ok (.slice A0 xs.length xs.length) xs) (HR : ReadsRow Rr d.sz W A m ys)
    (hK0 : ∀ x cs, d.K W x cs → d.M W W.heap.size (fun _ => False) x cs) (hKM : ∀ x cs, Rr x cs → d.M W W.heap.size (fun _ => False) x cs) (hfresh : ∀ k, W.heap.size ≤ k → ok k) (hl : (xs.length + m) * bytes ≤ 140737488355328)
    (h : ∀ v1 w1, V d e w1 base ok v1 (xs ++ ys) → Below W.heap.size W w1 → wpList P ops Q rest (a.put o.dst v1) w1) :
    wpList P ops Q (o :: rest) a W := by
  obtain ⟨v1, w1, hrun, h1, h2⟩ := clip_run (P := P) d t o.type e z bytes base ht hinfo hz hs0 hb0 A0 xs ys A m c ok H0 HR hK0 hKM hfresh hl
  refine wpList_plain hgd fun K hK' => ?_
  unfold Oper.wp
  unfold execOp
  simp only [ho, resolve, invoke, builtin, Sem.run_bind, Sem.run_pure, Result.andThen_ok, List.map_toArray, List.map_cons, List.map_nil, hs, hx, hrun]
  exact hK' _ _ (h v1 w1 h1 h2)
theorem clip_append_step (d : Kd α) {Rr : α → List Value → Prop} {W : World} {base : Nat} (hw : Region.wanted o (yielded ops a.tmps) = true) (s x : Operand) (t e : TypeId) (z : Value) (bytes : Nat)
    (ho : o.op = .call { callee := .builtin .append, args := #[s, x], argTypes := #[t, t] })
    (ht : P.underlying t = some (.slice e)) (hinfo : (P.info? e).map (fun i => (i.zero, i.size, i.bytes)) = some (some z, d.sz, bytes)) (hz : z.cells.size = d.sz) (hs0 : 0 < d.sz) (hb0 : 0 < bytes)
    (A0 : Option Addr) (xs ys : List α) (A : Option Addr) (m c : Nat) (ok : Nat → Prop) (hs : a.eval s = .slice A0 xs.length xs.length) (hx : a.eval x = .slice A m c) (H0 : V d e W base ok (.slice A0 xs.length xs.length) xs) (HR : ReadsRow Rr d.sz W A m ys)
    (hK0 : ∀ x cs, d.K W x cs → d.M W W.heap.size (fun _ => False) x cs) (hKM : ∀ x cs, Rr x cs → d.M W W.heap.size (fun _ => False) x cs) (hfresh : ∀ k, W.heap.size ≤ k → ok k) (hl : (xs.length + m) * bytes ≤ 140737488355328)
    (h : ∀ v1 w1, V d e w1 base ok v1 (xs ++ ys) → Below W.heap.size W w1 → Kc (a.put o.dst v1) w1) :
    if Region.wanted o (yielded ops a.tmps) = true then Oper.wp P o a W Kc Q else Kc (a.put o.dst undef) W := by
  obtain ⟨v1, w1, hrun, h1, h2⟩ := clip_run (P := P) d t o.type e z bytes base ht hinfo hz hs0 hb0 A0 xs ys A m c ok H0 HR hK0 hKM hfresh hl
  rw [if_pos hw]
  unfold Oper.wp execOp
  simp only [ho, resolve, invoke, builtin, Sem.run_bind, Sem.run_pure, Result.andThen_ok, List.map_toArray, List.map_cons, List.map_nil, hs, hx, hrun]
  exact h v1 w1 h1 h2
end
end Kd
end Go.Proofs.YthbmpjglkbhhgaaW.PrintWords
