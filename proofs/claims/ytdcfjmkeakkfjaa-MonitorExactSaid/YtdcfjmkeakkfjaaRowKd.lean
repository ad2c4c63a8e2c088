/- A row's slice of elements of any kind, opened: its cells, its length, its weight. Conditions: those of a law's row. -/
import Derived.SizedLaws
import Derived.ChangeSlices
import Derived.ChangeSame
import Derived.DataElems
import Derived.Test.YtdcfjmkeakkfjaaWWords
namespace Go.Proofs.Ytdcfjmkeakkfjaa.RowKd
open Go.ChangeShapes Go.WideShapes Go.RowKit Go.Proofs.YtdcfjmkeakkfjaaW.PrintWords

/-- What is read of a type is of a kind. -/
structure Tells (P : Program) (t : TypeId) {α : Type} (d : Kd α) (p : α → Prop) : Prop where
  tells : ∀ {H : Type} {enc : TypeId × Value → H} {W : World} {base : Nat} {spare : Nat → Bool} {held : Bool} {fuel : Nat} {cs : List Value} {y : DataW H × List MemPlace}, DataW.trod enc P W base spare held fuel t cs = some y → ∃ x, d.K W x cs ∧ p x
  size : P.cellsOf t = d.sz

section
variable {P : Program} {t e : TypeId} {α β S : Type} {d : Kd α} {d1 : Kd β} {p : α → Prop} {p1 : β → Prop}

theorem Tells.int {k : IntKind} (hu : P.underlying t = some (.int k)) (hc : P.cellsOf t = 1) : Tells P t (Kd.int k) (fun n => (Lit.int k n).wf = true) :=
  ⟨fun h => by
    obtain ⟨n, rfl, _, hw⟩ := DataW.trod_int hu h
    exact ⟨n, rfl, hw⟩, hc⟩

theorem Tells.bool (hu : P.underlying t = some .bool) (hc : P.cellsOf t = 1) : Tells P t Kd.bool (fun _ => True) :=
  ⟨fun h => by
    obtain ⟨n, rfl, _⟩ := DataW.trod_bool hu h
    exact ⟨n, rfl, trivial⟩, hc⟩

theorem pick {Q : Nat → α → Prop} : ∀ n, (∀ i, i < n → ∃ x, Q i x) → ∃ l : List α, l.length = n ∧ ∀ i x, l[i]? = some x → Q i x
  | 0, _ => ⟨[], rfl, fun i x h => by simp at h⟩
  | n + 1, h => by
    obtain ⟨l, hl, hq⟩ := pick n (fun i hi => h i (by omega))
    obtain ⟨x, hx⟩ := h n (by omega)
    refine ⟨l ++ [x], by simp [hl], fun i y hy => ?_⟩
    rcases Nat.lt_or_ge i l.length with hi | hi
    · rw [List.getElem?_append_left hi] at hy
      exact hq i y hy
    · have hi' : i = n := by
        have := (List.getElem?_eq_some_iff.1 hy).1
        simp at this
        omega
      subst hi'
      rw [← hl] at hy hx ⊢
      simp at hy
      subst hy
      exact hx

theorem row {H : Type} {enc : TypeId × Value → H} {W : World} {base : Nat} {spare : Nat → Bool} {held : Bool} {fuel : Nat} {cs : List Value} {y : DataW H × List MemPlace}
    (hu : P.underlying t = some (.slice e)) (he : Tells P e d p) (h : DataW.trod enc P W base spare held fuel t cs = some y) :
    ∃ (l : List α) (a : Option Addr) (cap : Nat), cs = [.slice a l.length cap] ∧ d.C W a l.length l ∧ l.length ≤ maxLen ∧ l.length ≤ cap ∧ (∀ x ∈ l, p x) ∧ (l.length = 0 ∨ ∃ es sp : List (DataW H), y.1 = .slice es sp ∧ es.length = l.length) := by
  rcases DataW.trod_slice hu h with ⟨rfl, _⟩ | ⟨x, len, cap, elems, rest, n, _, rfl, rfl, _, hl, hm, hlen, hel, _⟩
  · exact ⟨[], none, 0, rfl, ⟨rfl, by simp, fun h => absurd h (by simp)⟩, Nat.zero_le _, Nat.le_refl _, fun x hx => by simp at hx, .inl rfl⟩
  · have each : ∀ i, i < len → ∃ v, p v ∧ ∃ c : List Value, c.length = d.sz ∧ d.K W v c ∧ ∀ j u, c[j]? = some u → W.cell? (x.add (i * d.sz + j)) = some u := by
      intro i hi
      have hb := hel i hi
      rw [List.getElem?_eq_getElem (by omega), Option.bind_eq_some_iff] at hb
      obtain ⟨c, hc, hy⟩ := hb
      obtain ⟨v, hv, hpv⟩ := he.tells hy
      obtain ⟨_, hcl, hcell⟩ := World.cells?_some hc
      refine ⟨v, hpv, c, by rw [hcl, he.size], hv, fun j u hu => ?_⟩
      have hj : j < P.cellsOf e := by rw [← hcl]; exact (List.getElem?_eq_some_iff.1 hu).1
      rw [← he.size, ← Addr.add_add, hcell j hj]
      exact hu
    obtain ⟨l, rfl, hq⟩ := pick (Q := fun i v => p v ∧ ∃ c : List Value, c.length = d.sz ∧ d.K W v c ∧ ∀ j u, c[j]? = some u → W.cell? (x.add (i * d.sz + j)) = some u) len each
    have hmax : maxLen ≤ 9223372036854775807 := Nat.le_of_ble_eq_true rfl
    refine ⟨l, some x, cap, rfl, ⟨rfl, by omega, fun _ => ⟨x, rfl, fun j v hj => (hq j v hj).2⟩⟩, by omega, hl, fun v hv => ?_, .inr ⟨_, _, rfl, by simpa using hlen⟩⟩
    obtain ⟨i, hi⟩ := List.getElem?_of_mem hv
    exact (hq i v hi).1

theorem Tells.slice (hu : P.underlying t = some (.slice e)) (he : Tells P e d p) (hc : P.cellsOf t = 1) : Tells P t (Kd.slice e d) (fun l => l.length ≤ maxLen ∧ ∀ x ∈ l, p x) :=
  ⟨fun h => by
    obtain ⟨l, a, cap, rfl, hr, hm, hcap, hp, _⟩ := row hu he h
    exact ⟨l, ⟨a, cap, rfl, hcap, hr⟩, hm, hp⟩, hc⟩

theorem Tells.struct2 {f0 f1 : Field} (hu : P.underlying t = some (.struct #[f0, f1])) (h0 : Tells P f0.type d p) (h1 : Tells P f1.type d1 p1) (o0 : f0.offset = 0) (o1 : f1.offset = d.sz) (hc : P.cellsOf t = d.sz + d1.sz)
    (proj : S → α × β) (mk : α → β → S) (hp : ∀ a b, proj (mk a b) = (a, b)) : Tells P t (Kd.iso (Kd.pair d d1) proj) (fun x => p (proj x).1 ∧ p1 (proj x).2) :=
  ⟨fun h => by
    obtain ⟨y0, y1, n, _, hl, hy0, hy1⟩ := trod_struct2 hu h
    obtain ⟨a, ha, hpa⟩ := h0.tells hy0
    obtain ⟨b, hb, hpb⟩ := h1.tells hy1
    rw [h0.size, o0, List.drop_zero] at ha
    rw [h1.size, o1, List.take_of_length_le (by rw [List.length_drop]; omega)] at hb
    exact ⟨mk a b, ⟨_, _, (List.take_append_drop d.sz _).symm, by rw [hp]; exact ha, by rw [hp]; exact hb⟩, by rw [hp]; exact hpa, by rw [hp]; exact hpb⟩, hc⟩

theorem opened {H : Type} {enc : TypeId × Value → H} {W : World} {base : Nat} {spare : Nat → Bool} {held : Bool} {a : Option Addr} {len cap : Nat} {dd : DataW H} {ps : List MemPlace}
    (he : Tells P e d p) (hu : P.underlying t = some (.slice e)) (h : DataW.Trod enc P W base spare held t (.slice a len cap) dd ps) :
    (∃ l : List α, len = l.length ∧ d.C W a l.length l ∧ l.length ≤ maxLen ∧ l.length ≤ cap ∧ ∀ x ∈ l, p x) ∧ (len = 0 ∨ ∃ es sp : List (DataW H), dd = .slice es sp ∧ es.length = len) := by
  obtain ⟨fuel, hf⟩ := h
  obtain ⟨l, a', cap', hcs, hr, hm, hcap, hp, hd⟩ := row hu he hf
  simp [Value.cells] at hcs
  obtain ⟨rfl, rfl, rfl⟩ := hcs
  exact ⟨⟨l, rfl, hr, hm, hcap, hp⟩, hd⟩

theorem sized {H : Type} {enc : TypeId × Value → H} {W : World} {base : Nat} {spare : Nat → Bool} {held : Bool} {a : Option Addr} {len cap : Nat} {dd : DataW H} {ps : List MemPlace} {ts : List TypeId} {ds : List (DataW H)} {j : Nat}
    (hsz : (DataW.weightsEach P ts ds).all (· ≤ reachBytes) = true) (ht : ts[j]? = some t) (hd : ds[j]? = some dd) (he : Tells P e d p) (hu : P.underlying t = some (.slice e)) {B : Nat} (hB : P.bytesOf e = B)
    (h : DataW.Trod enc P W base spare held t (.slice a len cap) dd ps) : len * B ≤ 140737488351232 := by
  rcases (opened he hu h).2 with h0 | ⟨es, sp, rfl, hl⟩
  · rw [h0]; simp
  · have z := sized_slice hsz ht hd hu
    rw [hB] at z
    exact Nat.le_trans (Nat.mul_le_mul_right _ (by omega)) z

end
end Go.Proofs.Ytdcfjmkeakkfjaa.RowKd
