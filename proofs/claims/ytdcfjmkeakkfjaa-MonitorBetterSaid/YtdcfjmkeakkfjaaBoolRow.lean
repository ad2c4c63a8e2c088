/- A row's slice of bools, opened: its cells, its length, its weight. Conditions: those of a law's row. -/
import Derived.SizedLaws
import Derived.ChangeSlices
import Derived.Test.YtdcfjmkeakkfjaaWWords
namespace Go.Proofs.Ytdcfjmkeakkfjaa.BoolRow
open Go.ChangeShapes Go.WideShapes Go.RowKit Go.Proofs.YtdcfjmkeakkfjaaW.PrintWords

theorem bools {H : Type} {enc : TypeId × Value → H} {P : Program} {W : World} {base : Nat} {spare : Nat → Bool} {held : Bool} {t e : TypeId} {a : Option Addr} {len cap : Nat} {d : DataW H} {ps : List MemPlace}
    (hu : P.underlying t = some (.slice e)) (he : P.underlying e = some .bool) (hc : P.cellsOf e = 1)
    (h : DataW.Trod enc P W base spare held t (.slice a len cap) d ps) :
    (∃ l : List Bool, len = l.length ∧ Kd.C Kd.bool W a l.length l ∧ l.length ≤ maxLen ∧ l.length ≤ cap) ∧ (len = 0 ∨ ∃ es sp : List (DataW H), d = .slice es sp ∧ es.length = len) := by
  obtain ⟨fuel, hf⟩ := h
  rcases DataW.trod_slice hu hf with ⟨hcs, _⟩ | ⟨x, l, c, elems, rest, n, _, hcs, hx, _, hl, hm, hlen, hel, _⟩
  · simp [Value.cells] at hcs
    obtain ⟨rfl, rfl, rfl⟩ := hcs
    exact ⟨⟨[], rfl, Kd.C_of_reads (d := false) (h1 := fun _ => rfl) ⟨rfl, by simp, fun h => absurd h (by simp)⟩, Nat.zero_le _, Nat.zero_le _⟩, .inl rfl⟩
  · simp [Value.cells] at hcs
    obtain ⟨rfl, rfl, rfl⟩ := hcs
    have each : ∀ i y, elems[i]? = some y → ∃ b : Bool, W.cell? (x.add i) = some (.bool b) := by
      intro i y hy
      have hi : i < len := by rw [← hlen]; exact (List.getElem?_eq_some_iff.1 hy).1
      have hb := hel i hi
      rw [hc, Nat.mul_one, hy, Option.bind_eq_some_iff] at hb
      obtain ⟨cs', hcs, hy'⟩ := hb
      obtain ⟨b, rfl, _⟩ := DataW.trod_bool he hy'
      exact ⟨b, cell_of_cells?_one hcs⟩
    have hv : ∀ i, i < len → W.cell? (x.add i) = some (.bool (match W.cell? (x.add i) with | some (.bool b) => b | _ => false)) := by
      intro i hi
      obtain ⟨b, hb⟩ := each i (elems[i]'(by omega)) (List.getElem?_eq_getElem _)
      rw [hb]
    have hmax : maxLen ≤ 9223372036854775807 := Nat.le_of_ble_eq_true rfl
    refine ⟨⟨(List.range len).map fun i => (match W.cell? (x.add i) with | some (.bool b) => b | _ => false), by simp, ?_, by simp only [List.length_map, List.length_range]; omega, by simp only [List.length_map, List.length_range]; omega⟩, .inr ⟨_, _, (Prod.mk.inj hx).1, by simpa using hlen⟩⟩
    refine Kd.C_of_reads (d := false) (h1 := fun _ => rfl) ⟨rfl, by simp only [List.length_map, List.length_range]; omega, fun _ => ⟨x, rfl, fun j hj => ?_⟩⟩
    simp only [List.length_map, List.length_range] at hj
    rw [List.getD_eq_getElem?_getD, List.getElem?_map, List.getElem?_range hj]
    exact hv j hj

theorem sized_bools {H : Type} {enc : TypeId × Value → H} {P : Program} {W : World} {base : Nat} {spare : Nat → Bool} {held : Bool} {t e : TypeId} {a : Option Addr} {len cap : Nat} {d : DataW H} {ps : List MemPlace} {ts : List TypeId} {ds : List (DataW H)} {j : Nat}
    (hsz : (DataW.weightsEach P ts ds).all (· ≤ reachBytes) = true) (ht : ts[j]? = some t) (hd : ds[j]? = some d) (hu : P.underlying t = some (.slice e)) (he : P.underlying e = some .bool) (hc : P.cellsOf e = 1) {B : Nat} (hB : P.bytesOf e = B)
    (h : DataW.Trod enc P W base spare held t (.slice a len cap) d ps) : len * B ≤ 140737488351232 := by
  rcases (bools hu he hc h).2 with h0 | ⟨es, sp, rfl, hl⟩
  · rw [h0]; simp
  · have z := sized_slice hsz ht hd hu
    rw [hB] at z
    exact Nat.le_trans (Nat.mul_le_mul_right _ (by omega)) z

end Go.Proofs.Ytdcfjmkeakkfjaa.BoolRow
