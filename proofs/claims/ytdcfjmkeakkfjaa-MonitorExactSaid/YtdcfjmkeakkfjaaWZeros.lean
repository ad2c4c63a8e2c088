-- PRINTED BY print.sh 35421559b90ae4d0a3588c463048766b98c2df88dd9212a6774a882060cdf62d: not written by this session
import Derived.Test.YtdcfjmkeakkfjaaWApart
import Derived.Test.YtdcfjmkeakkfjaaWArr
/-! ### 42. append(v, make([]T, n)...): the operation comes as_ append with the number in the second place -/
namespace Go.Proofs.YtdcfjmkeakkfjaaW.PrintWords
open Go.RowKit
section
variable {P : Program}
end
namespace Kd
section
variable {P : Program} {ops : Array Oper} {rest : List Oper} {o : Oper} {a : Act} {Q : Exit → Act → World → Prop} {Kc : Act → World → Prop} {α : Type}
end
/-! #### the same for rows whose elements lie apart -/
/-- As_ tag; an element without index leads to nothing. -/
def tagO {α : Type} (f : Nat → Nat) (d : Kd α) : Kd (α × Option Nat) where
  sz := d.sz
  E := d.E
  K := fun w x cs => d.K w x.1 cs
  M := fun w base ok x cs => d.M w base (fun k => ok k ∧ some (f k) = x.2) x.1 cs
  K_len := fun h => d.K_len h
  K_one := fun h => d.K_one h
  K_below := fun hb h => d.K_below hb h
  K_of_M := fun h => d.K_of_M h
  M_mono := fun hok h => d.M_mono (fun k hk => ⟨hok k hk.1, hk.2⟩) h
  M_bound := fun h => d.M_mono (fun _ hk => ⟨⟨hk.1.1, hk.2⟩, hk.1.2⟩) (d.M_bound h)
  M_move := fun hm h => d.M_move (fun k hk => hm k hk.1) h
  M_lower := fun hb h => d.M_lower hb h
section
variable {α : Type} {d : Kd α} {e : Nat} {w : World} {base : Nat} {ok : Nat → Prop} {v : Value} {xs : List α}
def zipO (xs : List α) (z : α) (m : Nat) : List (α × Option Nat) := xs.zipIdx.map (fun p => (p.1, some p.2)) ++ List.replicate m (z, none)
theorem zipO_length (xs : List α) (z : α) (m : Nat) : (zipO xs z m).length = (xs ++ List.replicate m z).length := by simp [zipO]
theorem S_zipO {f : Nat → Nat} {z : α} {m : Nat} (h : (tagO f d).R e w base ok v (zipO xs z m)) : S d e w base ok v (xs ++ List.replicate m z) := by
  obtain ⟨h0, inner, ho, hr⟩ := h
  have hl := hr.1
  rw [zipO_length] at ho hl
  refine ⟨f, h0, inner, by rw [List.length_zipIdx]; exact ho, by rw [List.length_zipIdx]; exact hl, fun j p hj => ?_⟩
  rw [List.getElem?_zipIdx, Nat.zero_add] at hj
  obtain ⟨x, hx, rfl⟩ := Option.map_eq_some_iff.1 hj
  rcases Nat.lt_or_ge j xs.length with hlt | hge
  · rw [List.getElem?_append_left hlt] at hx
    have h2 := hr.2 j (x, some j) (by
      unfold zipO
      rw [List.getElem?_append_left (by simpa using hlt), List.getElem?_map, zip_at hx]
      rfl)
    exact d.M_mono (fun k hk => ⟨hk.1, by have := hk.2; simpa using this⟩) h2
  · rw [List.getElem?_append_right hge] at hx
    have hxz : z = x := by
      have := (List.getElem?_eq_some_iff.1 hx).2
      simpa using this
    subst hxz
    have hjm := (List.getElem?_eq_some_iff.1 hx).1
    have h2 := hr.2 j (z, none) (by
      unfold zipO
      rw [List.getElem?_append_right (by simpa using hge)]
      rw [List.getElem?_replicate]
      rw [List.length_replicate] at hjm
      rw [if_pos (by simpa using hjm)])
    exact d.M_mono (fun k hk => absurd hk.2 (by simp)) h2
theorem R_zipO (h : S d e w base ok v xs) : ∃ f, (tagO f d).R e w base ok v (xs.zipIdx.map (fun p => (p.1, some p.2))) := by
  obtain ⟨f, h0, inner, ho, hr⟩ := h
  refine ⟨f, h0, inner, by rw [List.length_map]; exact ho, by rw [List.length_map]; exact hr.1, fun j p hj => ?_⟩
  rw [List.getElem?_map] at hj
  obtain ⟨q, hq, rfl⟩ := Option.map_eq_some_iff.1 hj
  exact d.M_mono (fun k hk => ⟨hk.1, by have : f k = q.2 := hk.2; show some (f k) = some q.2; rw [this]⟩) (hr.2 j q hq)
end
section
variable {P : Program} {ops : Array Oper} {rest : List Oper} {o : Oper} {a : Act} {Q : Exit → Act → World → Prop} {Kc : Act → World → Prop} {α : Type}
end
end Kd
end Go.Proofs.YtdcfjmkeakkfjaaW.PrintWords
