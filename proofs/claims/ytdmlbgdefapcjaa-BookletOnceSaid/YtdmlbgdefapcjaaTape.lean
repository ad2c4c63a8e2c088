/- The tape of random numbers: each of its readers answers, and what is known of the answer; more rounds, from some number on. Conditions: the tape holds at most 600 numbers and its place lies in it. -/
import Derived.Test.YtdmlbgdefapcjaaPrint3
namespace Go.Proofs.Ytdmlbgdefapcjaa.Pure
open Go.RowKit Go.Proofs.Ytdmlbgdefapcjaa.Print Go.Proofs.YtdmlbgdefapcjaaW.PrintWords Go.Proofs.YtdmlbgdefapcjaaW.PrintLast

theorem wrap_id {x : Int} (h1 : -9223372036854775808 ≤ x) (h2 : x ≤ 9223372036854775807) : wrap64 x = x := by unfold wrap64; omega

/-- The tape's list and place. -/
def TP (L : List Int) (p : Int) : Prop := 0 ≤ p ∧ p ≤ (L.length : Int) ∧ L.length ≤ 600

theorem new_ok (l : List Int) : ∃ M, awardingbodymake_New.f l = some (M, 0) ∧ TP M 0 := by
  unfold awardingbodymake_New.f
  by_cases h : (l.length : Int) > 600
  · rw [if_pos h, if_pos (by omega)]
    exact ⟨_, rfl, by omega, by simp, by rw [List.length_take]; omega⟩
  · rw [if_neg h]
    exact ⟨_, rfl, by omega, by omega, by omega⟩

theorem raw_ok {L : List Int} {p : Int} (h : TP L p) : ∃ v q, awardingbodymake_Tape_Raw.f L p = some (v, q) ∧ TP L q := by
  obtain ⟨h1, h2, h3⟩ := h
  unfold awardingbodymake_Tape_Raw.f
  by_cases hp : p ≥ (L.length : Int)
  · rw [if_pos hp]; exact ⟨_, _, rfl, h1, h2, h3⟩
  · rw [if_neg hp, wrap_id (x := p + 1) (by omega) (by omega), wrap_id (x := p + 1 - 1) (by omega) (by omega), if_pos (by omega), if_pos (by omega)]
    exact ⟨_, _, rfl, by omega, by omega, h3⟩

theorem cut_ok (x n : Int) (h2 : n ≤ 4611686018427387904) : ∃ v, awardingbodymake_Cut.f x n = some v ∧ (1 ≤ n → 0 ≤ v ∧ v < n) ∧ (n < 1 → v = 0) := by
  unfold awardingbodymake_Cut.f
  by_cases h : n < 1
  · rw [if_pos h]; exact ⟨0, rfl, by omega, fun _ => rfl⟩
  · rw [if_neg h, if_neg (by omega)]
    have a := Int.tmod_lt_of_pos x (show 0 < n by omega)
    have b := Int.lt_tmod_of_pos x (show 0 < n by omega)
    by_cases hn : Int.tmod x n < 0
    · rw [if_pos hn, wrap_id (by omega) (by omega)]
      exact ⟨_, rfl, by omega, by omega⟩
    · rw [if_neg hn]
      exact ⟨_, rfl, by omega, by omega⟩

theorem next_ok {L : List Int} {p : Int} (h : TP L p) (n : Int) (hn : n ≤ 4611686018427387904) :
    ∃ v q, awardingbodymake_Tape_Next.f L p n = some (v, q) ∧ TP L q ∧ (1 ≤ n → 0 ≤ v ∧ v < n) ∧ (n < 1 → v = 0) := by
  obtain ⟨v, q, hr, hq⟩ := raw_ok h
  obtain ⟨u, hu, h1, h2⟩ := cut_ok v n hn
  refine ⟨u, q, ?_, hq, h1, h2⟩
  unfold awardingbodymake_Tape_Next.f
  rw [hr]; simp only [Option.bind_some]; rw [hu]; simp only [Option.bind_some]

theorem range_ok {L : List Int} {p : Int} (h : TP L p) (lo hi : Int) (h1 : -1000000 ≤ lo) (h2 : hi ≤ 1000000) (h3 : lo ≤ hi) :
    ∃ v q, awardingbodymake_Tape_Range.f L p lo hi = some (v, q) ∧ TP L q ∧ lo ≤ v ∧ v ≤ hi := by
  obtain ⟨v, q, hr, hq, hv, _⟩ := next_ok h (hi - lo + 1) (by omega)
  refine ⟨lo + v, q, ?_, hq, by omega, by omega⟩
  unfold awardingbodymake_Tape_Range.f
  rw [wrap_id (x := hi - lo) (by omega) (by omega), wrap_id (x := hi - lo + 1) (by omega) (by omega), hr]
  simp only [Option.bind_some]
  rw [wrap_id (by omega) (by omega)]

theorem rd_mem (l : List Int) (i : Int) (h1 : 0 ≤ i) (h2 : i < (l.length : Int)) : rd l i ∈ l := by
  unfold rd
  rw [List.getD_eq_getElem?_getD, List.getElem?_eq_getElem (by omega)]
  exact List.getElem_mem _

theorem pick_ok {L : List Int} {p : Int} (h : TP L p) (l : List Int) (h1 : 0 < l.length) (h2 : l.length ≤ 1000000) :
    ∃ v q, awardingbodymake_Tape_Pick.f L p l = some (v, q) ∧ TP L q ∧ v ∈ l := by
  obtain ⟨v, q, hr, hq, hv, _⟩ := next_ok h (l.length : Int) (by omega)
  refine ⟨rd l v, q, ?_, hq, rd_mem l v (by omega) (by omega)⟩
  unfold awardingbodymake_Tape_Pick.f
  rw [hr]; simp only [Option.bind_some]
  rw [if_pos (by omega), if_pos (by omega)]

theorem one_ok {L : List Int} {p : Int} (h : TP L p) (n : Int) (hn : n ≤ 4611686018427387904) : ∃ b q, awardingbodymake_Tape_One.f L p n = some (b, q) ∧ TP L q := by
  obtain ⟨v, q, hr, hq, _⟩ := next_ok h n hn
  exact ⟨_, q, by unfold awardingbodymake_Tape_One.f; rw [hr]; rfl, hq⟩

/-- What a law owes: its answer at some number of rounds. -/
theorem ev_now {α : Type} {o : Option α} {r : α} (h : o = some r) : Ev (fun _ => o) r := ⟨0, fun _ _ => h⟩
theorem ev_bind_now {α β : Type} {o : Option α} {f : Nat → α → Option β} {a : α} {r : β} (h : o = some a) (k : Ev (fun n => f n a) r) : Ev (fun n => o.bind (f n)) r := by
  subst h
  exact k
theorem ev_bind {α β : Type} {g : Nat → Option α} {f : Nat → α → Option β} {a : α} {r : β} (h : Ev g a) (k : Ev (fun n => f n a) r) : Ev (fun n => (g n).bind (f n)) r := Ev.bind h k
theorem ev_pos {α : Type} {c : Prop} [Decidable c] {f g : Nat → Option α} {r : α} (h : c) (k : Ev f r) : Ev (fun n => if c then f n else g n) r := by
  simp only [if_pos h]; exact k
theorem ev_neg {α : Type} {c : Prop} [Decidable c] {f g : Nat → Option α} {r : α} (h : ¬ c) (k : Ev g r) : Ev (fun n => if c then f n else g n) r := by
  simp only [if_neg h]; exact k
theorem ev_ite {α : Type} {c : Prop} [Decidable c] {f g : Nat → Option α} {r : α} (h1 : c → Ev f r) (h2 : ¬ c → Ev g r) : Ev (fun n => if c then f n else g n) r := by
  by_cases h : c
  · exact ev_pos h (h1 h)
  · exact ev_neg h (h2 h)
theorem ev_some {α : Type} {a r : α} (h : a = r) : Ev (fun _ => some a) r := ⟨0, fun _ _ => by rw [h]⟩
theorem ev_eq {α : Type} {f : Nat → Option α} {a r : α} (k : Ev f a) (h : a = r) : Ev f r := h ▸ k
theorem ev_of_eq {α : Type} {f g : Nat → Option α} {r : α} (k : Ev f r) (h : ∀ n, g n = f n) : Ev g r := Ev.congr h k
theorem drop_cons_at {α : Type} (l : List α) (d : α) (i : Nat) (h : i < l.length) : l.drop i = l.getD i d :: l.drop (i + 1) := by
  rw [List.getD_eq_getElem?_getD, List.getElem?_eq_getElem h]
  exact List.drop_eq_getElem_cons h
theorem next_index (i n : Nat) (h : i < n) (hn : n ≤ 1000000000000) : wrap64 ((i : Int) + 1) = ((i + 1 : Nat) : Int) := by rw [wrap_id (by omega) (by omega)]; omega
theorem ev_step {α : Type} {g f : Nat → Option α} {r : α} (k : Ev f r) (h : ∀ k, g (k + 1) = f k) : Ev g r := Ev.step h k

end Go.Proofs.Ytdmlbgdefapcjaa.Pure
