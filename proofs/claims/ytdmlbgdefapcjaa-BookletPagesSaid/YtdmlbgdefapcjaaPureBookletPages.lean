/- BookletPages: for every list of pages and every part the law answers true. No further conditions. -/
import Derived.Test.YtdmlbgdefapcjaaPrint24
import Derived.Test.YtdmlbgdefapcjaaPrint23
import Derived.Test.YtdmlbgdefapcjaaPrint7
import Derived.Test.YtdmlbgdefapcjaaBook
namespace Go.Proofs.Ytdmlbgdefapcjaa.Pure
open Go.RowKit Go.Proofs.Ytdmlbgdefapcjaa.Print Go.Proofs.YtdmlbgdefapcjaaW.PrintWords Go.Proofs.YtdmlbgdefapcjaaW.PrintLast

/-- A list holds a number. -/
def hasB (x : Int) : List Int → Bool
  | [] => false
  | y :: t => if y = x then true else hasB x t
/-- The first page that holds a number, from a page on. -/
def pgS (x : Int) : List (List Int) → Nat → Int
  | [], _ => -1
  | r :: t, i => if hasB x r = true then (i : Int) else pgS x t (i + 1)

theorem next_big (i n : Nat) (h : i < n) (hn : n ≤ maxLen) : wrap64 ((i : Int) + 1) = ((i + 1 : Nat) : Int) := by
  have hmax : maxLen ≤ 9223372036854775807 := Nat.le_of_ble_eq_true rfl
  rw [wrap_id (by omega) (by omega)]; omega
theorem rd_i (l : List Int) (i : Nat) : rd l (i : Int) = l.getD i 0 := by unfold rd; rw [Int.toNat_natCast]

section
variable (x : Int)
theorem index_l0 (l : List Int) (hl : l.length ≤ maxLen) (d : Nat) : ∀ i : Nat, i + d = l.length → ∃ r, Ev (fun k => slices_Index_int_int.l0 k l x (l.length : Int) (i : Int)) r ∧ decide (r ≥ 0) = hasB x (l.drop i) := by
  induction d with
  | zero =>
    intro i hi
    refine ⟨-1, ?_, ?_⟩
    · refine ev_step ?_ (fun k => by rw [slices_Index_int_int.l0])
      exact ev_neg (by omega) (ev_some rfl)
    · rw [List.drop_of_length_le (by omega)]; rfl
  | succ d ih =>
    intro i hi
    rw [drop_cons_at l 0 i (by omega)]
    by_cases hx : x = l.getD i 0
    · refine ⟨(i : Int), ?_, ?_⟩
      · refine ev_step ?_ (fun k => by rw [slices_Index_int_int.l0])
        rw [rd_i]
        exact ev_pos (by omega) (ev_pos (by omega) (ev_pos (by omega) (ev_pos hx (ev_some rfl))))
      · rw [hasB, if_pos hx.symm]
        exact decide_eq_true (by omega)
    · obtain ⟨r, hr, e⟩ := ih (i + 1) (by omega)
      refine ⟨r, ?_, ?_⟩
      · refine ev_step ?_ (fun k => by rw [slices_Index_int_int.l0])
        rw [rd_i, next_big i l.length (by omega) hl]
        exact ev_pos (by omega) (ev_pos (by omega) (ev_pos (by omega) (ev_neg hx hr)))
      · rw [hasB, if_neg (fun h => hx h.symm)]
        exact e
theorem page1_ev (l : List Int) (hl : l.length ≤ maxLen) : Ev (fun k => booklet_PageOf_1.f k l x) (hasB x l) := by
  obtain ⟨r, hr, e⟩ := index_l0 x l hl l.length 0 (Nat.zero_add _)
  unfold booklet_PageOf_1.f slices_Contains_int_int.f slices_Index_int_int.f
  exact ev_bind (ev_bind hr (ev_some e)) (ev_some rfl)
theorem has_l0 (l : List Int) (hl : l.length ≤ maxLen) (d : Nat) : ∀ i : Nat, i + d = l.length → Ev (fun k => awardingbodyref06_Has.l0 k l x (i : Int)) (hasB x (l.drop i)) := by
  induction d with
  | zero =>
    intro i hi
    refine ev_step ?_ (fun k => by rw [awardingbodyref06_Has.l0])
    rw [List.drop_of_length_le (by omega)]
    exact ev_neg (by omega) (ev_some rfl)
  | succ d ih =>
    intro i hi
    refine ev_step ?_ (fun k => by rw [awardingbodyref06_Has.l0])
    rw [drop_cons_at l 0 i (by omega), rd_i, next_big i l.length (by omega) hl]
    refine ev_pos (by omega) (ev_pos (by omega) (ev_ite (fun h => ?_) (fun h => ?_)))
    · rw [hasB, if_pos h]; exact ev_some rfl
    · rw [hasB, if_neg h]; exact ih (i + 1) (by omega)
theorem has_ev (l : List Int) (hl : l.length ≤ maxLen) : Ev (fun k => awardingbodyref06_Has.f k l x) (hasB x l) := has_l0 x l hl l.length 0 (Nat.zero_add _)

variable (B : List (List Int)) (hB : B.length ≤ maxLen) (hr : ∀ r ∈ B, r.length ≤ maxLen)
include hB hr
theorem pageof_l0 (d : Nat) : ∀ i : Nat, i + d = B.length → Ev (fun k => slices_IndexFunc_int_int_PageOf_1_s41.l0 k B x (B.length : Int) (i : Int)) (pgS x (B.drop i) i) := by
  induction d with
  | zero =>
    intro i hi
    refine ev_step ?_ (fun k => by rw [slices_IndexFunc_int_int_PageOf_1_s41.l0])
    rw [List.drop_of_length_le (by omega)]
    exact ev_neg (by omega) (ev_some rfl)
  | succ d ih =>
    intro i hi
    refine ev_step ?_ (fun k => by rw [slices_IndexFunc_int_int_PageOf_1_s41.l0])
    rw [drop_cons_at B [] i (by omega), rdl_nat, next_big i B.length (by omega) hB]
    refine ev_pos (by omega) (ev_pos (by omega) (ev_pos (by omega) (ev_bind (page1_ev x _ (hr _ (getD_in B [] i (by omega)))) (ev_ite (fun h => ?_) (fun h => ?_)))))
    · rw [pgS, if_pos h]; exact ev_some rfl
    · rw [pgS, if_neg h]; exact ih (i + 1) (by omega)
theorem rpageof_l0 (d : Nat) : ∀ i : Nat, i + d = B.length → Ev (fun k => awardingbodyref12_PageOf.l0 k x (i : Int) B) (pgS x (B.drop i) i) := by
  induction d with
  | zero =>
    intro i hi
    refine ev_step ?_ (fun k => by rw [awardingbodyref12_PageOf.l0])
    rw [List.drop_of_length_le (by omega)]
    exact ev_neg (by omega) (ev_some rfl)
  | succ d ih =>
    intro i hi
    refine ev_step ?_ (fun k => by rw [awardingbodyref12_PageOf.l0])
    rw [drop_cons_at B [] i (by omega), rdl_nat, next_big i B.length (by omega) hB]
    refine ev_pos (by omega) (ev_pos (by omega) (ev_bind (has_ev x _ (hr _ (getD_in B [] i (by omega)))) (ev_ite (fun h => ?_) (fun h => ?_))))
    · rw [pgS, if_pos h]; exact ev_some rfl
    · rw [pgS, if_neg h]; exact ih (i + 1) (by omega)
theorem pageof_ev : Ev (fun k => booklet_PageOf.f k B x) (pgS x B 0) := by
  unfold booklet_PageOf.f slices_IndexFunc_int_int_PageOf_1_s41.f
  exact ev_bind (pageof_l0 x B hB hr B.length 0 (Nat.zero_add _)) (ev_some rfl)
theorem rpageof_ev : Ev (fun k => awardingbodyref12_PageOf.f k B x) (pgS x B 0) := rpageof_l0 x B hB hr B.length 0 (Nat.zero_add _)
end

theorem BookletPages : awardingbodylaw12_BookletPages.Pure := by
  intro B x hB _ hr _
  have hr' : ∀ r ∈ B, r.length ≤ maxLen := fun r h => (hr r h).1
  obtain ⟨y, hy, _⟩ := cut_ok x 8 (by omega)
  refine Ev.rounds (g := fun k => awardingbodylaw12_BookletPages.f k B x) ?_
  unfold awardingbodylaw12_BookletPages.f
  refine ev_ite (fun _ => ev_some rfl) (fun _ => ?_)
  exact ev_bind_now hy (ev_bind (pageof_ev x B hB hr') (ev_bind (rpageof_ev x B hB hr') (ev_pos rfl (ev_bind (pageof_ev y B hB hr') (ev_bind (rpageof_ev y B hB hr') (ev_pos rfl (ev_bind awake_ev (ev_some rfl))))))))

end Go.Proofs.Ytdmlbgdefapcjaa.Pure
