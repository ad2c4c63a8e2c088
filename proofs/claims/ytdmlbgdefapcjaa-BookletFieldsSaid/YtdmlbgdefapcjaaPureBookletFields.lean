/- BookletFields: for every tape and page the law answers true. No further conditions. -/
import Derived.Test.YtdmlbgdefapcjaaPrint28
import Derived.Test.YtdmlbgdefapcjaaFields
import Derived.Test.YtdmlbgdefapcjaaPaperGen
namespace Go.Proofs.Ytdmlbgdefapcjaa.Pure
open Go.RowKit Go.Proofs.Ytdmlbgdefapcjaa.Print Go.Proofs.YtdmlbgdefapcjaaW.PrintWords Go.Proofs.YtdmlbgdefapcjaaW.PrintLast

set_option linter.unusedSectionVars false
section
variable (c v t : Int) (ps : List Part) (B : List (List Int)) (hp : ps.length ≤ 1000) (hB : B.length ≤ 1000000) (hr : ∀ r ∈ B, r.length ≤ 1000000)
include hp hB hr
theorem flaw_l1 (F : List Fld) (hF : F.length ≤ 5000000) (i : Nat) (hi2 : i < 2) (h : Ev (fun k => awardingbodylaw12_BookletFields.l0 k t t ((i + 1 : Nat) : Int) c v ps B) true) (d : Nat) : ∀ j : Nat, j + d = F.length →
    Ev (fun k => awardingbodylaw12_BookletFields.l1 k t (i : Int) F F (j : Int) c v ps B) true := by
  induction d with
  | zero =>
    intro j hj
    refine ev_step ?_ (fun k => by rw [awardingbodylaw12_BookletFields.l1])
    rw [wrap_id (x := (i : Int) + 1) (by omega) (by omega), show (i : Int) + 1 = ((i + 1 : Nat) : Int) by omega]
    exact ev_neg (by omega) h
  | succ d ih =>
    intro j hj
    refine ev_step ?_ (fun k => by rw [awardingbodylaw12_BookletFields.l1])
    rw [next_index j F.length (by omega) (by omega)]
    exact ev_pos (by omega) (ev_pos (by omega) (ev_pos (by omega) (ev_neg (by simp) (ih (j + 1) (by omega)))))
theorem flaw_l0 (d : Nat) : ∀ (i : Nat) (pg : Int), i + d = 2 → Ev (fun k => awardingbodylaw12_BookletFields.l0 k pg t (i : Int) c v ps B) true := by
  induction d with
  | zero =>
    intro i pg hi
    refine ev_step ?_ (fun k => by rw [awardingbodylaw12_BookletFields.l0])
    exact ev_neg (by omega) (ev_bind awake_ev (ev_some rfl))
  | succ d ih =>
    intro i pg hi
    refine ev_step ?_ (fun k => by rw [awardingbodylaw12_BookletFields.l0])
    have hl := fieldsS_len c v ps B pg hr
    exact ev_pos (by omega) (ev_bind (fields_ev c v ps B pg hp hB hr) (ev_bind (rfields_ev c v ps B pg hp hB hr) (ev_pos rfl (flaw_l1 c v t ps B hp hB hr _ hl i (by omega) (ih (i + 1) t (by omega)) (fieldsS c v ps B pg).length 0 (Nat.zero_add _)))))
end

theorem BookletFields : awardingbodylaw12_BookletFields.Pure := by
  intro l0 a1 _ _ _ _
  obtain ⟨M, hM, hp⟩ := new_ok l0
  obtain ⟨c, v, ps, q, h1, hq, hl⟩ := loose_ok hp 10 (by omega)
  obtain ⟨B, q2, hB, hq2, hb, hs⟩ := shaped_ok hq c v ps (by omega)
  have hr : ∀ r ∈ B, r.length ≤ 1000000 := fun r h => by have := hs.2 r h; omega
  obtain ⟨t, ht, _⟩ := cut_ok a1 9 (by omega)
  refine Ev.rounds (g := fun k => awardingbodylaw12_BookletFields.f k l0 a1) ?_
  unfold awardingbodylaw12_BookletFields.f
  exact ev_bind_now hM (ev_bind h1 (ev_bind hB (ev_bind_now ht (flaw_l0 c v t ps B (by omega) hb hr 2 0 a1 (by omega)))))

end Go.Proofs.Ytdmlbgdefapcjaa.Pure
