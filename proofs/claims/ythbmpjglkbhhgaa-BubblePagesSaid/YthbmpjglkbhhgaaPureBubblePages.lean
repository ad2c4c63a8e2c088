/- BubblePages: for every tape, page and list of choices the law answers true. No further conditions. -/
import Derived.Test.YthbmpjglkbhhgaaPrint12
import Derived.Test.YthbmpjglkbhhgaaPageEq
import Derived.Test.YthbmpjglkbhhgaaThr
import Derived.Test.YthbmpjglkbhhgaaPaperGen
namespace Go.Proofs.Ythbmpjglkbhhgaa.Pure
open Go.RowKit Go.Proofs.Ythbmpjglkbhhgaa.Print Go.Proofs.YthbmpjglkbhhgaaW.PrintWords Go.Proofs.YthbmpjglkbhhgaaW.PrintLast Go.Proofs.YthbmpjglkbhhgaaW.PrintMore Go.Proofs.Ythbmpjglkbhhgaa.Bk
set_option linter.unusedVariables false
set_option linter.unusedSectionVars false

theorem fieldsS_few (c v : Int) (ps : List Part) (B : List (List Int)) (pg : Int) : (fieldsS c v ps B pg).length ≤ 120 := by
  by_cases h : bvS c v ps B = true
  · by_cases h2 : 0 ≤ pg ∧ pg < (B.length : Int)
    · exact (fields_ok c v ps B pg h h2.1 h2.2).2.1
    · unfold fieldsS; rw [if_pos h, if_neg h2]; simp
  · unfold fieldsS; rw [if_neg h]; simp
section
variable (a1 : Int) (l2 : List Int) (c v : Int) (ps : List Part) (B : List (List Int)) (hps : ps.length ≤ 1000) (hB : B.length ≤ 1000000) (hr : ∀ r ∈ B, r.length ≤ 1000000)
include hps hB hr
theorem pages_end (d f ld k : Int) (C : List Int) (hC : C.length ≤ 1000) : Ev (fun n => awardingbodylaw20_BubblePages.j3 n a1 l2 k C c v ps B d f ld) true := by
  refine ev_step ?_ (fun k => by rw [awardingbodylaw20_BubblePages.j3])
  refine ev_ite (fun _ => ev_some rfl) (fun h => ?_)
  obtain ⟨J, hJ⟩ := judges d f ld
  have h2 : l2.length ≤ 1000 := by omega
  have z1 := pgR_len J c v ps B d f ld k C hps
  have z2 := pgR_len J c v ps B d f ld a1 l2 hps
  refine ev_bind (page_ev d f ld J hJ c v ps B k C hps hB hr hC) (ev_bind (rpage_ev d f ld J hJ c v ps B k C hps hB hr hC) (ev_bind (ints_self _ (by omega)) (ev_pos rfl (ev_pos rfl ?_))))
  refine ev_bind (page_ev d f ld J hJ c v ps B a1 l2 hps hB hr h2) (ev_bind (rpage_ev d f ld J hJ c v ps B a1 l2 hps hB hr h2) (ev_bind (ints_self _ (by omega)) (ev_pos rfl (ev_pos rfl ?_))))
  exact ev_bind awake_ev (ev_some rfl)
theorem pages_l0 (L : List Int) (d f ld k : Int) (e : Nat) : ∀ (n : Nat) (C : List Int) (p : Int), TP L p → n = e → C.length + n ≤ 200 →
    Ev (fun m => awardingbodylaw20_BubblePages.l0 m a1 l2 k C (n : Int) L p c v ps B d f ld) true := by
  induction e with
  | zero =>
    intro n C p h hn hC
    refine ev_step ?_ (fun k => by rw [awardingbodylaw20_BubblePages.l0])
    obtain ⟨b, q, h1, hq⟩ := one_ok h 10 (by omega)
    refine ev_neg (by omega) (ev_bind_now h1 (ev_ite (fun _ => ?_) (fun _ => pages_end a1 l2 c v ps B hps hB hr d f ld k C (by omega))))
    obtain ⟨x, q2, h2, hq2, _⟩ := range_ok hq 0 10 (by omega) (by omega) (by omega)
    exact ev_bind_now h2 (ev_pos (by omega) (pages_end a1 l2 c v ps B hps hB hr d f ld k _ (by simp; omega)))
  | succ e ih =>
    intro n C p h hn hC
    refine ev_step ?_ (fun k => by rw [awardingbodylaw20_BubblePages.l0])
    obtain ⟨x, q, h1, hq, _⟩ := pick_ok h [0, 0, 9, 8, 4, 1] (by simp) (by simp)
    rw [wrap_id (x := (n : Int) - 1) (by omega) (by omega), show (n : Int) - 1 = ((n - 1 : Nat) : Int) by omega]
    exact ev_pos (by omega) (ev_bind_now h1 (ev_pos (by omega) (ih (n - 1) _ _ hq (by omega) (by simp; omega))))
theorem pages_j1 {L : List Int} {p : Int} (h : TP L p) : Ev (fun m => awardingbodylaw20_BubblePages.j1 m a1 l2 L p c v ps B) true := by
  refine ev_step ?_ (fun k => by rw [awardingbodylaw20_BubblePages.j1])
  obtain ⟨d, f, ld, q1, h1, hq1, _⟩ := threshold_ok h 12 (by omega)
  obtain ⟨k, q2, h2, hq2, _⟩ := range_ok hq1 0 4 (by omega) (by omega) (by omega)
  have hl := fieldsS_few c v ps B k
  exact ev_bind_now h1 (ev_bind_now h2 (ev_bind (rfields_ev c v ps B k hps hB hr) (pages_l0 a1 l2 c v ps B hps hB hr L d f ld k _ _ [] q2 hq2 rfl (by simp; omega))))
end
theorem pages_j0 (a1 : Int) (l2 : List Int) (c v : Int) (ps : List Part) (B : List (List Int)) (hps : ps.length ≤ 1000) (hB : B.length ≤ 1000) (hr : ∀ r ∈ B, r.length ≤ 1000) (x : Bool) (hx : x = true → 0 < B.length) {L : List Int} {p : Int} (h : TP L p) :
    Ev (fun m => awardingbodylaw20_BubblePages.j0 m a1 l2 x L p c v ps B) true := by
  refine ev_step ?_ (fun k => by rw [awardingbodylaw20_BubblePages.j0])
  refine ev_ite (fun e => ev_pos (by have := hx e; omega) ?_) (fun _ => pages_j1 a1 l2 c v ps B hps (by omega) (fun r hm => by have := hr r hm; omega) h)
  exact pages_j1 a1 l2 c v ps _ hps (by rw [List.length_drop]; omega) (fun r hm => by have := hr r (List.mem_of_mem_drop hm); omega) h

theorem BubblePages : awardingbodylaw20_BubblePages.Pure := by
  intro l a1 l2 _ _ _ _ _ _ _
  obtain ⟨M, h0, hp⟩ := new_ok l
  obtain ⟨c, v, ps, q, h1, hq, hl⟩ := loose_ok hp 12 (by omega)
  have hm := makeS_rows c v ps (by omega)
  obtain ⟨b, q2, h2, hq2⟩ := one_ok hq 12 (by omega)
  refine Ev.rounds (g := fun k => awardingbodylaw20_BubblePages.f k l a1 l2) ?_
  unfold awardingbodylaw20_BubblePages.f
  refine ev_bind_now h0 (ev_bind h1 (ev_bind (rmake_ev c v ps (by omega)) (ev_bind_now h2 (ev_ite (fun _ => ?_) (fun _ => ?_)))))
  · exact pages_j0 a1 l2 c v ps _ (by omega) (by omega) hm.2 _ (fun e => by have := of_decide_eq_true e; omega) hq2
  · exact pages_j0 a1 l2 c v ps _ (by omega) (by omega) hm.2 _ (fun e => by cases e) hq2

end Go.Proofs.Ythbmpjglkbhhgaa.Pure
