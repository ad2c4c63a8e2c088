/- ItemSums: for every tape the law answers true. -/
import Derived.Test.YtinmdoemkejanaaPrint30
import Derived.Test.YtinmdoemkejanaaItemGen
import Derived.Test.YtinmdoemkejanaaPaper
namespace Go.Proofs.Ytinmdoemkejanaa.Pure
open Go.RowKit Go.Proofs.Ytinmdoemkejanaa.Print Go.Proofs.YtinmdoemkejanaaW.PrintWords Go.Proofs.YtinmdoemkejanaaW.PrintLast Go.Proofs.YtinmdoemkejanaaW.PrintMore

theorem check_ok {s : ByteArray} {ps : List Part} {en : List Int} (h1 : 1 ≤ s.size) (h2 : s.size ≤ 4) (h3 : stemB s = false) (h4 : 1 ≤ ps.length) (h5 : ps.length ≤ 3) (h6 : ∀ p ∈ ps, pB p = true) (h7 : enB 1 en = false) (h8 : en.length ≤ 6) : checkS 1 1 s ps en = 0 := by
  have hb : ps.any badP = false := by
    rw [List.any_eq_false]
    intro p hp
    unfold badP
    rw [h6 p hp]; decide
  have ht : ¬ s.toList = ([] : List UInt8) := by
    rw [ByteArray.toList_eq]
    intro h
    have : s.size = s.data.toList.length := by rw [Array.length_toList]; rfl
    rw [h] at this
    simp only [List.length_nil] at this
    omega
  unfold checkS chk0
  rw [decide_eq_true (by omega), Bool.not_true, if_neg (by decide)]
  unfold chk1
  rw [decide_eq_false (by omega), if_neg (by decide), if_neg ht, h3]
  unfold chk2
  rw [if_neg (by decide), if_neg (by omega), hb, if_neg (by decide), h7, if_neg (by decide)]

theorem sums_loop (t : List Int) (i v : Int) (s : ByteArray) (ps : List Part) (en : List Int) (hp : ps.length ≤ 100)
    (fin : Ev (fun k => awardingbodylaw06_ItemSums.l0 k t (t.length : Int) (ps.length : Int) i v s ps en 0 0 ps) true) (d : Nat) :
    ∀ (j : Nat) (acc : List Int), j + d = ps.length → t = acc ++ ch (ps.drop j) j → acc.length ≤ j →
    Ev (fun k => awardingbodylaw06_ItemSums.l0 k t (acc.length : Int) (j : Int) i v s ps en 0 0 ps) true := by
  induction d with
  | zero =>
    intro j acc hj ht ha
    rw [List.drop_of_length_le (by omega), ch, List.append_nil] at ht
    rw [ht] at fin
    rw [ht, show j = ps.length by omega]
    exact fin
  | succ d ih =>
    intro j acc hj ht ha
    refine ev_step ?_ (fun k => by rw [awardingbodylaw06_ItemSums.l0])
    rw [rdp_nat]
    rw [drop_cons_at ps z23 j (by omega), ch] at ht
    refine ev_pos (by omega) (ev_pos (by omega) (ev_ite (fun h => ?_) (fun h => ?_)))
    · rw [if_pos h] at ht
      have hl : t.length = acc.length + (ch (ps.drop (j + 1)) (j + 1)).length + 1 := by rw [ht]; simp; omega
      have hr : rd t (acc.length : Int) = (j : Int) := by rw [rd_nat, ht, List.getD_eq_getElem?_getD]; simp
      rw [next_index j ps.length (by omega) (by omega), next_index acc.length t.length (by omega) (by have := ch_length (ps.drop (j + 1)) (j + 1); rw [List.length_drop] at this; omega)]
      have := ih (j + 1) (acc ++ [(j : Int)]) (by omega) (by rw [ht, List.append_assoc]; rfl) (by simp; omega)
      rw [List.length_append] at this
      exact ev_neg (by omega) (ev_pos (by omega) (ev_pos (by omega) (ev_pos hr this)))
    · rw [if_neg h] at ht
      rw [next_index j ps.length (by omega) (by omega)]
      exact ih (j + 1) acc (by omega) ht (by omega)

theorem ItemSums : awardingbodylaw06_ItemSums.Pure := by
  intro l _ _ _
  obtain ⟨M, h0, hp⟩ := new_ok l
  obtain ⟨i, v, s, ps, en, q, h1, hq, hs, hps, hen, hk⟩ := item_gen hp 1 1 0 (by omega)
  obtain ⟨rfl, rfl, a1, a2, a3, a4, a5, a6, a7, a8⟩ := hk (by omega)
  have hc := check_ok a1 a2 a3 a4 a5 a6 a7 a8
  have hsum := sumW_ok ps 0 a6 (by omega) (by omega)
  have hv : vpS 0 0 ps = true := by
    unfold vpS
    rw [if_pos (by omega), if_neg (by
      rw [Bool.not_eq_true, List.any_eq_false]
      intro p hp
      unfold badP
      rw [a6 p hp]; decide), decide_eq_true (by omega)]
  have tot := total_ev 1 1 s ps en (by omega) (by omega) (by omega)
  have ptot := pt_ev 0 0 ps (by omega)
  have cho := ch_ev 0 0 ps (by omega)
  have e1 : totalS 1 1 s ps en = sumW ps 0 := if_pos hc
  have e2 : ptS 0 0 ps = sumW ps 0 := if_pos hv
  have e3 : chS 0 0 ps = ch ps 0 := if_pos hv
  rw [e1] at tot
  rw [e2] at ptot
  rw [e3] at cho
  refine Ev.rounds (g := fun k => awardingbodylaw06_ItemSums.f k l) ?_
  unfold awardingbodylaw06_ItemSums.f
  refine ev_bind_now h0 (ev_bind h1 (ev_bind cho ?_))
  refine sums_loop (ch ps 0) 1 1 s ps en (by omega) ?_ ps.length 0 [] (by omega) (by simp) (by simp)
  refine ev_step ?_ (fun k => by rw [awardingbodylaw06_ItemSums.l0])
  exact ev_neg (by omega) (ev_pos rfl (ev_bind tot (ev_bind ptot (ev_pos rfl (ev_bind tot (ev_pos (by omega) (ev_bind awake_ev (ev_some rfl))))))))

end Go.Proofs.Ytinmdoemkejanaa.Pure
