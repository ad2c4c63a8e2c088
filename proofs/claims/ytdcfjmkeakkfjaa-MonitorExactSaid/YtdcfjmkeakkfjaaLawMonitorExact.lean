/- MonitorExact's row: whatever the input, the law answers true, and the input reads as it did. No further conditions. -/
import Derived.Test.YtdcfjmkeakkfjaaRowKd
import Derived.Test.YtdcfjmkeakkfjaaRows
import Derived.Test.YtdcfjmkeakkfjaaPrint5
import Derived.Test.YtdcfjmkeakkfjaaPureMonitorExact
import Derived.WalkKit
import Derived.ProofKit
import Derived.OpenShut
import Derived.ShutString
import Derived.ChangeOld
import Derived.Below
import Derived.SizedLaws
import Derived.Lib.SmallJoins
namespace Go.Proofs.Ytdcfjmkeakkfjaa.monitorExact
open Go.ChangeShapes Go.WideShapes Go.ChangeAt Go.RowKit
open Go.Joins
set_option linter.unusedVariables false
theorem own : ownKnob Try.prog.godebug = none := by kernel_rfl
theorem laidOut : laidOutB Try.prog = true := by kernel_rfl
set_option maxRecDepth 100000 in
theorem lifted (os : Os) (started : os.Started) (H : Type) (enc : TypeId × Value → H) :
    ReturnsInHanded {} Try.checked os 3 .any (Rows.monitorExactSpec.pre6 enc Try.prog Try.f3 Rows.monitorExactRow.domain false) (Rows.monitorExactSpec.post enc Try.prog Try.f3 false true false false) := by
  refine returnsInHanded_of_change_sized (C := Try.checked) own started (by kernel_rfl) Try.func3
    (ChangeSpec.witness6 (enc := enc) (C := Try.checked) false ⟨#[], #[.slice none 0 0, .agg #[.int .i64 0, .int .i64 0, .int .i64 0, .int .i64 0], .slice none 0 0, .slice none 0 0, .slice none 0 0, .agg #[.slice none 0 0, .bool false]], []⟩ 8 (by kernel_rfl) (by kernel_rfl) (by kernel_rfl) (by kernel_rfl)) ?_
  intro W base args ds gs before hval0 hW hcnd hsz0 _
  have hval : ∀ (j : Nat) t v, Try.f3.params[j]? = some t → args[j]? = some v → Value.okWide Try.prog W .any base t v := hval0
  have hW' := hW
  obtain ⟨p, q, hA0, hV, rfl, hfz, hnd⟩ := hW
  have hA : DataW.TrodAll enc Try.prog W 0 (fun _ => true) true Try.f3.params.toList args.toList ds p := hA0
  rw [Try.params3] at hA hval
  obtain ⟨v0, vs0, d0, ds0, p0, q0, hargs, rfl, rfl, h0, r0⟩ := trodAll_cons hA
  obtain ⟨v1, vs1, d1, ds1, p1, q1, rfl, rfl, rfl, h1, r1⟩ := trodAll_cons r0
  obtain ⟨v2, vs2, d2, ds2, p2, q2, rfl, rfl, rfl, h2, r2⟩ := trodAll_cons r1
  obtain ⟨v3, vs3, d3, ds3, p3, q3, rfl, rfl, rfl, h3, r3⟩ := trodAll_cons r2
  obtain ⟨v4, vs4, d4, ds4, p4, q4, rfl, rfl, rfl, h4, r4⟩ := trodAll_cons r3
  obtain ⟨v5, vs5, d5, ds5, p5, q5, rfl, rfl, rfl, h5, r5⟩ := trodAll_cons r4
  obtain ⟨rfl, rfl, rfl⟩ := trodAll_nil r5
  obtain rfl : args = #[v0, v1, v2, v3, v4, v5] := by cases args; simp_all
  obtain ⟨rfl, rfl⟩ := trodVars_none hV
  have k0 := h0
  have lt0 : ∀ x ∈ p0, x.block < W.heap.size := by obtain ⟨m, hm⟩ := k0; exact DataW.trod_lt m _ _ _ hm
  have k1 := h1
  have lt1 : ∀ x ∈ p1, x.block < W.heap.size := by obtain ⟨m, hm⟩ := k1; exact DataW.trod_lt m _ _ _ hm
  have k2 := h2
  have lt2 : ∀ x ∈ p2, x.block < W.heap.size := by obtain ⟨m, hm⟩ := k2; exact DataW.trod_lt m _ _ _ hm
  have k3 := h3
  have lt3 : ∀ x ∈ p3, x.block < W.heap.size := by obtain ⟨m, hm⟩ := k3; exact DataW.trod_lt m _ _ _ hm
  have k4 := h4
  have lt4 : ∀ x ∈ p4, x.block < W.heap.size := by obtain ⟨m, hm⟩ := k4; exact DataW.trod_lt m _ _ _ hm
  have k5 := h5
  have lt5 : ∀ x ∈ p5, x.block < W.heap.size := by obtain ⟨m, hm⟩ := k5; exact DataW.trod_lt m _ _ _ hm
  obtain ⟨a0, len0, cap0, rfl⟩ := okWide_slice Try.underlying22 (hval 0 22 v0 rfl rfl)
  obtain ⟨l0, rfl, hr0, _, hc0, _⟩ := (RowKd.opened (RowKd.Tells.int Try.underlying3 (by kernel_rfl)) Try.underlying22 h0).1
  obtain ⟨a2, len2, cap2, rfl⟩ := okWide_slice Try.underlying22 (hval 2 22 v2 rfl rfl)
  obtain ⟨l2, rfl, hr2, _, hc2, _⟩ := (RowKd.opened (RowKd.Tells.int Try.underlying3 (by kernel_rfl)) Try.underlying22 h2).1
  obtain ⟨a3, len3, cap3, rfl⟩ := okWide_slice Try.underlying22 (hval 3 22 v3 rfl rfl)
  obtain ⟨l3, rfl, hr3, _, hc3, _⟩ := (RowKd.opened (RowKd.Tells.int Try.underlying3 (by kernel_rfl)) Try.underlying22 h3).1
  obtain ⟨a4, len4, cap4, rfl⟩ := okWide_slice Try.underlying25 (hval 4 25 v4 rfl rfl)
  obtain ⟨l4, rfl, hr4, _, hc4, _⟩ := (RowKd.opened (RowKd.Tells.bool Try.underlying4 (by kernel_rfl)) Try.underlying25 h4).1
  obtain ⟨u0, u1, u2, u3, y0, y1, y2, y3, n1, rfl, rfl, rfl, e0, e1, e2, e3⟩ := open_agg4 Try.underlying24 (by kernel_rfl) (by kernel_rfl) (hval 1 24 v1 rfl rfl) h1
  obtain ⟨i0, g0, _, _⟩ := DataW.trod_int Try.underlying3 e0
  obtain ⟨i1, g1, _, _⟩ := DataW.trod_int Try.underlying3 e1
  obtain ⟨i2, g2, _, _⟩ := DataW.trod_int Try.underlying3 e2
  obtain ⟨i3, g3, _, _⟩ := DataW.trod_int Try.underlying3 e3
  obtain rfl := (List.cons.inj g0).1
  obtain rfl := (List.cons.inj g1).1
  obtain rfl := (List.cons.inj g2).1
  obtain rfl := (List.cons.inj g3).1
  obtain ⟨x0, x1, z0, z1, n5, rfl, rfl, rfl, f0, f1⟩ := open_agg2 Try.underlying27 (by kernel_rfl) (by kernel_rfl) (hval 5 27 v5 rfl rfl) h5
  obtain ⟨b5, g5, _⟩ := DataW.trod_bool Try.underlying4 f1
  obtain rfl := (List.cons.inj g5).1
  obtain ⟨l5, a5, cap5, g6, hr5, _, hc5, _, _⟩ := RowKd.row Try.underlying25 (RowKd.Tells.bool Try.underlying4 (by kernel_rfl)) f0
  obtain rfl := (List.cons.inj g6).1
  clear hA0 hval0 hsz0
  obtain ⟨k, h⟩ := Pure.MonitorExact l0 i0 i1 i2 i3 l2 l3 l4 l5 b5
  refine (Print.awardingbodylaw27_MonitorExact.calls k a0 cap0 l0 i0 i1 i2 i3 a2 cap2 l2 a3 cap3 l3 a4 cap4 l4 a5 cap5 l5 b5 true W hr0 hc0 hr2 hc2 hr3 hc3 hr4 hc4 hr5 hc5 h).mono fun e W' ⟨he, bel⟩ => ?_
  subst he
  exact ⟨_, rfl, _, _, _, [], _, [], hW', trodAll_mk1 (shut_bool Try.underlying4 _), (trodAll_cons_mk (Below.trod laidOut (by kernel_rfl) (of_decide_eq_true (by kernel_rfl)) k0 bel lt0) (trodAll_cons_mk (Below.trod laidOut (by kernel_rfl) (of_decide_eq_true (by kernel_rfl)) k1 bel lt1) (trodAll_cons_mk (Below.trod laidOut (by kernel_rfl) (of_decide_eq_true (by kernel_rfl)) k2 bel lt2)
    (trodAll_cons_mk (Below.trod laidOut (by kernel_rfl) (of_decide_eq_true (by kernel_rfl)) k3 bel lt3) (trodAll_cons_mk (Below.trod laidOut (by kernel_rfl) (of_decide_eq_true (by kernel_rfl)) k4 bel lt4) (trodAll_cons_mk (Below.trod laidOut (by kernel_rfl) (of_decide_eq_true (by kernel_rfl)) k5 bel lt5) trodAll_mk0)))))), rfl, bel.frame _, fun h => by cases h⟩
theorem over : Rows.monitorExactRow.holds Try.pinned (OpenSpec.ofChange Rows.monitorExactSpec) :=
  OpenClaim.holds_of_wide 3 Try.f3 rfl rfl rfl rfl rfl rfl rfl ⟨rfl, rfl, rfl, rfl, rfl⟩ rfl rfl rfl rfl rfl (by kernel_rfl) Try.func3 (by kernel_rfl)
    (of_decide_eq_true (by kernel_rfl)) (by unfold Func.isWrapper; first | (rw [if_pos (by decide +kernel)]; kernel_rfl) | (rw [if_neg (by decide +kernel)]; exact ⟨rfl, rfl⟩))
    (fun os started H enc _ => lifted os started H enc)
theorem proved : Rows.MonitorExactSaid := over
#print axioms proved
end Go.Proofs.Ytdcfjmkeakkfjaa.monitorExact
namespace Go.Proofs.Ytdcfjmkeakkfjaa
/-- The row, under a short name, for the claim. -/
theorem monitorExact_holds : Rows.MonitorExactSaid := monitorExact.proved
end Go.Proofs.Ytdcfjmkeakkfjaa
