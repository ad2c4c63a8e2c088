-- Printed by a program of this session (wip/own_print.py) out of the translation; Lean checks it.
import Derived.Test.YtdcfjmkeakkfjaaShort
import Derived.LoopN
import Derived.Test.YtdcfjmkeakkfjaaPrint0
import Derived.Test.YtdcfjmkeakkfjaaPrint1
import Derived.Test.YtdcfjmkeakkfjaaPrint2
import Derived.Test.YtdcfjmkeakkfjaaPrint3
import Derived.Test.YtdcfjmkeakkfjaaPrint4
namespace Go.Proofs.Ytdcfjmkeakkfjaa.Print
open Go.RowKit Go.Proofs.YtdcfjmkeakkfjaaW.PrintWords Go.Proofs.YtdcfjmkeakkfjaaW.PrintLast Go.Proofs.YtdcfjmkeakkfjaaW.PrintMore
attribute [local go_sem] max2_int min2_int max_two min_two max_three min_three max_four min_four   -- for this text's walks alone
set_option linter.unusedVariables false
set_option linter.unusedSimpArgs false

theorem qfa {p : Prop} (h : p := by ((repeat (first | (with_reducible first | exact HI248.out | apply IsS53.alloc | apply IsS53.drewN | apply IsS53.drew | apply IsS53.set_1 | refine IsS53.far ?_ NB248_242.out _ | refine IsS53.far ?_ NB248_243.out _ | refine IsS53.far ?_ NB248_254.out _ | refine IsS53.far ?_ NB248_255.out _ | refine IsS53.far ?_ NB248_294.out _ | refine IsS53.far ?_ NB248_311.out _ | refine IsS53.far ?_ NB248_315.out _ | refine IsS53.far ?_ NB248_321.out _ | refine IsS53.far ?_ NB248_327.out _ | refine IsS53.far ?_ NB248_329.out _ | refine IsS53.far ?_ NB248_335.out _ | refine IsS53.far ?_ NB248_341.out _ | refine IsS53.far ?_ NB248_348.out _) | exact HI248.out)); done)) : p := h
theorem qfb {p : Prop} (h : p := by (((repeat (first | (with_reducible first | refine blk_drewN ?_ _ | refine blk_drew ?_ | refine blk_alloc ?_ _) | refine blk_far ?_ (Aside0.out (by assumption)) _)); first | (with_reducible exact (Aside0.out (by assumption))) | exact (Aside0.out (by assumption))); done)) : p := h
theorem qfc {p : Prop} (h : p := by (((try simp only [List.map_toArray, List.map_cons, List.map_nil]); first | done | (simp only [hji108, hji109, hji110, hji111]; rfl) | rfl | (simp only [List.length_drop, List.length_take]; rfl)); done)) : p := h
theorem qfd {p : Prop} (h : p := by (((with_reducible repeat (first | refine blk_drewN ?_ _ | refine blk_drew ?_ | refine blk_alloc ?_ _)); refine blk_put (cs := #[.int .i64 t249, .int .i64 t250, .int .i64 t251, .int .i64 0]) ?_ 3 _ rfl; (with_reducible repeat (first | refine blk_drewN ?_ _ | refine blk_drew ?_ | refine blk_alloc ?_ _)); refine blk_put (cs := #[.int .i64 t249, .int .i64 t250, .int .i64 0, .int .i64 0]) ?_ 2 _ rfl; (with_reducible repeat (first | refine blk_drewN ?_ _ | refine blk_drew ?_ | refine blk_alloc ?_ _)); refine blk_put (cs := #[.int .i64 t249, .int .i64 0, .int .i64 0, .int .i64 0]) ?_ 1 _ rfl; (with_reducible repeat (first | refine blk_drewN ?_ _ | refine blk_drew ?_ | refine blk_alloc ?_ _)); refine blk_put (cs := #[.int .i64 0, .int .i64 0, .int .i64 0, .int .i64 0]) ?_ 0 _ rfl; (with_reducible repeat (first | refine blk_drewN ?_ _ | refine blk_drew ?_ | refine blk_alloc ?_ _)); exact BK254.out); done)) : p := h
theorem qfe {p : Prop} (h : p := by (((with_reducible repeat (first | apply Kd.Q_alloc | apply Kd.Q_drewN | apply Kd.Q_drew)); exact HO_312000.out); done)) : p := h
theorem qff {p : Prop} (h : p := by (((with_reducible repeat (first | apply Kd.Q_alloc | apply Kd.Q_drewN | apply Kd.Q_drew)); exact HO_316000.out); done)) : p := h
theorem qfg {p : Prop} (h : p := by (((with_reducible repeat (first | apply Kd.Q_alloc | apply Kd.Q_drewN | apply Kd.Q_drew)); exact HO_322000.out); done)) : p := h
theorem qfh {p : Prop} (h : p := by (((with_reducible repeat (first | apply Kd.Q_alloc | apply Kd.Q_drewN | apply Kd.Q_drew)); exact HO_328000.out); done)) : p := h
theorem qfi {p : Prop} (h : p := by (((with_reducible repeat (first | apply Kd.Q_alloc | apply Kd.Q_drewN | apply Kd.Q_drew)); exact (Kd.Q_mono (Kd.Q_far (p := ⟨gb315, 1, none⟩) (Kd.Q_far (p := ⟨gb315, 0, none⟩) (Kd.Q_types HO_312000.out BK315.out (by decide)) (fun _ hk => hk.2) (.slice Ao185 x312000_6.length co185)) (fun _ hk => hk.2) (.bool x312001_6)) (fun _ h_ => h_.1))); done)) : p := h
theorem qfj {p : Prop} (h : p := by (((with_reducible repeat (first | apply Kd.Q_alloc | apply Kd.Q_drewN | apply Kd.Q_drew)); exact (Kd.Q_mono (Kd.Q_far (p := ⟨gb321, 1, none⟩) (Kd.Q_far (p := ⟨gb321, 0, none⟩) (Kd.Q_types HO_312000.out BK321.out (by decide)) (fun _ hk => hk.2) (.slice Ao203 t316.length co203)) (fun _ hk => hk.2) (.bool t319)) (fun _ h_ => h_.1))); done)) : p := h
theorem qfk {p : Prop} (h : p := by ((first | rfl | (simp; done) | (simp [*]; done)); done)) : p := h
theorem qfl {p : Prop} (h : p := by ((rw [hg]; exact Nat.ne_of_lt (IsS53.lt (show IsS53 w _ g248 t246 t313 from qfa))); done)) : p := h
theorem qfm {p : Prop} (h : p := by ((rw [hg]; exact Nat.ne_of_gt (IsS53.lt (show IsS53 w _ g248 t246 t313 from qfa))); done)) : p := h
theorem qfn {p : Prop} (h : p := by (((with_reducible repeat (first | apply Kd.Q_alloc | apply Kd.Q_drewN | apply Kd.Q_drew)); exact HO_336000.out); done)) : p := h
theorem qfo {p : Prop} (h : p := by (((with_reducible repeat (first | apply Kd.Q_alloc | apply Kd.Q_drewN | apply Kd.Q_drew)); exact HO_342000.out); done)) : p := h
theorem qfp {p : Prop} (h : p := by (((with_reducible repeat (first | apply Kd.Q_alloc | apply Kd.Q_drewN | apply Kd.Q_drew)); exact (Kd.Q_mono (Kd.Q_far (p := ⟨gb335, 1, none⟩) (Kd.Q_far (p := ⟨gb335, 0, none⟩) (Kd.Q_types HO_312000.out BK335.out (by decide)) (fun _ hk => hk.2) (.slice Ao279 t330.length co279)) (fun _ hk => hk.2) (.bool t333)) (fun _ h_ => h_.1))); done)) : p := h
theorem qfq {p : Prop} (h : p := by (((with_reducible repeat (first | apply Kd.Q_alloc | apply Kd.Q_drewN | apply Kd.Q_drew)); exact (Kd.Q_mono (Kd.Q_far (p := ⟨gb335, 1, none⟩) (Kd.Q_far (p := ⟨gb335, 0, none⟩) (Kd.Q_types HO_315000.out BK335.out (by decide)) (fun _ hk => hk.2) (.slice Ao279 t330.length co279)) (fun _ hk => hk.2) (.bool t333)) (fun _ h_ => h_.1))); done)) : p := h
theorem qfr {p : Prop} (h : p := by (((with_reducible repeat (first | apply Kd.Q_alloc | apply Kd.Q_drewN | apply Kd.Q_drew)); exact (Kd.Q_mono (Kd.Q_far (p := ⟨gb335, 1, none⟩) (Kd.Q_far (p := ⟨gb335, 0, none⟩) (Kd.Q_types HO_316000.out BK335.out (by decide)) (fun _ hk => hk.2) (.slice Ao279 t330.length co279)) (fun _ hk => hk.2) (.bool t333)) (fun _ h_ => h_.1))); done)) : p := h
theorem qfs {p : Prop} (h : p := by (((with_reducible repeat (first | apply Kd.Q_alloc | apply Kd.Q_drewN | apply Kd.Q_drew)); exact (Kd.Q_mono (Kd.Q_far (p := ⟨gb335, 1, none⟩) (Kd.Q_far (p := ⟨gb335, 0, none⟩) (Kd.Q_types HO_322000.out BK335.out (by decide)) (fun _ hk => hk.2) (.slice Ao279 t330.length co279)) (fun _ hk => hk.2) (.bool t333)) (fun _ h_ => h_.1))); done)) : p := h
theorem qft {p : Prop} (h : p := by (((with_reducible repeat (first | apply Kd.Q_alloc | apply Kd.Q_drewN | apply Kd.Q_drew)); exact (Kd.Q_mono (Kd.Q_far (p := ⟨gb335, 1, none⟩) (Kd.Q_far (p := ⟨gb335, 0, none⟩) (Kd.Q_types HO_328000.out BK335.out (by decide)) (fun _ hk => hk.2) (.slice Ao279 t330.length co279)) (fun _ hk => hk.2) (.bool t333)) (fun _ h_ => h_.1))); done)) : p := h
theorem qfu {p : Prop} (h : p := by (((with_reducible repeat (first | apply Kd.Q_alloc | apply Kd.Q_drewN | apply Kd.Q_drew)); exact (Kd.Q_mono (Kd.Q_far (p := ⟨gb329, 1, none⟩) (Kd.Q_far (p := ⟨gb329, 0, none⟩) (Kd.Q_types HO_312000.out BK329.out (by decide)) (fun _ hk => hk.2) (.slice A5_0 l5_0.length c5_0)) (fun _ hk => hk.2) (.bool a5_1)) (fun _ h_ => h_.1))); done)) : p := h
theorem qfv {p : Prop} (h : p := by (((with_reducible repeat (first | apply Kd.Q_alloc | apply Kd.Q_drewN | apply Kd.Q_drew)); exact (Kd.Q_mono (Kd.Q_far (p := ⟨gb329, 1, none⟩) (Kd.Q_far (p := ⟨gb329, 0, none⟩) (Kd.Q_types HO_315000.out BK329.out (by decide)) (fun _ hk => hk.2) (.slice A5_0 l5_0.length c5_0)) (fun _ hk => hk.2) (.bool a5_1)) (fun _ h_ => h_.1))); done)) : p := h
theorem qfw {p : Prop} (h : p := by (((with_reducible repeat (first | apply Kd.Q_alloc | apply Kd.Q_drewN | apply Kd.Q_drew)); exact (Kd.Q_mono (Kd.Q_far (p := ⟨gb329, 1, none⟩) (Kd.Q_far (p := ⟨gb329, 0, none⟩) (Kd.Q_types HO_316000.out BK329.out (by decide)) (fun _ hk => hk.2) (.slice A5_0 l5_0.length c5_0)) (fun _ hk => hk.2) (.bool a5_1)) (fun _ h_ => h_.1))); done)) : p := h
theorem qfx {p : Prop} (h : p := by (((with_reducible repeat (first | apply Kd.Q_alloc | apply Kd.Q_drewN | apply Kd.Q_drew)); exact (Kd.Q_mono (Kd.Q_far (p := ⟨gb329, 1, none⟩) (Kd.Q_far (p := ⟨gb329, 0, none⟩) (Kd.Q_types HO_322000.out BK329.out (by decide)) (fun _ hk => hk.2) (.slice A5_0 l5_0.length c5_0)) (fun _ hk => hk.2) (.bool a5_1)) (fun _ h_ => h_.1))); done)) : p := h
theorem qfy {p : Prop} (h : p := by (((with_reducible repeat (first | apply Kd.Q_alloc | apply Kd.Q_drewN | apply Kd.Q_drew)); exact (Kd.Q_mono (Kd.Q_far (p := ⟨gb329, 1, none⟩) (Kd.Q_far (p := ⟨gb329, 0, none⟩) (Kd.Q_types HO_328000.out BK329.out (by decide)) (fun _ hk => hk.2) (.slice A5_0 l5_0.length c5_0)) (fun _ hk => hk.2) (.bool a5_1)) (fun _ h_ => h_.1))); done)) : p := h
theorem qfz {p : Prop} (h : p := by (((with_reducible repeat (first | apply Kd.Q_alloc | apply Kd.Q_drewN | apply Kd.Q_drew)); exact (Kd.Q_mono (Kd.Q_far (p := ⟨gb321, 1, none⟩) (Kd.Q_far (p := ⟨gb321, 0, none⟩) (Kd.Q_types HO318.out BK321.out (by decide)) (fun _ hk => hk.2) (.slice Ao203 t316.length co203)) (fun _ hk => hk.2) (.bool t319)) (fun _ h_ => h_.1))); done)) : p := h
theorem qfz26 {p : Prop} (h : p := by (((with_reducible repeat (first | apply Kd.Q_alloc | apply Kd.Q_drewN | apply Kd.Q_drew)); exact (Kd.Q_mono (Kd.Q_far (p := ⟨gb327, 1, none⟩) (Kd.Q_far (p := ⟨gb327, 0, none⟩) (Kd.Q_types HO318.out BK327.out (by decide)) (fun _ hk => hk.2) (.slice Ao217 t322.length co217)) (fun _ hk => hk.2) (.bool t325)) (fun _ h_ => h_.1))); done)) : p := h
theorem qfz27 {p : Prop} (h : p := by (((with_reducible repeat (first | apply Kd.Q_alloc | apply Kd.Q_drewN | apply Kd.Q_drew)); exact (Kd.Q_mono (Kd.Q_far (p := ⟨gb327, 1, none⟩) (Kd.Q_far (p := ⟨gb327, 0, none⟩) (Kd.Q_types HO324.out BK327.out (by decide)) (fun _ hk => hk.2) (.slice Ao217 t322.length co217)) (fun _ hk => hk.2) (.bool t325)) (fun _ h_ => h_.1))); done)) : p := h
theorem qfz28 {p : Prop} (h : p := by (((with_reducible repeat (first | apply Kd.Q_alloc | apply Kd.Q_drewN | apply Kd.Q_drew)); exact (Kd.Q_mono (Kd.Q_far (p := ⟨gb335, 1, none⟩) (Kd.Q_far (p := ⟨gb335, 0, none⟩) (Kd.Q_types HO332.out BK335.out (by decide)) (fun _ hk => hk.2) (.slice Ao279 t330.length co279)) (fun _ hk => hk.2) (.bool t333)) (fun _ h_ => h_.1))); done)) : p := h
theorem qfz29 {p : Prop} (h : p := by (((with_reducible repeat (first | apply Kd.Q_alloc | apply Kd.Q_drewN | apply Kd.Q_drew)); exact (Kd.Q_mono (Kd.Q_far (p := ⟨gb341, 1, none⟩) (Kd.Q_far (p := ⟨gb341, 0, none⟩) (Kd.Q_types HO332.out BK341.out (by decide)) (fun _ hk => hk.2) (.slice Ao296 t336.length co296)) (fun _ hk => hk.2) (.bool t339)) (fun _ h_ => h_.1))); done)) : p := h
theorem qfz30 {p : Prop} (h : p := by (((with_reducible repeat (first | apply Kd.Q_alloc | apply Kd.Q_drewN | apply Kd.Q_drew)); exact (Kd.Q_mono (Kd.Q_far (p := ⟨gb341, 1, none⟩) (Kd.Q_far (p := ⟨gb341, 0, none⟩) (Kd.Q_types HO338.out BK341.out (by decide)) (fun _ hk => hk.2) (.slice Ao296 t336.length co296)) (fun _ hk => hk.2) (.bool t339)) (fun _ h_ => h_.1))); done)) : p := h
theorem qfz31 {p : Prop} (h : p := by (((with_reducible repeat (first | apply Kd.R_alloc | apply Kd.R_drewN | apply Kd.R_drew)); exact HO284.out); done)) : p := h
theorem qfz32 {p : Prop} (h : p := by (((with_reducible repeat (first | apply Kd.Q_alloc | apply Kd.Q_drewN | apply Kd.Q_drew)); exact HO_315000.out); done)) : p := h
theorem qfz33 {p : Prop} (h : p := by ((first | (rw [hy_]; with_reducible exact H) | (have H2_ := (Option.bind_some _ _).symm.trans H; rw [hy_]; with_reducible exact H2_) | (have H2_ := (Option.bind_some _ _).symm.trans H; with_reducible exact H2_) | with_reducible exact H | (rw [hy_]; exact H) | exact H); done)) : p := h
set_option maxHeartbeats 100000000 in
set_option maxRecDepth 100000 in
theorem awardingbodylaw27_MonitorExact.calls (k : Nat) (A0 : Option Addr) (c0 : Nat) (l0 : List Int) (a1_0 : Int) (a1_1 : Int) (a1_2 : Int) (a1_3 : Int) (A2 : Option Addr) (c2 : Nat) (l2 : List Int) (A3 : Option Addr) (c3 : Nat) (l3 : List Int) (A4 : Option Addr) (c4 : Nat) (l4 : List Bool) (A5_0 : Option Addr) (c5_0 : Nat) (l5_0 : List Bool) (a5_1 : Bool) (r : Bool) (w : World) (hr0 : Kd.C (Kd.int .i64) w A0 l0.length l0) (hc0 : l0.length ≤ c0) (hr2 : Kd.C (Kd.int .i64) w A2 l2.length l2) (hc2 : l2.length ≤ c2) (hr3 : Kd.C (Kd.int .i64) w A3 l3.length l3) (hc3 : l3.length ≤ c3) (hr4 : Kd.C Kd.bool w A4 l4.length l4) (hc4 : l4.length ≤ c4) (hr5_0 : Kd.C Kd.bool w A5_0 l5_0.length l5_0) (hc5_0 : l5_0.length ≤ c5_0) (h : awardingbodylaw27_MonitorExact.f k l0 a1_0 a1_1 a1_2 a1_3 l2 l3 l4 l5_0 a5_1 = some r) :
    Calls Try.prog 3 #[.slice A0 l0.length c0, .agg #[.int .i64 a1_0, .int .i64 a1_1, .int .i64 a1_2, .int .i64 a1_3], .slice A2 l2.length c2, .slice A3 l3.length c3, .slice A4 l4.length c4, .agg #[.slice A5_0 l5_0.length c5_0, .bool a5_1]] w fun e w' => e = .returned (.bool r) ∧ Below w.heap.size w w' := by
 have hu24 := Try.underlying24
 have hu27 := Try.underlying27
 have hu35 := Try.underlying35
 have hu43 := Try.underlying43
 have HR0 := za hr0; have HC0 := za hc0; clear hr0 hc0; have HR2 := za hr2; have HC2 := za hc2; clear hr2 hc2; have HR3 := za hr3; have HC3 := za hc3; clear hr3 hc3; have HR4 := za hr4; have HC4 := za hc4; clear hr4 hc4; have HR5_0 := za hr5_0; have HC5_0 := za hc5_0; clear hr5_0 hc5_0
 have HB := za (Below.refl w.heap.size w)
 have H : ((awardingbodymark_Light.f l0).bind fun t244 => (if t244 = true then (if (l2.length : Int) > 40 then (awardingbodylaw27_MonitorExact.j0 k l0 l2 l3 l4 true a1_0 a1_1 a1_2 a1_3 l5_0 a5_1) else (if (l3.length : Int) > 40 then (awardingbodylaw27_MonitorExact.j0 k l0 l2 l3 l4 true a1_0 a1_1 a1_2 a1_3 l5_0 a5_1) else (if (l4.length : Int) > 100 then (awardingbodylaw27_MonitorExact.j0 k l0 l2 l3 l4 true a1_0 a1_1 a1_2 a1_3 l5_0 a5_1) else (awardingbodylaw27_MonitorExact.j0 k l0 l2 l3 l4 (decide ((l5_0.length : Int) > 40)) a1_0 a1_1 a1_2 a1_3 l5_0 a5_1)))) else (awardingbodylaw27_MonitorExact.j0 k l0 l2 l3 l4 true a1_0 a1_1 a1_2 a1_3 l5_0 a5_1))) = some r := h
 clear h; have HC7 := za H; clear H
 go_enter Try.func3, Try.ntmps3
 go_upto_region 1 with (first | ((with_reducible refine gate_dst (N := 7) rfl ?_); (try (refine gate_guard (by rfl) ?_; dsimp only)); refine zE 7 #[.int .i64 a1_0, .int .i64 a1_1, .int .i64 a1_2, .int .i64 a1_3] 24 ?_; intro gb242 hg w8 hbox hb; have BK242 := za (hbox); have GW242 := zg HB hg; have GE242 := zg HB hg; replace HB := zs HB hb; clear hb hbox hg) | ((with_reducible refine gate_dst (N := 11) rfl ?_); (try (refine gate_guard (by rfl) ?_; dsimp only)); refine zE 11 #[.slice A5_0 l5_0.length c5_0, .bool a5_1] 27 ?_; intro gb243 hg w9 hbox hb; have BK243 := za (hbox); have GW243 := zg HB hg; have GE243 := zg HB hg; have NB242_243 := zl BK242 hg; have NB243_242 := zr BK242 hg; replace BK242 := zb BK242 hb; replace HB := zs HB hb; clear hb hbox hg))
 (try simp only [Act.put, List.setIfInBounds_toArray, List.set_cons_zero, List.set_cons_succ])
 go_cut [60] (fun v60 wc => ∃ (kq : Nat) (x60_6 : Bool), v60 = .bool x60_6 ∧ Aside0 (awardingbodylaw27_MonitorExact.j0 kq l0 l2 l3 l4 x60_6 a1_0 a1_1 a1_2 a1_3 l5_0 a5_1 = some r) ∧ Aside0 (kq ≤ k) ∧ Aside0 (wc.heap[gb242]? = some (.cells #[.int .i64 a1_0, .int .i64 a1_1, .int .i64 a1_2, .int .i64 a1_3] 24 (0, 0))) ∧ Aside0 (wc.heap[gb243]? = some (.cells #[(.slice A5_0 l5_0.length c5_0), .bool a5_1] 27 (0, 0))) ∧ Aside0 (Below w.heap.size w wc))
 case first =>
  as_aux_lemma =>
  have H := HC7.out
  clear HC7
  replace H := Option.bind_eq_some_iff.mp H
  obtain ⟨t244, A100, H⟩ := H
  replace H : (if t244 = true then (if (l2.length : Int) > 40 then (awardingbodylaw27_MonitorExact.j0 k l0 l2 l3 l4 true a1_0 a1_1 a1_2 a1_3 l5_0 a5_1) else (if (l3.length : Int) > 40 then (awardingbodylaw27_MonitorExact.j0 k l0 l2 l3 l4 true a1_0 a1_1 a1_2 a1_3 l5_0 a5_1) else (if (l4.length : Int) > 100 then (awardingbodylaw27_MonitorExact.j0 k l0 l2 l3 l4 true a1_0 a1_1 a1_2 a1_3 l5_0 a5_1) else (awardingbodylaw27_MonitorExact.j0 k l0 l2 l3 l4 (decide ((l5_0.length : Int) > 40)) a1_0 a1_1 a1_2 a1_3 l5_0 a5_1)))) else (awardingbodylaw27_MonitorExact.j0 k l0 l2 l3 l4 true a1_0 a1_1 a1_2 a1_3 l5_0 a5_1)) = some r := H
  have A10 := za A100; clear A100
  by_cases c11 : t244 = true
  ·subst c11
   have H1 : (if (l2.length : Int) > 40 then (awardingbodylaw27_MonitorExact.j0 k l0 l2 l3 l4 true a1_0 a1_1 a1_2 a1_3 l5_0 a5_1) else (if (l3.length : Int) > 40 then (awardingbodylaw27_MonitorExact.j0 k l0 l2 l3 l4 true a1_0 a1_1 a1_2 a1_3 l5_0 a5_1) else (if (l4.length : Int) > 100 then (awardingbodylaw27_MonitorExact.j0 k l0 l2 l3 l4 true a1_0 a1_1 a1_2 a1_3 l5_0 a5_1) else (awardingbodylaw27_MonitorExact.j0 k l0 l2 l3 l4 (decide ((l5_0.length : Int) > 40)) a1_0 a1_1 a1_2 a1_3 l5_0 a5_1)))) = some r := by rw [if_pos rfl] at H; exact H
   clear H; have H := H1; clear H1
   by_cases c12 : (l2.length : Int) > 40
   ·rw [if_pos c12] at H
    have c12b0 : decide (40 < (l2.length : Int)) = true := decide_eq_true c12
    have c12b1 : decide (40 < l2.length) = true := decide_eq_true (by omega)
    clear c12
    (first | rw [c12b0] | (simp only [i64_w, i32_w]; rw [c12b0]) | skip)
    have H' := za H; clear H
    go_wp2_with (first | ((with_reducible refine gate_callee (f := 8) rfl ?_); refine zL (some 38) Try.func8 #[.slice A0 l0.length c0] ?_; (with_reducible refine (awardingbodymark_Light.calls _ _ l0 true _ ?side1 ?side2 A10.out).mono ?_); (case side1 => exact zC HR0 HB); (case side2 => exact HC0.out); rintro e w' ⟨rfl, ⟨nd, rfl⟩⟩; refine ⟨_, rfl, ?_⟩))
    go_meet
    case rel => exact ⟨_, (true), qfk, H', ⟨by first | omega | exact Nat.le_refl _⟩, ⟨qfb⟩, ⟨qfb⟩, ⟨zm HB⟩⟩
   ·rw [if_neg c12] at H
    have c12b0 : decide (40 < (l2.length : Int)) = false := decide_eq_false c12
    have c12b1 : decide (40 < l2.length) = false := decide_eq_false (by omega)
    clear c12
    (first | rw [c12b0] | (simp only [i64_w, i32_w]; rw [c12b0]) | skip)
    by_cases c13 : (l3.length : Int) > 40
    ·rw [if_pos c13] at H
     have c13b0 : decide (40 < (l3.length : Int)) = true := decide_eq_true c13
     have c13b1 : decide (40 < l3.length) = true := decide_eq_true (by omega)
     clear c13; have H' := za H; clear H
     go_wp2_with (first | ((with_reducible refine gate_callee (f := 8) rfl ?_); refine zL (some 38) Try.func8 #[.slice A0 l0.length c0] ?_; (with_reducible refine (awardingbodymark_Light.calls _ _ l0 true _ ?side1 ?side2 A10.out).mono ?_); (case side1 => exact zC HR0 HB); (case side2 => exact HC0.out); rintro e w' ⟨rfl, ⟨nd, rfl⟩⟩; refine ⟨_, rfl, ?_⟩))
     go_meet
     case rel => exact ⟨_, (true), qfk, H', ⟨by first | omega | exact Nat.le_refl _⟩, ⟨qfb⟩, ⟨qfb⟩, ⟨zm HB⟩⟩
    ·rw [if_neg c13] at H
     have c13b0 : decide (40 < (l3.length : Int)) = false := decide_eq_false c13
     have c13b1 : decide (40 < l3.length) = false := decide_eq_false (by omega)
     clear c13
     by_cases c14 : (l4.length : Int) > 100
     ·rw [if_pos c14] at H
      have c14b0 : decide (100 < (l4.length : Int)) = true := decide_eq_true c14
      have c14b1 : decide (100 < l4.length) = true := decide_eq_true (by omega)
      clear c14; have H' := za H; clear H
      go_wp2_with (first | ((with_reducible refine gate_callee (f := 8) rfl ?_); refine zL (some 38) Try.func8 #[.slice A0 l0.length c0] ?_; (with_reducible refine (awardingbodymark_Light.calls _ _ l0 true _ ?side1 ?side2 A10.out).mono ?_); (case side1 => exact zC HR0 HB); (case side2 => exact HC0.out); rintro e w' ⟨rfl, ⟨nd, rfl⟩⟩; refine ⟨_, rfl, ?_⟩))
      go_meet
      case rel => exact ⟨_, (true), qfk, H', ⟨by first | omega | exact Nat.le_refl _⟩, ⟨qfb⟩, ⟨qfb⟩, ⟨zm HB⟩⟩
     ·rw [if_neg c14] at H
      have c14b0 : decide (100 < (l4.length : Int)) = false := decide_eq_false c14
      have c14b1 : decide (100 < l4.length) = false := decide_eq_false (by omega)
      clear c14; have H' := za H; clear H
      go_wp2_with (first | ((with_reducible refine gate_callee (f := 8) rfl ?_); refine zL (some 38) Try.func8 #[.slice A0 l0.length c0] ?_; (with_reducible refine (awardingbodymark_Light.calls _ _ l0 true _ ?side1 ?side2 A10.out).mono ?_); (case side1 => exact zC HR0 HB); (case side2 => exact HC0.out); rintro e w' ⟨rfl, ⟨nd, rfl⟩⟩; refine ⟨_, rfl, ?_⟩; have hnb15 := NB243_242.out; have hnc15 := NB242_243.out; obtain ⟨hcz16_0, hcz16_1, hfz16_0, hfz16_1⟩ := z2 BK243))
      go_meet
      case rel => exact ⟨_, (decide ((l5_0.length : Int) > 40)), qfk, H', ⟨by first | omega | exact Nat.le_refl _⟩, ⟨qfb⟩, ⟨qfb⟩, ⟨zm HB⟩⟩
  ·replace c11 := Bool.eq_false_iff.mpr c11
   subst c11
   have H1 : (awardingbodylaw27_MonitorExact.j0 k l0 l2 l3 l4 true a1_0 a1_1 a1_2 a1_3 l5_0 a5_1) = some r := by rw [if_neg (show ¬ (false = true) by decide)] at H; exact H
   clear H; have H := H1; clear H1; have H' := za H; clear H
   go_wp2_with (first | ((with_reducible refine gate_callee (f := 8) rfl ?_); refine zL (some 38) Try.func8 #[.slice A0 l0.length c0] ?_; (with_reducible refine (awardingbodymark_Light.calls _ _ l0 false _ ?side1 ?side2 A10.out).mono ?_); (case side1 => exact zC HR0 HB); (case side2 => exact HC0.out); rintro e w' ⟨rfl, ⟨nd, rfl⟩⟩; refine ⟨_, rfl, ?_⟩))
   go_meet
   case rel => exact ⟨_, (true), qfk, H', ⟨by first | omega | exact Nat.le_refl _⟩, ⟨qfb⟩, ⟨qfb⟩, ⟨zm HB⟩⟩
 case rest =>
  clear HC7; (try clear c1); (try clear c2); (try clear p2); (try clear c3); (try clear c4); (try clear c5); (try clear c8); (try clear c11); (try clear c12); (try clear c12b0); (try clear c12b1); (try clear c13); (try clear c13b0); (try clear c13b1); (try clear c14); (try clear c14b0); (try clear c14b1); (try clear c15); (try clear hcz16_0); (try clear hcz16_1); (try clear hfz16_0); (try clear hfz16_1)
  obtain ⟨kq, x60_6, rfl, HA, HJ6, BK242, BK243, HB⟩ := hcut
  cases kq with
  | zero => exact absurd HA.out (by simp [awardingbodylaw27_MonitorExact.j0])
  | succ kj6 =>
   have H := HA.out
   clear HA
   simp only [awardingbodylaw27_MonitorExact.j0] at H
   by_cases c17 : x60_6 = true
   ·subst c17
    have H1 : ((awardingbodylaw27_sane.f kj6).bind fun t245 => (some t245)) = some r := by rw [if_pos rfl] at H; exact H
    clear H; have H := H1; clear H1
    replace H := Option.bind_eq_some_iff.mp H
    obtain ⟨t245, A180, H⟩ := H
    replace H : (some t245) = some r := H
    have A18 := za A180; clear A180
    obtain rfl := Option.some.inj H
    go_wp2_with (first | ((with_reducible refine gate_callee (f := 9) rfl ?_); refine zL (some 61) Try.func9 #[] ?_; (with_reducible refine (awardingbodylaw27_sane.calls kj6  t245 _ A18.out).mono ?_); rintro e w19 ⟨rfl, hb⟩; refine ⟨_, rfl, ?_⟩; replace BK242 := zb BK242 hb; replace BK243 := zb BK243 hb; replace HB := zs HB hb; (try clear hb); (try clear hb2); (try clear hk); (try clear hi)))
    go_ret
    exact ⟨zf, zm HB⟩
   ·replace c17 := Bool.eq_false_iff.mpr c17
    subst c17
    have H1 : ((awardingbodymark_Roll.f l0).bind fun bt246 => ((awardingbodymark_Dice_Monitor.f kj6 bt246.1 bt246.2).bind fun bt249 => ((awardingbodymark_Dice_Next.f kj6 bt246.1 bt249.2.2.2.2 4).bind fun bt256 => (if bt256.1 = 0 then ((awardingbodymark_Dice_Pick.f kj6 bt246.1 bt256.2 (([(-1), 200, 201] : List Int))).bind fun bt261 => (awardingbodylaw27_MonitorExact.j1 kj6 l2 l3 l4 a1_0 a1_1 a1_2 a1_3 l5_0 a5_1 bt246.1 bt261.2 bt249.1 bt249.2.1 bt249.2.2.1 bt249.2.2.2.1 bt261.1 bt249.2.1 bt249.2.2.1 bt249.2.2.2.1)) else (if bt256.1 = 1 then ((awardingbodymark_Dice_Pick.f kj6 bt246.1 bt256.2 (([(-1), 200, 201] : List Int))).bind fun bt266 => (awardingbodylaw27_MonitorExact.j1 kj6 l2 l3 l4 a1_0 a1_1 a1_2 a1_3 l5_0 a5_1 bt246.1 bt266.2 bt249.1 bt249.2.1 bt249.2.2.1 bt249.2.2.2.1 bt249.1 bt266.1 bt249.2.2.1 bt249.2.2.2.1)) else (if bt256.1 = 2 then ((awardingbodymark_Dice_Pick.f kj6 bt246.1 bt256.2 (([0, 20, 21] : List Int))).bind fun bt271 => (awardingbodylaw27_MonitorExact.j1 kj6 l2 l3 l4 a1_0 a1_1 a1_2 a1_3 l5_0 a5_1 bt246.1 bt271.2 bt249.1 bt249.2.1 bt249.2.2.1 bt249.2.2.2.1 bt249.1 bt249.2.1 bt271.1 bt249.2.2.2.1)) else ((awardingbodymark_Dice_Pick.f kj6 bt246.1 bt256.2 (([0, bt249.2.2.1, wrap64 (bt249.2.2.1 + 1)] : List Int))).bind fun bt276 => (awardingbodylaw27_MonitorExact.j1 kj6 l2 l3 l4 a1_0 a1_1 a1_2 a1_3 l5_0 a5_1 bt246.1 bt276.2 bt249.1 bt249.2.1 bt249.2.2.1 bt249.2.2.2.1 bt249.1 bt249.2.1 bt249.2.2.1 bt276.1)))))))) = some r := by rw [if_neg (show ¬ (false = true) by decide)] at H; exact H
    clear H; have H := H1; clear H1
    replace H := Option.bind_eq_some_iff.mp H
    obtain ⟨⟨t246, t247⟩, A200, H⟩ := H
    replace H : ((awardingbodymark_Dice_Monitor.f kj6 t246 t247).bind fun bt249 => ((awardingbodymark_Dice_Next.f kj6 t246 bt249.2.2.2.2 4).bind fun bt256 => (if bt256.1 = 0 then ((awardingbodymark_Dice_Pick.f kj6 t246 bt256.2 (([(-1), 200, 201] : List Int))).bind fun bt261 => (awardingbodylaw27_MonitorExact.j1 kj6 l2 l3 l4 a1_0 a1_1 a1_2 a1_3 l5_0 a5_1 t246 bt261.2 bt249.1 bt249.2.1 bt249.2.2.1 bt249.2.2.2.1 bt261.1 bt249.2.1 bt249.2.2.1 bt249.2.2.2.1)) else (if bt256.1 = 1 then ((awardingbodymark_Dice_Pick.f kj6 t246 bt256.2 (([(-1), 200, 201] : List Int))).bind fun bt266 => (awardingbodylaw27_MonitorExact.j1 kj6 l2 l3 l4 a1_0 a1_1 a1_2 a1_3 l5_0 a5_1 t246 bt266.2 bt249.1 bt249.2.1 bt249.2.2.1 bt249.2.2.2.1 bt249.1 bt266.1 bt249.2.2.1 bt249.2.2.2.1)) else (if bt256.1 = 2 then ((awardingbodymark_Dice_Pick.f kj6 t246 bt256.2 (([0, 20, 21] : List Int))).bind fun bt271 => (awardingbodylaw27_MonitorExact.j1 kj6 l2 l3 l4 a1_0 a1_1 a1_2 a1_3 l5_0 a5_1 t246 bt271.2 bt249.1 bt249.2.1 bt249.2.2.1 bt249.2.2.2.1 bt249.1 bt249.2.1 bt271.1 bt249.2.2.2.1)) else ((awardingbodymark_Dice_Pick.f kj6 t246 bt256.2 (([0, bt249.2.2.1, wrap64 (bt249.2.2.1 + 1)] : List Int))).bind fun bt276 => (awardingbodylaw27_MonitorExact.j1 kj6 l2 l3 l4 a1_0 a1_1 a1_2 a1_3 l5_0 a5_1 t246 bt276.2 bt249.1 bt249.2.1 bt249.2.2.1 bt249.2.2.2.1 bt249.1 bt249.2.1 bt249.2.2.1 bt276.1))))))) = some r := H
    have A20 := za A200; clear A200
    replace H := Option.bind_eq_some_iff.mp H
    obtain ⟨⟨t249, t250, t251, t252, t253⟩, A210, H⟩ := H
    replace H : ((awardingbodymark_Dice_Next.f kj6 t246 t253 4).bind fun bt256 => (if bt256.1 = 0 then ((awardingbodymark_Dice_Pick.f kj6 t246 bt256.2 (([(-1), 200, 201] : List Int))).bind fun bt261 => (awardingbodylaw27_MonitorExact.j1 kj6 l2 l3 l4 a1_0 a1_1 a1_2 a1_3 l5_0 a5_1 t246 bt261.2 t249 t250 t251 t252 bt261.1 t250 t251 t252)) else (if bt256.1 = 1 then ((awardingbodymark_Dice_Pick.f kj6 t246 bt256.2 (([(-1), 200, 201] : List Int))).bind fun bt266 => (awardingbodylaw27_MonitorExact.j1 kj6 l2 l3 l4 a1_0 a1_1 a1_2 a1_3 l5_0 a5_1 t246 bt266.2 t249 t250 t251 t252 t249 bt266.1 t251 t252)) else (if bt256.1 = 2 then ((awardingbodymark_Dice_Pick.f kj6 t246 bt256.2 (([0, 20, 21] : List Int))).bind fun bt271 => (awardingbodylaw27_MonitorExact.j1 kj6 l2 l3 l4 a1_0 a1_1 a1_2 a1_3 l5_0 a5_1 t246 bt271.2 t249 t250 t251 t252 t249 t250 bt271.1 t252)) else ((awardingbodymark_Dice_Pick.f kj6 t246 bt256.2 (([0, t251, wrap64 (t251 + 1)] : List Int))).bind fun bt276 => (awardingbodylaw27_MonitorExact.j1 kj6 l2 l3 l4 a1_0 a1_1 a1_2 a1_3 l5_0 a5_1 t246 bt276.2 t249 t250 t251 t252 t249 t250 t251 bt276.1)))))) = some r := H
    have A21 := za A210; clear A210
    replace H := Option.bind_eq_some_iff.mp H
    obtain ⟨⟨t256, t257⟩, A220, H⟩ := H
    replace H : (if t256 = 0 then ((awardingbodymark_Dice_Pick.f kj6 t246 t257 (([(-1), 200, 201] : List Int))).bind fun bt261 => (awardingbodylaw27_MonitorExact.j1 kj6 l2 l3 l4 a1_0 a1_1 a1_2 a1_3 l5_0 a5_1 t246 bt261.2 t249 t250 t251 t252 bt261.1 t250 t251 t252)) else (if t256 = 1 then ((awardingbodymark_Dice_Pick.f kj6 t246 t257 (([(-1), 200, 201] : List Int))).bind fun bt266 => (awardingbodylaw27_MonitorExact.j1 kj6 l2 l3 l4 a1_0 a1_1 a1_2 a1_3 l5_0 a5_1 t246 bt266.2 t249 t250 t251 t252 t249 bt266.1 t251 t252)) else (if t256 = 2 then ((awardingbodymark_Dice_Pick.f kj6 t246 t257 (([0, 20, 21] : List Int))).bind fun bt271 => (awardingbodylaw27_MonitorExact.j1 kj6 l2 l3 l4 a1_0 a1_1 a1_2 a1_3 l5_0 a5_1 t246 bt271.2 t249 t250 t251 t252 t249 t250 bt271.1 t252)) else ((awardingbodymark_Dice_Pick.f kj6 t246 t257 (([0, t251, wrap64 (t251 + 1)] : List Int))).bind fun bt276 => (awardingbodylaw27_MonitorExact.j1 kj6 l2 l3 l4 a1_0 a1_1 a1_2 a1_3 l5_0 a5_1 t246 bt276.2 t249 t250 t251 t252 t249 t250 t251 bt276.1))))) = some r := H
    have A22 := za A220; clear A220; have HC23 := za H; clear H
    go_upto_block 0 with (first | ((with_reducible refine gate_callee (f := 10) rfl ?_); refine zL (some 63) Try.func10 #[.slice A0 l0.length c0] ?_; (with_reducible refine (awardingbodymark_Roll.calls _ _ l0 t246 t247 w _ ?side1 ?side2 ?side3 A20.out).mono ?_); (case side1 => repeat (first | (with_reducible first | exact HB.out | apply below_alloc | apply pw_below_drewN | apply below_drew1 | refine below_set ?_ GE242.out | refine below_set ?_ GE243.out) | exact HB.out)); (case side2 => exact HR0.out); (case side3 => exact HC0.out); rintro e w24 ⟨g248, rfl, hi, hb, hb2⟩; refine ⟨_, rfl, ?_⟩; have HI248 := za (hi); have NB248_242 := za (IsS53.ne_blk hi (blk_below (g := gb242) (o := .cells #[.int .i64 a1_0, .int .i64 a1_1, .int .i64 a1_2, .int .i64 a1_3] 24 (0, 0)) (qfb) hb2) (by decide)); have NB242_248 := za (Ne.symm (IsS53.ne_blk hi (blk_below (g := gb242) (o := .cells #[.int .i64 a1_0, .int .i64 a1_1, .int .i64 a1_2, .int .i64 a1_3] 24 (0, 0)) (qfb) hb2) (by decide))); have NB248_243 := za (IsS53.ne_blk hi (blk_below (g := gb243) (o := .cells #[.slice A5_0 l5_0.length c5_0, .bool a5_1] 27 (0, 0)) (qfb) hb2) (by decide)); have NB243_248 := za (Ne.symm (IsS53.ne_blk hi (blk_below (g := gb243) (o := .cells #[.slice A5_0 l5_0.length c5_0, .bool a5_1] 27 (0, 0)) (qfb) hb2) (by decide))); replace BK242 := zb BK242 hb2; replace BK243 := zb BK243 hb2; replace HB := za (hb); (try clear hb); (try clear hb2); (try clear hk); (try clear hi)) | ((with_reducible refine gate_callee (f := 11) rfl ?_); refine zL (some 65) Try.func11 #[.pointer (some ⟨g248, 0, none⟩)] ?_; (with_reducible refine (awardingbodymark_Dice_Monitor.calls kj6 g248 t246 t247 t249 t250 t251 t252 t253 w _ ?side1 ?side2 A21.out).mono ?_); (case side1 => repeat (first | (with_reducible first | exact HI248.out | apply IsS53.alloc | apply IsS53.drewN | apply IsS53.drew | apply IsS53.set_1 | refine IsS53.far ?_ NB248_242.out _ | refine IsS53.far ?_ NB248_243.out _) | exact HI248.out)); (case side2 => repeat (first | (with_reducible first | exact HB.out | apply below_alloc | apply pw_below_drewN | apply below_drew1 | refine below_set ?_ (IsS53.ge HI248.out) | refine below_set ?_ GE242.out | refine below_set ?_ GE243.out) | exact HB.out)); rintro e w25 ⟨rfl, hi, hb, hk⟩; refine ⟨_, rfl, ?_⟩; replace BK242 := zk hk BK242 NB242_248; replace BK243 := zk hk BK243 NB243_248; replace HB := za (hb); replace HI248 := za (hi); (try clear hb); (try clear hb2); (try clear hk); (try clear hi)) | ((with_reducible refine gate_dst (N := 14) rfl ?_); (try (refine gate_guard (by rfl) ?_; dsimp only)); refine zE 14 #[.int .i64 0, .int .i64 0, .int .i64 0, .int .i64 0] 24 ?_; intro gb254 hg w26 hbox hb; have BK254 := za (hbox); have GW254 := zg HB hg; have GE254 := zg HB hg; have NB242_254 := zl BK242 hg; have NB254_242 := zr BK242 hg; have NB243_254 := zl BK243 hg; have NB254_243 := zr BK243 hg; have NB248_254 := za ((by rw [hg]; exact Nat.ne_of_lt (IsS53.lt (show IsS53 w _ g248 t246 t253 from qfa)) : g248 ≠ gb254)); have NB254_248 := za ((by rw [hg]; exact Nat.ne_of_gt (IsS53.lt (show IsS53 w _ g248 t246 t253 from qfa)) : gb254 ≠ g248)); replace BK242 := zb BK242 hb; replace BK243 := zb BK243 hb; replace HI248 := za (IsS53.below (qfa) hb); replace HB := zs HB hb; clear hb hbox hg; have hnb27 := NB254_242.out; have hnc27 := NB242_254.out; have hnb28 := NB254_243.out; have hnc28 := NB243_254.out; have hnb29 := NB254_248.out; have hnc29 := NB248_254.out; obtain ⟨hcz30_0, hcz30_1, hcz30_2, hcz30_3, hfz30_0, hfz30_1, hfz30_2, hfz30_3⟩ := z4 BK254) | ((with_reducible refine gate_dst (N := 15) rfl ?_); (try (refine gate_guard (by rfl) ?_; dsimp only)); refine zE 15 #[.int .i64 0, .int .i64 0, .int .i64 0, .int .i64 0] 24 ?_; intro gb255 hg w31 hbox hb; have BK255 := za (hbox); have GW255 := zg HB hg; have GE255 := zg HB hg; have NB242_255 := zl BK242 hg; have NB255_242 := zr BK242 hg; have NB243_255 := zl BK243 hg; have NB255_243 := zr BK243 hg; have NB254_255 := za ((by rw [hg]; exact Nat.ne_of_lt (blk_lt (g := gb254) (o := .cells #[.int .i64 t249, .int .i64 t250, .int .i64 t251, .int .i64 t252] 24 (0, 0)) qfd) : gb254 ≠ gb255)); have NB255_254 := za ((by rw [hg]; exact Nat.ne_of_gt (blk_lt (g := gb254) (o := .cells #[.int .i64 t249, .int .i64 t250, .int .i64 t251, .int .i64 t252] 24 (0, 0)) qfd) : gb255 ≠ gb254)); have NB248_255 := za ((by rw [hg]; exact Nat.ne_of_lt (IsS53.lt (show IsS53 w _ g248 t246 t253 from qfa)) : g248 ≠ gb255)); have NB255_248 := za ((by rw [hg]; exact Nat.ne_of_gt (IsS53.lt (show IsS53 w _ g248 t246 t253 from qfa)) : gb255 ≠ g248)); replace BK242 := zb BK242 hb; replace BK243 := zb BK243 hb; replace HI248 := za (IsS53.below (show IsS53 w ((((w26.setCell ⟨gb254, 0, none⟩ (.int .i64 t249)).setCell ⟨gb254, 1, none⟩ (.int .i64 t250)).setCell ⟨gb254, 2, none⟩ (.int .i64 t251)).setCell ⟨gb254, 3, none⟩ (.int .i64 t252)) g248 t246 t253 from qfa) hb); replace BK254 := za (blk_below (g := gb254) (o := .cells #[.int .i64 t249, .int .i64 t250, .int .i64 t251, .int .i64 t252] 24 (0, 0)) qfd hb); replace HB := zs HB hb; clear hb hbox hg; have hnb32 := NB255_242.out; have hnc32 := NB242_255.out; have hnb33 := NB255_243.out; have hnc33 := NB243_255.out; have hnb34 := NB255_254.out; have hnc34 := NB254_255.out; have hnb35 := NB255_248.out; have hnc35 := NB248_255.out; obtain ⟨hcz36_0, hcz36_1, hcz36_2, hcz36_3, hfz36_0, hfz36_1, hfz36_2, hfz36_3⟩ := z4 BK255) | ((with_reducible refine gate_callee (f := 12) rfl ?_); refine zL (some 68) Try.func12 #[.pointer (some ⟨g248, 0, none⟩), .int .i64 4] ?_; (with_reducible refine (awardingbodymark_Dice_Next.calls kj6 g248 t246 t253 4 t256 t257 w _ ?side1 ?side2 A22.out).mono ?_); (case side1 => repeat (first | (with_reducible first | exact HI248.out | apply IsS53.alloc | apply IsS53.drewN | apply IsS53.drew | apply IsS53.set_1 | refine IsS53.far ?_ NB248_242.out _ | refine IsS53.far ?_ NB248_243.out _ | refine IsS53.far ?_ NB248_254.out _ | refine IsS53.far ?_ NB248_255.out _) | exact HI248.out)); (case side2 => repeat (first | (with_reducible first | exact HB.out | apply below_alloc | apply pw_below_drewN | apply below_drew1 | refine below_set ?_ (IsS53.ge HI248.out) | refine below_set ?_ GE242.out | refine below_set ?_ GE243.out | refine below_set ?_ GE254.out | refine below_set ?_ GE255.out) | exact HB.out)); rintro e w37 ⟨rfl, hi, hb, hk⟩; refine ⟨_, rfl, ?_⟩; replace BK242 := zk hk BK242 NB242_248; replace BK243 := zk hk BK243 NB243_248; replace BK254 := zk hk BK254 NB254_248; replace BK255 := za (KeepBut.blk hk (g' := gb255) (o := .cells #[.int .i64 t249, .int .i64 t250, .int .i64 t251, .int .i64 t252] 24 (0, 0)) (by (with_reducible repeat (first | refine blk_drewN ?_ _ | refine blk_drew ?_ | refine blk_alloc ?_ _)); refine blk_put (cs := #[.int .i64 t249, .int .i64 t250, .int .i64 t251, .int .i64 0]) ?_ 3 _ rfl; (with_reducible repeat (first | refine blk_drewN ?_ _ | refine blk_drew ?_ | refine blk_alloc ?_ _)); refine blk_put (cs := #[.int .i64 t249, .int .i64 t250, .int .i64 0, .int .i64 0]) ?_ 2 _ rfl; (with_reducible repeat (first | refine blk_drewN ?_ _ | refine blk_drew ?_ | refine blk_alloc ?_ _)); refine blk_put (cs := #[.int .i64 t249, .int .i64 0, .int .i64 0, .int .i64 0]) ?_ 1 _ rfl; (with_reducible repeat (first | refine blk_drewN ?_ _ | refine blk_drew ?_ | refine blk_alloc ?_ _)); refine blk_put (cs := #[.int .i64 0, .int .i64 0, .int .i64 0, .int .i64 0]) ?_ 0 _ rfl; (with_reducible repeat (first | refine blk_drewN ?_ _ | refine blk_drew ?_ | refine blk_alloc ?_ _)); exact BK255.out) NB255_248.out (by simp)); replace HB := za (hb); replace HI248 := za (hi); (try clear hb); (try clear hb2); (try clear hk); (try clear hi)))
    (try simp only [Act.put, List.setIfInBounds_toArray, List.set_cons_zero, List.set_cons_succ])
    go_cut [] (fun wc => ∃ (kq : Nat) (x249001_22 : Int) (x256000_22 : Int) (x256001_22 : Int) (x256002_22 : Int) (x256003_22 : Int), Aside0 (awardingbodylaw27_MonitorExact.j1 kq l2 l3 l4 a1_0 a1_1 a1_2 a1_3 l5_0 a5_1 t246 x249001_22 t249 t250 t251 t252 x256000_22 x256001_22 x256002_22 x256003_22 = some r) ∧ Aside0 (kq ≤ kj6) ∧ Aside0 (wc.heap[gb242]? = some (.cells #[.int .i64 a1_0, .int .i64 a1_1, .int .i64 a1_2, .int .i64 a1_3] 24 (0, 0))) ∧ Aside0 (wc.heap[gb243]? = some (.cells #[(.slice A5_0 l5_0.length c5_0), .bool a5_1] 27 (0, 0))) ∧ Aside0 (wc.heap[gb254]? = some (.cells #[.int .i64 t249, .int .i64 t250, .int .i64 t251, .int .i64 t252] 24 (0, 0))) ∧ Aside0 (wc.heap[gb255]? = some (.cells #[.int .i64 x256000_22, .int .i64 x256001_22, .int .i64 x256002_22, .int .i64 x256003_22] 24 (0, 0))) ∧ Aside0 (IsS53 w wc g248 t246 x249001_22) ∧ Aside0 (Below w.heap.size w wc))
    case first =>
     as_aux_lemma =>
     have H := HC23.out
     clear HC23
     by_cases c38 : t256 = 0
     ·rw [if_pos c38] at H
      have c38b0 : (t256 == 0) = true := beq_iff_eq.mpr c38
      have c38b1 : (t256 != 0) = false := bne_eq_false_iff_eq.mpr c38
      clear c38
      (first | rw [c38b0] | (simp only [i64_w, i32_w]; rw [c38b0]) | skip)
      obtain ⟨y258, hy_⟩ : ∃ y_ : List Int, y_ = (([(-1), 200, 201] : List Int)) := ⟨_, rfl⟩
      replace H : ((awardingbodymark_Dice_Pick.f kj6 t246 t257 y258).bind fun bt261 => (awardingbodylaw27_MonitorExact.j1 kj6 l2 l3 l4 a1_0 a1_1 a1_2 a1_3 l5_0 a5_1 t246 bt261.2 t249 t250 t251 t252 bt261.1 t250 t251 t252)) = some r := qfz33
      have Ny258 := za hy_; clear hy_
      replace H := Option.bind_eq_some_iff.mp H
      obtain ⟨⟨t261, t262⟩, A390, H⟩ := H
      replace H : (awardingbodylaw27_MonitorExact.j1 kj6 l2 l3 l4 a1_0 a1_1 a1_2 a1_3 l5_0 a5_1 t246 t262 t249 t250 t251 t252 t261 t250 t251 t252) = some r := H
      have A39 := za A390; clear A390; have H' := za H; clear H
      go_wp2_with (first | ((with_reducible refine gate_dst (N := 81) rfl ?_); (try (refine gate_guard (by rfl) ?_; dsimp only)); refine Kd.R_lit (Kd.int .i64) _ 3 ?hg (N := 81) ?hd (xs := ([(-1), 200, 201] : List Int)) (inner := [.int .i64 (-1), .int .i64 200, .int .i64 201]) (ok := fun _ => True) (okp := fun _ => True) ?hr ?hp (fun _ hk => hk) trivial (Below.refl _ _) (Nat.le_refl _) (by simp) ?_; (case hd => rfl); (case hg => rfl); (case hr => first | (go_simp; done) | (go_simp; rfl)); (case hp => exact (Reps.one (show Kd.M (Kd.int .i64) _ _ _ (-1) [.int .i64 (-1)] from rfl) (Reps.one (show Kd.M (Kd.int .i64) _ _ _ 200 [.int .i64 200] from rfl) (Reps.one (show Kd.M (Kd.int .i64) _ _ _ 201 [.int .i64 201] from rfl) (Reps.none _ _))))); intro v259 w40 ho41 hb hg_ hnew_; clear hg_ hnew_; (first | rw [← Ny258.out] at ho41 | (simp only [Int.reduceToNat] at ho41; rw [← Ny258.out] at ho41)); have HO260 := za (Kd.R_lower ho41 (below_size (zm HB))); replace BK242 := zb BK242 hb; replace BK243 := zb BK243 hb; replace HI248 := za (IsS53.below (qfa) hb); replace BK254 := zb BK254 hb; replace BK255 := zb BK255 hb; replace HB := zs HB hb; clear hb ho41; obtain ⟨Ao42, co42, eo42⟩ := Kd.R_slice HO260.out; subst eo42) | ((with_reducible refine gate_callee (f := 13) rfl ?_); refine zL (some 82) Try.func13 #[.pointer (some ⟨g248, 0, none⟩), .slice Ao42 y258.length co42] ?_; (with_reducible refine (awardingbodymark_Dice_Pick.calls kj6 g248 t246 t257 _ _ y258 t261 t262 w _ ?side1 ?side2 ?side3 ?side4 ?side5 A39.out).mono ?_); (case side1 => repeat (first | (with_reducible first | exact HI248.out | apply IsS53.alloc | apply IsS53.drewN | apply IsS53.drew | apply IsS53.set_1 | refine IsS53.far ?_ NB248_242.out _ | refine IsS53.far ?_ NB248_243.out _ | refine IsS53.far ?_ NB248_254.out _ | refine IsS53.far ?_ NB248_255.out _) | exact HI248.out)); (case side2 => repeat (first | (with_reducible first | exact HB.out | apply below_alloc | apply pw_below_drewN | apply below_drew1 | refine below_set ?_ (IsS53.ge HI248.out) | refine below_set ?_ GE242.out | refine below_set ?_ GE243.out | refine below_set ?_ GE254.out | refine below_set ?_ GE255.out) | exact HB.out)); (case side3 => exact zD HO260); (case side4 => exact (Kd.R_reads' HO260.out).2.1); (case side5 => exact far_slice (IsS53.own_ne HI248.out HO260.out (by decide))); rintro e w43 ⟨rfl, hi, hb, hk⟩; refine ⟨_, rfl, ?_⟩; replace BK242 := zk hk BK242 NB242_248; replace BK243 := zk hk BK243 NB243_248; replace BK254 := zk hk BK254 NB254_248; replace BK255 := zk hk BK255 NB255_248; replace HO260 := za (Kd.R_mono (Kd.R_keep (IsS53.apart (show IsS53 w _ g248 t246 t257 from qfa) (by (with_reducible repeat (first | apply Kd.R_alloc | apply Kd.R_drewN | apply Kd.R_drew)); exact HO260.out) (by decide)) hk (fun _ h => h.2)) (fun _ h => h.1)); replace HB := za (hb); replace HI248 := za (hi); (try clear hb); (try clear hb2); (try clear hk); (try clear hi); have hnb44 := NB255_242.out; have hnc44 := NB242_255.out; have hnb45 := NB255_243.out; have hnc45 := NB243_255.out; have hnb46 := NB255_254.out; have hnc46 := NB254_255.out; have hnb47 := NB255_248.out; have hnc47 := NB248_255.out; obtain ⟨hcz48_0, hcz48_1, hcz48_2, hcz48_3, hfz48_0, hfz48_1, hfz48_2, hfz48_3⟩ := z4 BK255))
      go_meet
      case rel => exact ⟨_, (t262), (t261), (t250), (t251), (t252), H', ⟨by have := HJ6.out; first | omega | exact Nat.le_refl _⟩, ⟨qfb⟩, ⟨qfb⟩, ⟨qfb⟩, ⟨by (with_reducible repeat (first | refine blk_drewN ?_ _ | refine blk_drew ?_ | refine blk_alloc ?_ _)); refine blk_put (cs := #[.int .i64 t249, .int .i64 t250, .int .i64 t251, .int .i64 t252]) ?_ 0 _ rfl; (with_reducible repeat (first | refine blk_drewN ?_ _ | refine blk_drew ?_ | refine blk_alloc ?_ _)); exact BK255.out⟩, ⟨qfa⟩, ⟨zm HB⟩⟩
     ·rw [if_neg c38] at H
      have c38b0 : (t256 == 0) = false := beq_eq_false_iff_ne.mpr c38
      have c38b1 : (t256 != 0) = true := bne_iff_ne.mpr c38
      (first | rw [c38b0] | (simp only [i64_w, i32_w]; rw [c38b0]) | skip)
      by_cases c49 : t256 = 1
      ·rw [if_pos c49] at H
       have c49b0 : (t256 == 1) = true := beq_iff_eq.mpr c49
       have c49b1 : (t256 != 1) = false := bne_eq_false_iff_eq.mpr c49
       clear c49
       obtain ⟨y263, hy_⟩ : ∃ y_ : List Int, y_ = (([(-1), 200, 201] : List Int)) := ⟨_, rfl⟩
       replace H : ((awardingbodymark_Dice_Pick.f kj6 t246 t257 y263).bind fun bt266 => (awardingbodylaw27_MonitorExact.j1 kj6 l2 l3 l4 a1_0 a1_1 a1_2 a1_3 l5_0 a5_1 t246 bt266.2 t249 t250 t251 t252 t249 bt266.1 t251 t252)) = some r := qfz33
       have Ny263 := za hy_; clear hy_
       replace H := Option.bind_eq_some_iff.mp H
       obtain ⟨⟨t266, t267⟩, A500, H⟩ := H
       replace H : (awardingbodylaw27_MonitorExact.j1 kj6 l2 l3 l4 a1_0 a1_1 a1_2 a1_3 l5_0 a5_1 t246 t267 t249 t250 t251 t252 t249 t266 t251 t252) = some r := H
       have A50 := za A500; clear A500; have H' := za H; clear H
       go_wp2_with (first | ((with_reducible refine gate_dst (N := 87) rfl ?_); (try (refine gate_guard (by rfl) ?_; dsimp only)); refine Kd.R_lit (Kd.int .i64) _ 3 ?hg (N := 87) ?hd (xs := ([(-1), 200, 201] : List Int)) (inner := [.int .i64 (-1), .int .i64 200, .int .i64 201]) (ok := fun _ => True) (okp := fun _ => True) ?hr ?hp (fun _ hk => hk) trivial (Below.refl _ _) (Nat.le_refl _) (by simp) ?_; (case hd => rfl); (case hg => rfl); (case hr => first | (go_simp; done) | (go_simp; rfl)); (case hp => exact (Reps.one (show Kd.M (Kd.int .i64) _ _ _ (-1) [.int .i64 (-1)] from rfl) (Reps.one (show Kd.M (Kd.int .i64) _ _ _ 200 [.int .i64 200] from rfl) (Reps.one (show Kd.M (Kd.int .i64) _ _ _ 201 [.int .i64 201] from rfl) (Reps.none _ _))))); intro v264 w51 ho52 hb hg_ hnew_; clear hg_ hnew_; (first | rw [← Ny263.out] at ho52 | (simp only [Int.reduceToNat] at ho52; rw [← Ny263.out] at ho52)); have HO265 := za (Kd.R_lower ho52 (below_size (zm HB))); replace BK242 := zb BK242 hb; replace BK243 := zb BK243 hb; replace HI248 := za (IsS53.below (qfa) hb); replace BK254 := zb BK254 hb; replace BK255 := zb BK255 hb; replace HB := zs HB hb; clear hb ho52; obtain ⟨Ao53, co53, eo53⟩ := Kd.R_slice HO265.out; subst eo53) | ((with_reducible refine gate_callee (f := 13) rfl ?_); refine zL (some 88) Try.func13 #[.pointer (some ⟨g248, 0, none⟩), .slice Ao53 y263.length co53] ?_; (with_reducible refine (awardingbodymark_Dice_Pick.calls kj6 g248 t246 t257 _ _ y263 t266 t267 w _ ?side1 ?side2 ?side3 ?side4 ?side5 A50.out).mono ?_); (case side1 => repeat (first | (with_reducible first | exact HI248.out | apply IsS53.alloc | apply IsS53.drewN | apply IsS53.drew | apply IsS53.set_1 | refine IsS53.far ?_ NB248_242.out _ | refine IsS53.far ?_ NB248_243.out _ | refine IsS53.far ?_ NB248_254.out _ | refine IsS53.far ?_ NB248_255.out _) | exact HI248.out)); (case side2 => repeat (first | (with_reducible first | exact HB.out | apply below_alloc | apply pw_below_drewN | apply below_drew1 | refine below_set ?_ (IsS53.ge HI248.out) | refine below_set ?_ GE242.out | refine below_set ?_ GE243.out | refine below_set ?_ GE254.out | refine below_set ?_ GE255.out) | exact HB.out)); (case side3 => exact zD HO265); (case side4 => exact (Kd.R_reads' HO265.out).2.1); (case side5 => exact far_slice (IsS53.own_ne HI248.out HO265.out (by decide))); rintro e w54 ⟨rfl, hi, hb, hk⟩; refine ⟨_, rfl, ?_⟩; replace BK242 := zk hk BK242 NB242_248; replace BK243 := zk hk BK243 NB243_248; replace BK254 := zk hk BK254 NB254_248; replace BK255 := zk hk BK255 NB255_248; replace HO265 := za (Kd.R_mono (Kd.R_keep (IsS53.apart (show IsS53 w _ g248 t246 t257 from qfa) (by (with_reducible repeat (first | apply Kd.R_alloc | apply Kd.R_drewN | apply Kd.R_drew)); exact HO265.out) (by decide)) hk (fun _ h => h.2)) (fun _ h => h.1)); replace HB := za (hb); replace HI248 := za (hi); (try clear hb); (try clear hb2); (try clear hk); (try clear hi); have hnb55 := NB255_242.out; have hnc55 := NB242_255.out; have hnb56 := NB255_243.out; have hnc56 := NB243_255.out; have hnb57 := NB255_254.out; have hnc57 := NB254_255.out; have hnb58 := NB255_248.out; have hnc58 := NB248_255.out; obtain ⟨hcz59_0, hcz59_1, hcz59_2, hcz59_3, hfz59_0, hfz59_1, hfz59_2, hfz59_3⟩ := z4 BK255))
       go_meet
       case rel => exact ⟨_, (t267), (t249), (t266), (t251), (t252), H', ⟨by have := HJ6.out; first | omega | exact Nat.le_refl _⟩, ⟨qfb⟩, ⟨qfb⟩, ⟨qfb⟩, ⟨by (with_reducible repeat (first | refine blk_drewN ?_ _ | refine blk_drew ?_ | refine blk_alloc ?_ _)); refine blk_put (cs := #[.int .i64 t249, .int .i64 t250, .int .i64 t251, .int .i64 t252]) ?_ 1 _ rfl; (with_reducible repeat (first | refine blk_drewN ?_ _ | refine blk_drew ?_ | refine blk_alloc ?_ _)); exact BK255.out⟩, ⟨qfa⟩, ⟨zm HB⟩⟩
      ·rw [if_neg c49] at H
       have c49b0 : (t256 == 1) = false := beq_eq_false_iff_ne.mpr c49
       have c49b1 : (t256 != 1) = true := bne_iff_ne.mpr c49
       by_cases c60 : t256 = 2
       ·rw [if_pos c60] at H
        have c60b0 : (t256 == 2) = true := beq_iff_eq.mpr c60
        have c60b1 : (t256 != 2) = false := bne_eq_false_iff_eq.mpr c60
        clear c60
        obtain ⟨y268, hy_⟩ : ∃ y_ : List Int, y_ = (([0, 20, 21] : List Int)) := ⟨_, rfl⟩
        replace H : ((awardingbodymark_Dice_Pick.f kj6 t246 t257 y268).bind fun bt271 => (awardingbodylaw27_MonitorExact.j1 kj6 l2 l3 l4 a1_0 a1_1 a1_2 a1_3 l5_0 a5_1 t246 bt271.2 t249 t250 t251 t252 t249 t250 bt271.1 t252)) = some r := qfz33
        have Ny268 := za hy_; clear hy_
        replace H := Option.bind_eq_some_iff.mp H
        obtain ⟨⟨t271, t272⟩, A610, H⟩ := H
        replace H : (awardingbodylaw27_MonitorExact.j1 kj6 l2 l3 l4 a1_0 a1_1 a1_2 a1_3 l5_0 a5_1 t246 t272 t249 t250 t251 t252 t249 t250 t271 t252) = some r := H
        have A61 := za A610; clear A610; have H' := za H; clear H
        go_wp2_with (first | ((with_reducible refine gate_dst (N := 93) rfl ?_); (try (refine gate_guard (by rfl) ?_; dsimp only)); refine Kd.R_lit (Kd.int .i64) _ 3 ?hg (N := 93) ?hd (xs := ([0, 20, 21] : List Int)) (inner := [.int .i64 0, .int .i64 20, .int .i64 21]) (ok := fun _ => True) (okp := fun _ => True) ?hr ?hp (fun _ hk => hk) trivial (Below.refl _ _) (Nat.le_refl _) (by simp) ?_; (case hd => rfl); (case hg => rfl); (case hr => first | (go_simp; done) | (go_simp; rfl)); (case hp => exact (Reps.one (show Kd.M (Kd.int .i64) _ _ _ 0 [.int .i64 0] from rfl) (Reps.one (show Kd.M (Kd.int .i64) _ _ _ 20 [.int .i64 20] from rfl) (Reps.one (show Kd.M (Kd.int .i64) _ _ _ 21 [.int .i64 21] from rfl) (Reps.none _ _))))); intro v269 w62 ho63 hb hg_ hnew_; clear hg_ hnew_; (first | rw [← Ny268.out] at ho63 | (simp only [Int.reduceToNat] at ho63; rw [← Ny268.out] at ho63)); have HO270 := za (Kd.R_lower ho63 (below_size (zm HB))); replace BK242 := zb BK242 hb; replace BK243 := zb BK243 hb; replace HI248 := za (IsS53.below (qfa) hb); replace BK254 := zb BK254 hb; replace BK255 := zb BK255 hb; replace HB := zs HB hb; clear hb ho63; obtain ⟨Ao64, co64, eo64⟩ := Kd.R_slice HO270.out; subst eo64) | ((with_reducible refine gate_callee (f := 13) rfl ?_); refine zL (some 94) Try.func13 #[.pointer (some ⟨g248, 0, none⟩), .slice Ao64 y268.length co64] ?_; (with_reducible refine (awardingbodymark_Dice_Pick.calls kj6 g248 t246 t257 _ _ y268 t271 t272 w _ ?side1 ?side2 ?side3 ?side4 ?side5 A61.out).mono ?_); (case side1 => repeat (first | (with_reducible first | exact HI248.out | apply IsS53.alloc | apply IsS53.drewN | apply IsS53.drew | apply IsS53.set_1 | refine IsS53.far ?_ NB248_242.out _ | refine IsS53.far ?_ NB248_243.out _ | refine IsS53.far ?_ NB248_254.out _ | refine IsS53.far ?_ NB248_255.out _) | exact HI248.out)); (case side2 => repeat (first | (with_reducible first | exact HB.out | apply below_alloc | apply pw_below_drewN | apply below_drew1 | refine below_set ?_ (IsS53.ge HI248.out) | refine below_set ?_ GE242.out | refine below_set ?_ GE243.out | refine below_set ?_ GE254.out | refine below_set ?_ GE255.out) | exact HB.out)); (case side3 => exact zD HO270); (case side4 => exact (Kd.R_reads' HO270.out).2.1); (case side5 => exact far_slice (IsS53.own_ne HI248.out HO270.out (by decide))); rintro e w65 ⟨rfl, hi, hb, hk⟩; refine ⟨_, rfl, ?_⟩; replace BK242 := zk hk BK242 NB242_248; replace BK243 := zk hk BK243 NB243_248; replace BK254 := zk hk BK254 NB254_248; replace BK255 := zk hk BK255 NB255_248; replace HO270 := za (Kd.R_mono (Kd.R_keep (IsS53.apart (show IsS53 w _ g248 t246 t257 from qfa) (by (with_reducible repeat (first | apply Kd.R_alloc | apply Kd.R_drewN | apply Kd.R_drew)); exact HO270.out) (by decide)) hk (fun _ h => h.2)) (fun _ h => h.1)); replace HB := za (hb); replace HI248 := za (hi); (try clear hb); (try clear hb2); (try clear hk); (try clear hi); have hnb66 := NB255_242.out; have hnc66 := NB242_255.out; have hnb67 := NB255_243.out; have hnc67 := NB243_255.out; have hnb68 := NB255_254.out; have hnc68 := NB254_255.out; have hnb69 := NB255_248.out; have hnc69 := NB248_255.out; obtain ⟨hcz70_0, hcz70_1, hcz70_2, hcz70_3, hfz70_0, hfz70_1, hfz70_2, hfz70_3⟩ := z4 BK255))
        go_meet
        case rel => exact ⟨_, (t272), (t249), (t250), (t271), (t252), H', ⟨by have := HJ6.out; first | omega | exact Nat.le_refl _⟩, ⟨qfb⟩, ⟨qfb⟩, ⟨qfb⟩, ⟨by (with_reducible repeat (first | refine blk_drewN ?_ _ | refine blk_drew ?_ | refine blk_alloc ?_ _)); refine blk_put (cs := #[.int .i64 t249, .int .i64 t250, .int .i64 t251, .int .i64 t252]) ?_ 2 _ rfl; (with_reducible repeat (first | refine blk_drewN ?_ _ | refine blk_drew ?_ | refine blk_alloc ?_ _)); exact BK255.out⟩, ⟨qfa⟩, ⟨zm HB⟩⟩
       ·rw [if_neg c60] at H
        have c60b0 : (t256 == 2) = false := beq_eq_false_iff_ne.mpr c60
        have c60b1 : (t256 != 2) = true := bne_iff_ne.mpr c60
        obtain ⟨y273, hy_⟩ : ∃ y_ : List Int, y_ = (([0, t251, wrap64 (t251 + 1)] : List Int)) := ⟨_, rfl⟩
        replace H : ((awardingbodymark_Dice_Pick.f kj6 t246 t257 y273).bind fun bt276 => (awardingbodylaw27_MonitorExact.j1 kj6 l2 l3 l4 a1_0 a1_1 a1_2 a1_3 l5_0 a5_1 t246 bt276.2 t249 t250 t251 t252 t249 t250 t251 bt276.1)) = some r := qfz33
        have Ny273 := za hy_; clear hy_
        replace H := Option.bind_eq_some_iff.mp H
        obtain ⟨⟨t276, t277⟩, A710, H⟩ := H
        replace H : (awardingbodylaw27_MonitorExact.j1 kj6 l2 l3 l4 a1_0 a1_1 a1_2 a1_3 l5_0 a5_1 t246 t277 t249 t250 t251 t252 t249 t250 t251 t276) = some r := H
        have A71 := za A710; clear A710; have H' := za H; clear H
        have hnb72 := NB255_242.out
        have hnc72 := NB242_255.out
        have hnb73 := NB255_243.out
        have hnc73 := NB243_255.out
        have hnb74 := NB255_254.out
        have hnc74 := NB254_255.out
        have hnb75 := NB255_248.out
        have hnc75 := NB248_255.out
        obtain ⟨hcz76_0, hcz76_1, hcz76_2, hcz76_3, hfz76_0, hfz76_1, hfz76_2, hfz76_3⟩ := z4 BK255
        go_wp2_with (first | ((with_reducible refine gate_dst (N := 75) rfl ?_); (try (refine gate_guard (by rfl) ?_; dsimp only)); refine Kd.R_lit (Kd.int .i64) _ 3 ?hg (N := 75) ?hd (xs := ([0, t251, wrap64 (t251 + 1)] : List Int)) (inner := [.int .i64 0, .int .i64 t251, .int .i64 (wrap64 (t251 + 1))]) (ok := fun _ => True) (okp := fun _ => True) ?hr ?hp (fun _ hk => hk) trivial (Below.refl _ _) (Nat.le_refl _) (by simp) ?_; (case hd => rfl); (case hg => rfl); (case hr => first | (go_simp; done) | (go_simp; rfl)); (case hp => exact (Reps.one (show Kd.M (Kd.int .i64) _ _ _ 0 [.int .i64 0] from rfl) (Reps.one (show Kd.M (Kd.int .i64) _ _ _ t251 [.int .i64 t251] from rfl) (Reps.one (show Kd.M (Kd.int .i64) _ _ _ (wrap64 (t251 + 1)) [.int .i64 (wrap64 (t251 + 1))] from rfl) (Reps.none _ _))))); intro v274 w77 ho78 hb hg_ hnew_; clear hg_ hnew_; (first | rw [← Ny273.out] at ho78 | (simp only [Int.reduceToNat] at ho78; rw [← Ny273.out] at ho78)); have HO275 := za (Kd.R_lower ho78 (below_size (zm HB))); replace BK242 := zb BK242 hb; replace BK243 := zb BK243 hb; replace HI248 := za (IsS53.below (qfa) hb); replace BK254 := zb BK254 hb; replace BK255 := zb BK255 hb; replace HB := zs HB hb; clear hb ho78; obtain ⟨Ao79, co79, eo79⟩ := Kd.R_slice HO275.out; subst eo79) | ((with_reducible refine gate_callee (f := 13) rfl ?_); refine zL (some 76) Try.func13 #[.pointer (some ⟨g248, 0, none⟩), .slice Ao79 y273.length co79] ?_; (with_reducible refine (awardingbodymark_Dice_Pick.calls kj6 g248 t246 t257 _ _ y273 t276 t277 w _ ?side1 ?side2 ?side3 ?side4 ?side5 A71.out).mono ?_); (case side1 => repeat (first | (with_reducible first | exact HI248.out | apply IsS53.alloc | apply IsS53.drewN | apply IsS53.drew | apply IsS53.set_1 | refine IsS53.far ?_ NB248_242.out _ | refine IsS53.far ?_ NB248_243.out _ | refine IsS53.far ?_ NB248_254.out _ | refine IsS53.far ?_ NB248_255.out _) | exact HI248.out)); (case side2 => repeat (first | (with_reducible first | exact HB.out | apply below_alloc | apply pw_below_drewN | apply below_drew1 | refine below_set ?_ (IsS53.ge HI248.out) | refine below_set ?_ GE242.out | refine below_set ?_ GE243.out | refine below_set ?_ GE254.out | refine below_set ?_ GE255.out) | exact HB.out)); (case side3 => exact zD HO275); (case side4 => exact (Kd.R_reads' HO275.out).2.1); (case side5 => exact far_slice (IsS53.own_ne HI248.out HO275.out (by decide))); rintro e w80 ⟨rfl, hi, hb, hk⟩; refine ⟨_, rfl, ?_⟩; replace BK242 := zk hk BK242 NB242_248; replace BK243 := zk hk BK243 NB243_248; replace BK254 := zk hk BK254 NB254_248; replace BK255 := zk hk BK255 NB255_248; replace HO275 := za (Kd.R_mono (Kd.R_keep (IsS53.apart (show IsS53 w _ g248 t246 t257 from qfa) (by (with_reducible repeat (first | apply Kd.R_alloc | apply Kd.R_drewN | apply Kd.R_drew)); exact HO275.out) (by decide)) hk (fun _ h => h.2)) (fun _ h => h.1)); replace HB := za (hb); replace HI248 := za (hi); (try clear hb); (try clear hb2); (try clear hk); (try clear hi); obtain ⟨hcz81_0, hcz81_1, hcz81_2, hcz81_3, hfz81_0, hfz81_1, hfz81_2, hfz81_3⟩ := z4 BK255))
        go_meet
        case rel => exact ⟨_, (t277), (t249), (t250), (t251), (t276), H', ⟨by have := HJ6.out; first | omega | exact Nat.le_refl _⟩, ⟨qfb⟩, ⟨qfb⟩, ⟨qfb⟩, ⟨by (with_reducible repeat (first | refine blk_drewN ?_ _ | refine blk_drew ?_ | refine blk_alloc ?_ _)); refine blk_put (cs := #[.int .i64 t249, .int .i64 t250, .int .i64 t251, .int .i64 t252]) ?_ 3 _ rfl; (with_reducible repeat (first | refine blk_drewN ?_ _ | refine blk_drew ?_ | refine blk_alloc ?_ _)); exact BK255.out⟩, ⟨qfa⟩, ⟨zm HB⟩⟩
    case rest =>
     clear HC23; (try clear c1); (try clear c2); (try clear p2); (try clear c3); (try clear c4); (try clear c5); (try clear c6); (try clear p6); (try clear c7); (try clear c8); (try clear c9); (try clear c10); (try clear c11); (try clear c12); (try clear c12b0); (try clear c12b1); (try clear c13); (try clear c13b0); (try clear c13b1); (try clear c14); (try clear c14b0); (try clear c14b1); (try clear c15); (try clear c17); (try clear c27); (try clear c28); (try clear c29); (try clear c32); (try clear c33); (try clear c34); (try clear c35); (try clear c38); (try clear c38b0); (try clear c38b1); (try clear c44); (try clear c45); (try clear c46); (try clear c47); (try clear c49); (try clear c49b0); (try clear c49b1); (try clear c55); (try clear c56); (try clear c57); (try clear c58); (try clear c60); (try clear c60b0); (try clear c60b1); (try clear p64); (try clear c66); (try clear c67); (try clear c68); (try clear c69); (try clear c72); (try clear c73); (try clear c74); (try clear c75); (try clear hcz16_0); (try clear hcz16_1); (try clear hcz30_0); (try clear hcz30_1); (try clear hcz30_2); (try clear hcz30_3); (try clear hcz36_0); (try clear hcz36_1); (try clear hcz36_2); (try clear hcz36_3); (try clear hcz48_0); (try clear hcz48_1); (try clear hcz48_2); (try clear hcz48_3); (try clear hcz59_0); (try clear hcz59_1); (try clear hcz59_2); (try clear hcz59_3); (try clear hcz70_0); (try clear hcz70_1); (try clear hcz70_2); (try clear hcz70_3); (try clear hcz76_0); (try clear hcz76_1); (try clear hcz76_2); (try clear hcz76_3); (try clear hcz81_0); (try clear hcz81_1); (try clear hcz81_2); (try clear hcz81_3); (try clear hfz16_0); (try clear hfz16_1); (try clear hfz30_0); (try clear hfz30_1); (try clear hfz30_2); (try clear hfz30_3); (try clear hfz36_0); (try clear hfz36_1); (try clear hfz36_2); (try clear hfz36_3); (try clear hfz48_0); (try clear hfz48_1); (try clear hfz48_2); (try clear hfz48_3); (try clear hfz59_0); (try clear hfz59_1); (try clear hfz59_2); (try clear hfz59_3); (try clear hfz70_0); (try clear hfz70_1); (try clear hfz70_2); (try clear hfz70_3); (try clear hfz76_0); (try clear hfz76_1); (try clear hfz76_2); (try clear hfz76_3); (try clear hfz81_0); (try clear hfz81_1); (try clear hfz81_2); (try clear hfz81_3); (try clear p2)
     obtain ⟨kq, x249001_22, x256000_22, x256001_22, x256002_22, x256003_22, HA, HJ22, BK242, BK243, BK254, BK255, HI248, HB⟩ := hcut
     cases kq with
     | zero => exact absurd HA.out (by simp [awardingbodylaw27_MonitorExact.j1])
     | succ kj22 =>
      have H := HA.out
      clear HA
      simp only [awardingbodylaw27_MonitorExact.j1] at H
      replace H := Option.bind_eq_some_iff.mp H
      obtain ⟨⟨t278, t279⟩, A820, H⟩ := H
      replace H : ((awardingbodymark_Dice_Next.f kj22 t246 t279 5).bind fun bt280 => ((awardingbodymark_Dice_Next.f kj22 t246 bt280.2 5).bind fun bt285 => ((awardingbodymark_Dice_Next.f kj22 t246 bt285.2 5).bind fun bt287 => (awardingbodylaw27_MonitorExact.l0 kj22 l2 l3 l4 (([t278, wrap64 (bt280.1 - 1)] : List Int)) (([bt285.1, wrap64 (bt287.1 - 1)] : List Int)) 0 l5_0 a5_1 t246 bt287.2 t249 t250 t251 t252 x256000_22 x256001_22 x256002_22 x256003_22 a1_0 a1_1 a1_2 a1_3)))) = some r := H
      have A82 := za A820; clear A820
      replace H := Option.bind_eq_some_iff.mp H
      obtain ⟨⟨t280, t281⟩, A830, H⟩ := H
      replace H : ((awardingbodymark_Dice_Next.f kj22 t246 t281 5).bind fun bt285 => ((awardingbodymark_Dice_Next.f kj22 t246 bt285.2 5).bind fun bt287 => (awardingbodylaw27_MonitorExact.l0 kj22 l2 l3 l4 (([t278, wrap64 (t280 - 1)] : List Int)) (([bt285.1, wrap64 (bt287.1 - 1)] : List Int)) 0 l5_0 a5_1 t246 bt287.2 t249 t250 t251 t252 x256000_22 x256001_22 x256002_22 x256003_22 a1_0 a1_1 a1_2 a1_3))) = some r := H
      have A83 := za A830; clear A830
      obtain ⟨y282, hy_⟩ : ∃ y_ : List Int, y_ = (([t278, wrap64 (t280 - 1)] : List Int)) := ⟨_, rfl⟩
      replace H : ((awardingbodymark_Dice_Next.f kj22 t246 t281 5).bind fun bt285 => ((awardingbodymark_Dice_Next.f kj22 t246 bt285.2 5).bind fun bt287 => (awardingbodylaw27_MonitorExact.l0 kj22 l2 l3 l4 y282 (([bt285.1, wrap64 (bt287.1 - 1)] : List Int)) 0 l5_0 a5_1 t246 bt287.2 t249 t250 t251 t252 x256000_22 x256001_22 x256002_22 x256003_22 a1_0 a1_1 a1_2 a1_3))) = some r := qfz33
      have Ny282 := za hy_; clear hy_
      replace H := Option.bind_eq_some_iff.mp H
      obtain ⟨⟨t285, t286⟩, A840, H⟩ := H
      replace H : ((awardingbodymark_Dice_Next.f kj22 t246 t286 5).bind fun bt287 => (awardingbodylaw27_MonitorExact.l0 kj22 l2 l3 l4 y282 (([t285, wrap64 (bt287.1 - 1)] : List Int)) 0 l5_0 a5_1 t246 bt287.2 t249 t250 t251 t252 x256000_22 x256001_22 x256002_22 x256003_22 a1_0 a1_1 a1_2 a1_3)) = some r := H
      have A84 := za A840; clear A840
      replace H := Option.bind_eq_some_iff.mp H
      obtain ⟨⟨t287, t288⟩, A850, H⟩ := H
      replace H : (awardingbodylaw27_MonitorExact.l0 kj22 l2 l3 l4 y282 (([t285, wrap64 (t287 - 1)] : List Int)) 0 l5_0 a5_1 t246 t288 t249 t250 t251 t252 x256000_22 x256001_22 x256002_22 x256003_22 a1_0 a1_1 a1_2 a1_3) = some r := H
      have A85 := za A850; clear A850
      obtain ⟨y289, hy_⟩ : ∃ y_ : List Int, y_ = (([t285, wrap64 (t287 - 1)] : List Int)) := ⟨_, rfl⟩
      replace H : (awardingbodylaw27_MonitorExact.l0 kj22 l2 l3 l4 y282 y289 0 l5_0 a5_1 t246 t288 t249 t250 t251 t252 x256000_22 x256001_22 x256002_22 x256003_22 a1_0 a1_1 a1_2 a1_3) = some r := qfz33
      have Ny289 := za hy_; clear hy_; have H' := za H; clear H
      go_wp2_with (first | ((with_reducible refine gate_callee (f := 12) rfl ?_); refine zL (some 97) Try.func12 #[.pointer (some ⟨g248, 0, none⟩), .int .i64 5] ?_; (with_reducible refine (awardingbodymark_Dice_Next.calls kj22 g248 t246 x249001_22 5 t278 t279 w _ ?side1 ?side2 A82.out).mono ?_); (case side1 => repeat (first | (with_reducible first | exact HI248.out | apply IsS53.alloc | apply IsS53.drewN | apply IsS53.drew | apply IsS53.set_1 | refine IsS53.far ?_ NB248_242.out _ | refine IsS53.far ?_ NB248_243.out _ | refine IsS53.far ?_ NB248_254.out _ | refine IsS53.far ?_ NB248_255.out _) | exact HI248.out)); (case side2 => repeat (first | (with_reducible first | exact HB.out | apply below_alloc | apply pw_below_drewN | apply below_drew1 | refine below_set ?_ (IsS53.ge HI248.out) | refine below_set ?_ GE242.out | refine below_set ?_ GE243.out | refine below_set ?_ GE254.out | refine below_set ?_ GE255.out) | exact HB.out)); rintro e w86 ⟨rfl, hi, hb, hk⟩; refine ⟨_, rfl, ?_⟩; replace BK242 := zk hk BK242 NB242_248; replace BK243 := zk hk BK243 NB243_248; replace BK254 := zk hk BK254 NB254_248; replace BK255 := zk hk BK255 NB255_248; replace HB := za (hb); replace HI248 := za (hi); (try clear hb); (try clear hb2); (try clear hk); (try clear hi)) | ((with_reducible refine gate_callee (f := 12) rfl ?_); refine zL (some 99) Try.func12 #[.pointer (some ⟨g248, 0, none⟩), .int .i64 5] ?_; (with_reducible refine (awardingbodymark_Dice_Next.calls kj22 g248 t246 t279 5 t280 t281 w _ ?side1 ?side2 A83.out).mono ?_); (case side1 => repeat (first | (with_reducible first | exact HI248.out | apply IsS53.alloc | apply IsS53.drewN | apply IsS53.drew | apply IsS53.set_1 | refine IsS53.far ?_ NB248_242.out _ | refine IsS53.far ?_ NB248_243.out _ | refine IsS53.far ?_ NB248_254.out _ | refine IsS53.far ?_ NB248_255.out _) | exact HI248.out)); (case side2 => repeat (first | (with_reducible first | exact HB.out | apply below_alloc | apply pw_below_drewN | apply below_drew1 | refine below_set ?_ (IsS53.ge HI248.out) | refine below_set ?_ GE242.out | refine below_set ?_ GE243.out | refine below_set ?_ GE254.out | refine below_set ?_ GE255.out) | exact HB.out)); rintro e w87 ⟨rfl, hi, hb, hk⟩; refine ⟨_, rfl, ?_⟩; replace BK242 := zk hk BK242 NB242_248; replace BK243 := zk hk BK243 NB243_248; replace BK254 := zk hk BK254 NB254_248; replace BK255 := zk hk BK255 NB255_248; replace HB := za (hb); replace HI248 := za (hi); (try clear hb); (try clear hb2); (try clear hk); (try clear hi)) | ((with_reducible refine gate_dst (N := 101) rfl ?_); (try (refine gate_guard (by rfl) ?_; dsimp only)); refine Kd.R_lit (Kd.int .i64) _ 3 ?hg (N := 101) ?hd (xs := ([t278, wrap64 (t280 - 1)] : List Int)) (inner := [.int .i64 t278, .int .i64 (wrap64 (t280 - 1))]) (ok := fun _ => True) (okp := fun _ => True) ?hr ?hp (fun _ hk => hk) trivial (Below.refl _ _) (Nat.le_refl _) (by simp) ?_; (case hd => rfl); (case hg => rfl); (case hr => first | (go_simp; done) | (go_simp; rfl)); (case hp => exact (Reps.one (show Kd.M (Kd.int .i64) _ _ _ t278 [.int .i64 t278] from rfl) (Reps.one (show Kd.M (Kd.int .i64) _ _ _ (wrap64 (t280 - 1)) [.int .i64 (wrap64 (t280 - 1))] from rfl) (Reps.none _ _)))); intro v283 w88 ho89 hb hg_ hnew_; clear hg_ hnew_; (first | rw [← Ny282.out] at ho89 | (simp only [Int.reduceToNat] at ho89; rw [← Ny282.out] at ho89)); have HO284 := za (Kd.R_lower ho89 (below_size (zm HB))); replace BK242 := zb BK242 hb; replace BK243 := zb BK243 hb; replace BK254 := zb BK254 hb; replace BK255 := zb BK255 hb; replace HI248 := za (IsS53.below (qfa) hb); replace HB := zs HB hb; clear hb ho89) | ((with_reducible refine gate_callee (f := 12) rfl ?_); refine zL (some 103) Try.func12 #[.pointer (some ⟨g248, 0, none⟩), .int .i64 5] ?_; (with_reducible refine (awardingbodymark_Dice_Next.calls kj22 g248 t246 t281 5 t285 t286 w _ ?side1 ?side2 A84.out).mono ?_); (case side1 => repeat (first | (with_reducible first | exact HI248.out | apply IsS53.alloc | apply IsS53.drewN | apply IsS53.drew | apply IsS53.set_1 | refine IsS53.far ?_ NB248_242.out _ | refine IsS53.far ?_ NB248_243.out _ | refine IsS53.far ?_ NB248_254.out _ | refine IsS53.far ?_ NB248_255.out _) | exact HI248.out)); (case side2 => repeat (first | (with_reducible first | exact HB.out | apply below_alloc | apply pw_below_drewN | apply below_drew1 | refine below_set ?_ (IsS53.ge HI248.out) | refine below_set ?_ GE242.out | refine below_set ?_ GE243.out | refine below_set ?_ GE254.out | refine below_set ?_ GE255.out) | exact HB.out)); rintro e w90 ⟨rfl, hi, hb, hk⟩; refine ⟨_, rfl, ?_⟩; replace BK242 := zk hk BK242 NB242_248; replace BK243 := zk hk BK243 NB243_248; replace BK254 := zk hk BK254 NB254_248; replace BK255 := zk hk BK255 NB255_248; replace HO284 := za (Kd.R_mono (Kd.R_keep (IsS53.apart (show IsS53 w _ g248 t246 t281 from qfa) qfz31 (by decide)) hk (fun _ h => h.2)) (fun _ h => h.1)); replace HB := za (hb); replace HI248 := za (hi); (try clear hb); (try clear hb2); (try clear hk); (try clear hi)) | ((with_reducible refine gate_callee (f := 12) rfl ?_); refine zL (some 105) Try.func12 #[.pointer (some ⟨g248, 0, none⟩), .int .i64 5] ?_; (with_reducible refine (awardingbodymark_Dice_Next.calls kj22 g248 t246 t286 5 t287 t288 w _ ?side1 ?side2 A85.out).mono ?_); (case side1 => repeat (first | (with_reducible first | exact HI248.out | apply IsS53.alloc | apply IsS53.drewN | apply IsS53.drew | apply IsS53.set_1 | refine IsS53.far ?_ NB248_242.out _ | refine IsS53.far ?_ NB248_243.out _ | refine IsS53.far ?_ NB248_254.out _ | refine IsS53.far ?_ NB248_255.out _) | exact HI248.out)); (case side2 => repeat (first | (with_reducible first | exact HB.out | apply below_alloc | apply pw_below_drewN | apply below_drew1 | refine below_set ?_ (IsS53.ge HI248.out) | refine below_set ?_ GE242.out | refine below_set ?_ GE243.out | refine below_set ?_ GE254.out | refine below_set ?_ GE255.out) | exact HB.out)); rintro e w91 ⟨rfl, hi, hb, hk⟩; refine ⟨_, rfl, ?_⟩; replace BK242 := zk hk BK242 NB242_248; replace BK243 := zk hk BK243 NB243_248; replace BK254 := zk hk BK254 NB254_248; replace BK255 := zk hk BK255 NB255_248; replace HO284 := za (Kd.R_mono (Kd.R_keep (IsS53.apart (show IsS53 w _ g248 t246 t286 from qfa) qfz31 (by decide)) hk (fun _ h => h.2)) (fun _ h => h.1)); replace HB := za (hb); replace HI248 := za (hi); (try clear hb); (try clear hb2); (try clear hk); (try clear hi)) | ((with_reducible refine gate_dst (N := 107) rfl ?_); (try (refine gate_guard (by rfl) ?_; dsimp only)); refine Kd.R_lit (Kd.int .i64) _ 3 ?hg (N := 107) ?hd (xs := ([t285, wrap64 (t287 - 1)] : List Int)) (inner := [.int .i64 t285, .int .i64 (wrap64 (t287 - 1))]) (ok := fun _ => True) (okp := fun _ => True) ?hr ?hp (fun _ hk => hk) trivial (Below.refl _ _) (Nat.le_refl _) (by simp) ?_; (case hd => rfl); (case hg => rfl); (case hr => first | (go_simp; done) | (go_simp; rfl)); (case hp => exact (Reps.one (show Kd.M (Kd.int .i64) _ _ _ t285 [.int .i64 t285] from rfl) (Reps.one (show Kd.M (Kd.int .i64) _ _ _ (wrap64 (t287 - 1)) [.int .i64 (wrap64 (t287 - 1))] from rfl) (Reps.none _ _)))); intro v290 w92 ho93 hb hg_ hnew_; clear hg_ hnew_; (first | rw [← Ny289.out] at ho93 | (simp only [Int.reduceToNat] at ho93; rw [← Ny289.out] at ho93)); have HO291 := za (Kd.R_lower (Kd.R_new' ho93 (Kd.R_lt qfz31)) (below_size (zm HB))); replace HO284 := za (Kd.R_elder' qfz31 (Kd.R_base ho93) hb); replace BK242 := zb BK242 hb; replace BK243 := zb BK243 hb; replace BK254 := zb BK254 hb; replace BK255 := zb BK255 hb; replace HI248 := za (IsS53.below (qfa) hb); replace HB := zs HB hb; clear hb ho93; have hnb94 := NB254_242.out; have hnc94 := NB242_254.out; have hnb95 := NB254_243.out; have hnc95 := NB243_254.out; have hnb96 := NB254_255.out; have hnc96 := NB255_254.out; have hnb97 := NB254_248.out; have hnc97 := NB248_254.out; obtain ⟨hcz98_0, hcz98_1, hcz98_2, hcz98_3, hfz98_0, hfz98_1, hfz98_2, hfz98_3⟩ := z4 BK254; have hnb99 := NB255_242.out; have hnc99 := NB242_255.out; have hnb100 := NB255_243.out; have hnc100 := NB243_255.out; have hnb101 := NB255_248.out; have hnc101 := NB248_255.out; obtain ⟨hcz102_0, hcz102_1, hcz102_2, hcz102_3, hfz102_0, hfz102_1, hfz102_2, hfz102_3⟩ := z4 BK255; have hnb103 := NB242_243.out; have hnc103 := NB243_242.out; have hnb104 := NB242_248.out; have hnc104 := NB248_242.out; obtain ⟨hcz105_0, hcz105_1, hcz105_2, hcz105_3, hfz105_0, hfz105_1, hfz105_2, hfz105_3⟩ := z4 BK242))
      go_loopg [112] kj22 (fun kq v112 w' => ∃ (x112_3 : Int) (x249001_3 : Int), v112 = .int .i64 x112_3 ∧ Aside0 (awardingbodylaw27_MonitorExact.l0 kq l2 l3 l4 y282 y289 x112_3 l5_0 a5_1 t246 x249001_3 t249 t250 t251 t252 x256000_22 x256001_22 x256002_22 x256003_22 a1_0 a1_1 a1_2 a1_3 = some r) ∧ Aside0 (kq ≤ kj22) ∧ Aside0 (Kd.R (Kd.int .i64) 3 w' w.heap.size (fun k_ => some k_ ≠ (v290 : Value).ownBlock) v283 y282) ∧ Aside0 (Kd.R (Kd.int .i64) 3 w' w.heap.size (fun k_ => some k_ ≠ (v283 : Value).ownBlock) v290 y289) ∧ Aside0 (w'.heap[gb242]? = some (.cells #[.int .i64 a1_0, .int .i64 a1_1, .int .i64 a1_2, .int .i64 a1_3] 24 (0, 0))) ∧ Aside0 (w'.heap[gb243]? = some (.cells #[(.slice A5_0 l5_0.length c5_0), .bool a5_1] 27 (0, 0))) ∧ Aside0 (w'.heap[gb254]? = some (.cells #[.int .i64 t249, .int .i64 t250, .int .i64 t251, .int .i64 t252] 24 (0, 0))) ∧ Aside0 (w'.heap[gb255]? = some (.cells #[.int .i64 x256000_22, .int .i64 x256001_22, .int .i64 x256002_22, .int .i64 x256003_22] 24 (0, 0))) ∧ Aside0 (IsS53 w w' g248 t246 x249001_3) ∧ Aside0 (Below w.heap.size w w'))
      case atStart => exact ⟨(0), (t288), qfk, H', ⟨Nat.le_refl _⟩, ⟨by (with_reducible repeat (first | apply Kd.R_alloc | apply Kd.R_drewN | apply Kd.R_drew)); exact Kd.R_mono HO284.out (fun _ hk => hk.2)⟩, ⟨by (with_reducible repeat (first | apply Kd.R_alloc | apply Kd.R_drewN | apply Kd.R_drew)); exact Kd.R_mono HO291.out (fun _ hk => hk.2)⟩, ⟨qfb⟩, ⟨qfb⟩, ⟨qfb⟩, ⟨qfb⟩, ⟨qfa⟩, ⟨zm HB⟩⟩
      case round =>
       as_aux_lemma =>
       clear H'; (try clear c1); (try clear c2); (try clear p2); (try clear c3); (try clear c4); (try clear c5); (try clear c6); (try clear p6); (try clear c7); (try clear c8); (try clear c9); (try clear c10); (try clear c11); (try clear c12); (try clear c12b0); (try clear c12b1); (try clear c13); (try clear c13b0); (try clear c13b1); (try clear c14); (try clear c14b0); (try clear c14b1); (try clear c15); (try clear c17); (try clear c27); (try clear c28); (try clear c29); (try clear c32); (try clear c33); (try clear c34); (try clear c35); (try clear c38); (try clear c38b0); (try clear c38b1); (try clear c44); (try clear c45); (try clear c46); (try clear c47); (try clear c49); (try clear c49b0); (try clear c49b1); (try clear c55); (try clear c56); (try clear c57); (try clear c58); (try clear c60); (try clear c60b0); (try clear c60b1); (try clear p64); (try clear c66); (try clear c67); (try clear c68); (try clear c69); (try clear c72); (try clear c73); (try clear c74); (try clear c75); (try clear c94); (try clear c95); (try clear c96); (try clear c97); (try clear c99); (try clear c100); (try clear c101); (try clear c103); (try clear c104); (try clear hcz102_0); (try clear hcz102_1); (try clear hcz102_2); (try clear hcz102_3); (try clear hcz105_0); (try clear hcz105_1); (try clear hcz105_2); (try clear hcz105_3); (try clear hcz16_0); (try clear hcz16_1); (try clear hcz30_0); (try clear hcz30_1); (try clear hcz30_2); (try clear hcz30_3); (try clear hcz36_0); (try clear hcz36_1); (try clear hcz36_2); (try clear hcz36_3); (try clear hcz48_0); (try clear hcz48_1); (try clear hcz48_2); (try clear hcz48_3); (try clear hcz59_0); (try clear hcz59_1); (try clear hcz59_2); (try clear hcz59_3); (try clear hcz70_0); (try clear hcz70_1); (try clear hcz70_2); (try clear hcz70_3); (try clear hcz76_0); (try clear hcz76_1); (try clear hcz76_2); (try clear hcz76_3); (try clear hcz81_0); (try clear hcz81_1); (try clear hcz81_2); (try clear hcz81_3); (try clear hcz98_0); (try clear hcz98_1); (try clear hcz98_2); (try clear hcz98_3); (try clear hfz102_0); (try clear hfz102_1); (try clear hfz102_2); (try clear hfz102_3); (try clear hfz105_0); (try clear hfz105_1); (try clear hfz105_2); (try clear hfz105_3); (try clear hfz16_0); (try clear hfz16_1); (try clear hfz30_0); (try clear hfz30_1); (try clear hfz30_2); (try clear hfz30_3); (try clear hfz36_0); (try clear hfz36_1); (try clear hfz36_2); (try clear hfz36_3); (try clear hfz48_0); (try clear hfz48_1); (try clear hfz48_2); (try clear hfz48_3); (try clear hfz59_0); (try clear hfz59_1); (try clear hfz59_2); (try clear hfz59_3); (try clear hfz70_0); (try clear hfz70_1); (try clear hfz70_2); (try clear hfz70_3); (try clear hfz76_0); (try clear hfz76_1); (try clear hfz76_2); (try clear hfz76_3); (try clear hfz81_0); (try clear hfz81_1); (try clear hfz81_2); (try clear hfz81_3); (try clear hfz98_0); (try clear hfz98_1); (try clear hfz98_2); (try clear hfz98_3); (try clear p2); (try clear p6); (try clear p64)
       obtain ⟨x112_3, x249001_3, rfl, HA, HK3, HO_16, HO_17, BK242, BK243, BK254, BK255, HI248, HB⟩ := hrel
       cases gk with
       | zero => exact absurd HA.out (by simp [awardingbodylaw27_MonitorExact.l0])
       | succ k3 =>
        have H := HA.out
        clear HA
        simp only [awardingbodylaw27_MonitorExact.l0] at H
        by_cases c106 : x112_3 < 3
        ·rw [if_pos c106] at H
         have c106b0 : decide (x112_3 < 3) = true := decide_eq_true c106
         clear c106
         by_cases c107 : 0 ≤ x112_3
         ·rw [if_pos c107] at H
          have c107b0 : decide (0 ≤ x112_3) = true := decide_eq_true c107
          clear c107
          obtain ⟨ji108, hji108⟩ : ∃ j_ : Int, (if x112_3 = 0 then t249 else if x112_3 = 1 then x256000_22 else a1_0) = j_ := ⟨_, rfl⟩
          replace H : ((monitor_Check.f (ji108) (if x112_3 = 0 then t250 else if x112_3 = 1 then x256001_22 else a1_1) (if x112_3 = 0 then t251 else if x112_3 = 1 then x256002_22 else a1_2) (if x112_3 = 0 then t252 else if x112_3 = 1 then x256003_22 else a1_3)).bind fun t295 => ((awardingbodyref27_Check.f (ji108) (if x112_3 = 0 then t250 else if x112_3 = 1 then x256001_22 else a1_1) (if x112_3 = 0 then t251 else if x112_3 = 1 then x256002_22 else a1_2) (if x112_3 = 0 then t252 else if x112_3 = 1 then x256003_22 else a1_3)).bind fun t296 => (if t295 = t296 then ((monitor_Good.f k3 (ji108) (if x112_3 = 0 then t250 else if x112_3 = 1 then x256001_22 else a1_1) (if x112_3 = 0 then t251 else if x112_3 = 1 then x256002_22 else a1_2) (if x112_3 = 0 then t252 else if x112_3 = 1 then x256003_22 else a1_3) l2 l3).bind fun t297 => ((awardingbodyref27_Good.f k3 (ji108) (if x112_3 = 0 then t250 else if x112_3 = 1 then x256001_22 else a1_1) (if x112_3 = 0 then t251 else if x112_3 = 1 then x256002_22 else a1_2) (if x112_3 = 0 then t252 else if x112_3 = 1 then x256003_22 else a1_3) l2 l3).bind fun t298 => (if (t297 != t298) = true then (none) else ((monitor_Good.f k3 (ji108) (if x112_3 = 0 then t250 else if x112_3 = 1 then x256001_22 else a1_1) (if x112_3 = 0 then t251 else if x112_3 = 1 then x256002_22 else a1_2) (if x112_3 = 0 then t252 else if x112_3 = 1 then x256003_22 else a1_3) y282 y289).bind fun t299 => ((awardingbodyref27_Good.f k3 (ji108) (if x112_3 = 0 then t250 else if x112_3 = 1 then x256001_22 else a1_1) (if x112_3 = 0 then t251 else if x112_3 = 1 then x256002_22 else a1_2) (if x112_3 = 0 then t252 else if x112_3 = 1 then x256003_22 else a1_3) y282 y289).bind fun t300 => (if (t299 != t300) = true then (none) else ((monitor_Good.f k3 (ji108) (if x112_3 = 0 then t250 else if x112_3 = 1 then x256001_22 else a1_1) (if x112_3 = 0 then t251 else if x112_3 = 1 then x256002_22 else a1_2) (if x112_3 = 0 then t252 else if x112_3 = 1 then x256003_22 else a1_3) l2 l2).bind fun t301 => ((awardingbodyref27_Good.f k3 (ji108) (if x112_3 = 0 then t250 else if x112_3 = 1 then x256001_22 else a1_1) (if x112_3 = 0 then t251 else if x112_3 = 1 then x256002_22 else a1_2) (if x112_3 = 0 then t252 else if x112_3 = 1 then x256003_22 else a1_3) l2 l2).bind fun t302 => (if (t301 != t302) = true then (none) else ((monitor_Valid.f k3 (ji108) (if x112_3 = 0 then t250 else if x112_3 = 1 then x256001_22 else a1_1) (if x112_3 = 0 then t251 else if x112_3 = 1 then x256002_22 else a1_2) (if x112_3 = 0 then t252 else if x112_3 = 1 then x256003_22 else a1_3) l5_0 a5_1).bind fun t303 => ((awardingbodyref27_Valid.f k3 (ji108) (if x112_3 = 0 then t250 else if x112_3 = 1 then x256001_22 else a1_1) (if x112_3 = 0 then t251 else if x112_3 = 1 then x256002_22 else a1_2) (if x112_3 = 0 then t252 else if x112_3 = 1 then x256003_22 else a1_3) l5_0 a5_1).bind fun t304 => (awardingbodylaw27_MonitorExact.j3 k3 l2 l3 l4 y282 y289 x112_3 (t303 != t304) l5_0 a5_1 t246 x249001_3 t249 t250 t251 t252 x256000_22 x256001_22 x256002_22 x256003_22 a1_0 a1_1 a1_2 a1_3 (ji108) (if x112_3 = 0 then t250 else if x112_3 = 1 then x256001_22 else a1_1) (if x112_3 = 0 then t251 else if x112_3 = 1 then x256002_22 else a1_2) (if x112_3 = 0 then t252 else if x112_3 = 1 then x256003_22 else a1_3))))))))))))) else (none)))) = some r := by first | (rw [hji108] at H; exact H) | (simp only [hji108] at H ⊢; exact H)
          obtain ⟨ji109, hji109⟩ : ∃ j_ : Int, (if x112_3 = 0 then t250 else if x112_3 = 1 then x256001_22 else a1_1) = j_ := ⟨_, rfl⟩
          replace H : ((monitor_Check.f (ji108) (ji109) (if x112_3 = 0 then t251 else if x112_3 = 1 then x256002_22 else a1_2) (if x112_3 = 0 then t252 else if x112_3 = 1 then x256003_22 else a1_3)).bind fun t295 => ((awardingbodyref27_Check.f (ji108) (ji109) (if x112_3 = 0 then t251 else if x112_3 = 1 then x256002_22 else a1_2) (if x112_3 = 0 then t252 else if x112_3 = 1 then x256003_22 else a1_3)).bind fun t296 => (if t295 = t296 then ((monitor_Good.f k3 (ji108) (ji109) (if x112_3 = 0 then t251 else if x112_3 = 1 then x256002_22 else a1_2) (if x112_3 = 0 then t252 else if x112_3 = 1 then x256003_22 else a1_3) l2 l3).bind fun t297 => ((awardingbodyref27_Good.f k3 (ji108) (ji109) (if x112_3 = 0 then t251 else if x112_3 = 1 then x256002_22 else a1_2) (if x112_3 = 0 then t252 else if x112_3 = 1 then x256003_22 else a1_3) l2 l3).bind fun t298 => (if (t297 != t298) = true then (none) else ((monitor_Good.f k3 (ji108) (ji109) (if x112_3 = 0 then t251 else if x112_3 = 1 then x256002_22 else a1_2) (if x112_3 = 0 then t252 else if x112_3 = 1 then x256003_22 else a1_3) y282 y289).bind fun t299 => ((awardingbodyref27_Good.f k3 (ji108) (ji109) (if x112_3 = 0 then t251 else if x112_3 = 1 then x256002_22 else a1_2) (if x112_3 = 0 then t252 else if x112_3 = 1 then x256003_22 else a1_3) y282 y289).bind fun t300 => (if (t299 != t300) = true then (none) else ((monitor_Good.f k3 (ji108) (ji109) (if x112_3 = 0 then t251 else if x112_3 = 1 then x256002_22 else a1_2) (if x112_3 = 0 then t252 else if x112_3 = 1 then x256003_22 else a1_3) l2 l2).bind fun t301 => ((awardingbodyref27_Good.f k3 (ji108) (ji109) (if x112_3 = 0 then t251 else if x112_3 = 1 then x256002_22 else a1_2) (if x112_3 = 0 then t252 else if x112_3 = 1 then x256003_22 else a1_3) l2 l2).bind fun t302 => (if (t301 != t302) = true then (none) else ((monitor_Valid.f k3 (ji108) (ji109) (if x112_3 = 0 then t251 else if x112_3 = 1 then x256002_22 else a1_2) (if x112_3 = 0 then t252 else if x112_3 = 1 then x256003_22 else a1_3) l5_0 a5_1).bind fun t303 => ((awardingbodyref27_Valid.f k3 (ji108) (ji109) (if x112_3 = 0 then t251 else if x112_3 = 1 then x256002_22 else a1_2) (if x112_3 = 0 then t252 else if x112_3 = 1 then x256003_22 else a1_3) l5_0 a5_1).bind fun t304 => (awardingbodylaw27_MonitorExact.j3 k3 l2 l3 l4 y282 y289 x112_3 (t303 != t304) l5_0 a5_1 t246 x249001_3 t249 t250 t251 t252 x256000_22 x256001_22 x256002_22 x256003_22 a1_0 a1_1 a1_2 a1_3 (ji108) (ji109) (if x112_3 = 0 then t251 else if x112_3 = 1 then x256002_22 else a1_2) (if x112_3 = 0 then t252 else if x112_3 = 1 then x256003_22 else a1_3))))))))))))) else (none)))) = some r := by first | (rw [hji109] at H; exact H) | (simp only [hji109] at H ⊢; exact H)
          obtain ⟨ji110, hji110⟩ : ∃ j_ : Int, (if x112_3 = 0 then t251 else if x112_3 = 1 then x256002_22 else a1_2) = j_ := ⟨_, rfl⟩
          replace H : ((monitor_Check.f (ji108) (ji109) (ji110) (if x112_3 = 0 then t252 else if x112_3 = 1 then x256003_22 else a1_3)).bind fun t295 => ((awardingbodyref27_Check.f (ji108) (ji109) (ji110) (if x112_3 = 0 then t252 else if x112_3 = 1 then x256003_22 else a1_3)).bind fun t296 => (if t295 = t296 then ((monitor_Good.f k3 (ji108) (ji109) (ji110) (if x112_3 = 0 then t252 else if x112_3 = 1 then x256003_22 else a1_3) l2 l3).bind fun t297 => ((awardingbodyref27_Good.f k3 (ji108) (ji109) (ji110) (if x112_3 = 0 then t252 else if x112_3 = 1 then x256003_22 else a1_3) l2 l3).bind fun t298 => (if (t297 != t298) = true then (none) else ((monitor_Good.f k3 (ji108) (ji109) (ji110) (if x112_3 = 0 then t252 else if x112_3 = 1 then x256003_22 else a1_3) y282 y289).bind fun t299 => ((awardingbodyref27_Good.f k3 (ji108) (ji109) (ji110) (if x112_3 = 0 then t252 else if x112_3 = 1 then x256003_22 else a1_3) y282 y289).bind fun t300 => (if (t299 != t300) = true then (none) else ((monitor_Good.f k3 (ji108) (ji109) (ji110) (if x112_3 = 0 then t252 else if x112_3 = 1 then x256003_22 else a1_3) l2 l2).bind fun t301 => ((awardingbodyref27_Good.f k3 (ji108) (ji109) (ji110) (if x112_3 = 0 then t252 else if x112_3 = 1 then x256003_22 else a1_3) l2 l2).bind fun t302 => (if (t301 != t302) = true then (none) else ((monitor_Valid.f k3 (ji108) (ji109) (ji110) (if x112_3 = 0 then t252 else if x112_3 = 1 then x256003_22 else a1_3) l5_0 a5_1).bind fun t303 => ((awardingbodyref27_Valid.f k3 (ji108) (ji109) (ji110) (if x112_3 = 0 then t252 else if x112_3 = 1 then x256003_22 else a1_3) l5_0 a5_1).bind fun t304 => (awardingbodylaw27_MonitorExact.j3 k3 l2 l3 l4 y282 y289 x112_3 (t303 != t304) l5_0 a5_1 t246 x249001_3 t249 t250 t251 t252 x256000_22 x256001_22 x256002_22 x256003_22 a1_0 a1_1 a1_2 a1_3 (ji108) (ji109) (ji110) (if x112_3 = 0 then t252 else if x112_3 = 1 then x256003_22 else a1_3))))))))))))) else (none)))) = some r := by first | (rw [hji110] at H; exact H) | (simp only [hji110] at H ⊢; exact H)
          obtain ⟨ji111, hji111⟩ : ∃ j_ : Int, (if x112_3 = 0 then t252 else if x112_3 = 1 then x256003_22 else a1_3) = j_ := ⟨_, rfl⟩
          replace H : ((monitor_Check.f (ji108) (ji109) (ji110) (ji111)).bind fun t295 => ((awardingbodyref27_Check.f (ji108) (ji109) (ji110) (ji111)).bind fun t296 => (if t295 = t296 then ((monitor_Good.f k3 (ji108) (ji109) (ji110) (ji111) l2 l3).bind fun t297 => ((awardingbodyref27_Good.f k3 (ji108) (ji109) (ji110) (ji111) l2 l3).bind fun t298 => (if (t297 != t298) = true then (none) else ((monitor_Good.f k3 (ji108) (ji109) (ji110) (ji111) y282 y289).bind fun t299 => ((awardingbodyref27_Good.f k3 (ji108) (ji109) (ji110) (ji111) y282 y289).bind fun t300 => (if (t299 != t300) = true then (none) else ((monitor_Good.f k3 (ji108) (ji109) (ji110) (ji111) l2 l2).bind fun t301 => ((awardingbodyref27_Good.f k3 (ji108) (ji109) (ji110) (ji111) l2 l2).bind fun t302 => (if (t301 != t302) = true then (none) else ((monitor_Valid.f k3 (ji108) (ji109) (ji110) (ji111) l5_0 a5_1).bind fun t303 => ((awardingbodyref27_Valid.f k3 (ji108) (ji109) (ji110) (ji111) l5_0 a5_1).bind fun t304 => (awardingbodylaw27_MonitorExact.j3 k3 l2 l3 l4 y282 y289 x112_3 (t303 != t304) l5_0 a5_1 t246 x249001_3 t249 t250 t251 t252 x256000_22 x256001_22 x256002_22 x256003_22 a1_0 a1_1 a1_2 a1_3 (ji108) (ji109) (ji110) (ji111))))))))))))) else (none)))) = some r := by first | (rw [hji111] at H; exact H) | (simp only [hji111] at H ⊢; exact H)
          have HC112 := za H; clear H
          have hai113 : ∀ W : World, (Instr.index 35 (.agg #[.int .i64 t249, .int .i64 t250, .int .i64 t251, .int .i64 t252, .int .i64 x256000_22, .int .i64 x256001_22, .int .i64 x256002_22, .int .i64 x256003_22, .int .i64 a1_0, .int .i64 a1_1, .int .i64 a1_2, .int .i64 a1_3]) (.int .i64 x112_3)).run Try.prog W = .ok (.agg #[.int .i64 (ji108), .int .i64 (ji109), .int .i64 (ji110), .int .i64 (ji111)]) W := by have h0_ : 0 ≤ (x112_3 : Int) := of_decide_eq_true (by first | (with_reducible assumption) | assumption); have h1_ : (x112_3 : Int) < 3 := of_decide_eq_true (by first | (with_reducible assumption) | assumption); have h2_ : (x112_3 : Int) = 0 ∨ (x112_3 : Int) = 1 ∨ (x112_3 : Int) = 2 ∨ (x112_3 : Int) = 3 := (by omega); rcases h2_ with h_ | h_ | h_ | h_ <;> (first | omega | (intro W; rw [← hji108]; rw [← hji109]; rw [← hji110]; rw [← hji111]; rw [h_]; rfl))
          clear hji108 hji109 hji110 hji111
          go_upto_region 18 with (first | ((with_reducible refine gate_dst (N := 19) rfl ?_); (try (refine gate_guard (by rfl) ?_; dsimp only)); refine zE 19 #[.int .i64 0, .int .i64 0, .int .i64 0, .int .i64 0] 24 ?_; intro gb294 hg w114 hbox hb; have BK294 := za (hbox); have GW294 := zg HB hg; have GE294 := zg HB hg; have NB242_294 := zl BK242 hg; have NB294_242 := zr BK242 hg; have NB243_294 := zl BK243 hg; have NB294_243 := zr BK243 hg; have NB254_294 := zl BK254 hg; have NB294_254 := zr BK254 hg; have NB255_294 := zl BK255 hg; have NB294_255 := zr BK255 hg; have NB248_294 := za ((by rw [hg]; exact Nat.ne_of_lt (IsS53.lt (show IsS53 w _ g248 t246 x249001_3 from qfa)) : g248 ≠ gb294)); have NB294_248 := za ((by rw [hg]; exact Nat.ne_of_gt (IsS53.lt (show IsS53 w _ g248 t246 x249001_3 from qfa)) : gb294 ≠ g248)); replace HO_16 := zR HO_16 hb; replace HO_17 := zR HO_17 hb; replace BK242 := zb BK242 hb; replace BK243 := zb BK243 hb; replace BK254 := zb BK254 hb; replace BK255 := zb BK255 hb; replace HI248 := za (IsS53.below (qfa) hb); replace HB := zs HB hb; clear hb hbox hg; have hnb115 := NB294_242.out; have hnc115 := NB242_294.out; have hnb116 := NB294_243.out; have hnc116 := NB243_294.out; have hnb117 := NB294_254.out; have hnc117 := NB254_294.out; have hnb118 := NB294_255.out; have hnc118 := NB255_294.out; have hnb119 := NB294_248.out; have hnc119 := NB248_294.out; obtain ⟨hcz120_0, hcz120_1, hcz120_2, hcz120_3, hfz120_0, hfz120_1, hfz120_2, hfz120_3⟩ := z4 BK294))
          (try simp only [Act.put, List.setIfInBounds_toArray, List.set_cons_zero, List.set_cons_succ])
          go_cut [161] (fun v161 wc => ∃ (kq : Nat) (x161_111 : Bool), v161 = .bool x161_111 ∧ Aside0 (awardingbodylaw27_MonitorExact.j3 kq l2 l3 l4 y282 y289 x112_3 x161_111 l5_0 a5_1 t246 x249001_3 t249 t250 t251 t252 x256000_22 x256001_22 x256002_22 x256003_22 a1_0 a1_1 a1_2 a1_3 (ji108) (ji109) (ji110) (ji111) = some r) ∧ Aside0 (kq ≤ k3) ∧ Aside0 (Kd.R (Kd.int .i64) 3 wc w.heap.size (fun k_ => some k_ ≠ (v290 : Value).ownBlock) v283 y282) ∧ Aside0 (Kd.R (Kd.int .i64) 3 wc w.heap.size (fun k_ => some k_ ≠ (v283 : Value).ownBlock) v290 y289) ∧ Aside0 (wc.heap[gb242]? = some (.cells #[.int .i64 a1_0, .int .i64 a1_1, .int .i64 a1_2, .int .i64 a1_3] 24 (0, 0))) ∧ Aside0 (wc.heap[gb243]? = some (.cells #[(.slice A5_0 l5_0.length c5_0), .bool a5_1] 27 (0, 0))) ∧ Aside0 (wc.heap[gb254]? = some (.cells #[.int .i64 t249, .int .i64 t250, .int .i64 t251, .int .i64 t252] 24 (0, 0))) ∧ Aside0 (wc.heap[gb255]? = some (.cells #[.int .i64 x256000_22, .int .i64 x256001_22, .int .i64 x256002_22, .int .i64 x256003_22] 24 (0, 0))) ∧ Aside0 (wc.heap[gb294]? = some (.cells #[.int .i64 (ji108), .int .i64 (ji109), .int .i64 (ji110), .int .i64 (ji111)] 24 (0, 0))) ∧ Aside0 (IsS53 w wc g248 t246 x249001_3) ∧ Aside0 (Below w.heap.size w wc))
          case first =>
           as_aux_lemma =>
           have H := HC112.out
           clear HC112
           replace H := Option.bind_eq_some_iff.mp H
           obtain ⟨t295, A1210, H⟩ := H
           replace H : ((awardingbodyref27_Check.f (ji108) (ji109) (ji110) (ji111)).bind fun t296 => (if t295 = t296 then ((monitor_Good.f k3 (ji108) (ji109) (ji110) (ji111) l2 l3).bind fun t297 => ((awardingbodyref27_Good.f k3 (ji108) (ji109) (ji110) (ji111) l2 l3).bind fun t298 => (if (t297 != t298) = true then (none) else ((monitor_Good.f k3 (ji108) (ji109) (ji110) (ji111) y282 y289).bind fun t299 => ((awardingbodyref27_Good.f k3 (ji108) (ji109) (ji110) (ji111) y282 y289).bind fun t300 => (if (t299 != t300) = true then (none) else ((monitor_Good.f k3 (ji108) (ji109) (ji110) (ji111) l2 l2).bind fun t301 => ((awardingbodyref27_Good.f k3 (ji108) (ji109) (ji110) (ji111) l2 l2).bind fun t302 => (if (t301 != t302) = true then (none) else ((monitor_Valid.f k3 (ji108) (ji109) (ji110) (ji111) l5_0 a5_1).bind fun t303 => ((awardingbodyref27_Valid.f k3 (ji108) (ji109) (ji110) (ji111) l5_0 a5_1).bind fun t304 => (awardingbodylaw27_MonitorExact.j3 k3 l2 l3 l4 y282 y289 x112_3 (t303 != t304) l5_0 a5_1 t246 x249001_3 t249 t250 t251 t252 x256000_22 x256001_22 x256002_22 x256003_22 a1_0 a1_1 a1_2 a1_3 (ji108) (ji109) (ji110) (ji111))))))))))))) else (none))) = some r := H
           have A121 := za A1210; clear A1210
           replace H := Option.bind_eq_some_iff.mp H
           obtain ⟨t296, A1220, H⟩ := H
           replace H : (if t295 = t296 then ((monitor_Good.f k3 (ji108) (ji109) (ji110) (ji111) l2 l3).bind fun t297 => ((awardingbodyref27_Good.f k3 (ji108) (ji109) (ji110) (ji111) l2 l3).bind fun t298 => (if (t297 != t298) = true then (none) else ((monitor_Good.f k3 (ji108) (ji109) (ji110) (ji111) y282 y289).bind fun t299 => ((awardingbodyref27_Good.f k3 (ji108) (ji109) (ji110) (ji111) y282 y289).bind fun t300 => (if (t299 != t300) = true then (none) else ((monitor_Good.f k3 (ji108) (ji109) (ji110) (ji111) l2 l2).bind fun t301 => ((awardingbodyref27_Good.f k3 (ji108) (ji109) (ji110) (ji111) l2 l2).bind fun t302 => (if (t301 != t302) = true then (none) else ((monitor_Valid.f k3 (ji108) (ji109) (ji110) (ji111) l5_0 a5_1).bind fun t303 => ((awardingbodyref27_Valid.f k3 (ji108) (ji109) (ji110) (ji111) l5_0 a5_1).bind fun t304 => (awardingbodylaw27_MonitorExact.j3 k3 l2 l3 l4 y282 y289 x112_3 (t303 != t304) l5_0 a5_1 t246 x249001_3 t249 t250 t251 t252 x256000_22 x256001_22 x256002_22 x256003_22 a1_0 a1_1 a1_2 a1_3 (ji108) (ji109) (ji110) (ji111))))))))))))) else (none)) = some r := H
           have A122 := za A1220; clear A1220
           by_cases c123 : t295 = t296
           ·rw [if_pos c123] at H
            have c123b0 : (t295 == t296) = true := beq_iff_eq.mpr c123
            have c123b1 : (t295 != t296) = false := bne_eq_false_iff_eq.mpr c123
            clear c123
            (first | rw [c123b0] | (simp only [i64_w, i32_w]; rw [c123b0]) | skip)
            replace H := Option.bind_eq_some_iff.mp H
            obtain ⟨t297, A1240, H⟩ := H
            replace H : ((awardingbodyref27_Good.f k3 (ji108) (ji109) (ji110) (ji111) l2 l3).bind fun t298 => (if (t297 != t298) = true then (none) else ((monitor_Good.f k3 (ji108) (ji109) (ji110) (ji111) y282 y289).bind fun t299 => ((awardingbodyref27_Good.f k3 (ji108) (ji109) (ji110) (ji111) y282 y289).bind fun t300 => (if (t299 != t300) = true then (none) else ((monitor_Good.f k3 (ji108) (ji109) (ji110) (ji111) l2 l2).bind fun t301 => ((awardingbodyref27_Good.f k3 (ji108) (ji109) (ji110) (ji111) l2 l2).bind fun t302 => (if (t301 != t302) = true then (none) else ((monitor_Valid.f k3 (ji108) (ji109) (ji110) (ji111) l5_0 a5_1).bind fun t303 => ((awardingbodyref27_Valid.f k3 (ji108) (ji109) (ji110) (ji111) l5_0 a5_1).bind fun t304 => (awardingbodylaw27_MonitorExact.j3 k3 l2 l3 l4 y282 y289 x112_3 (t303 != t304) l5_0 a5_1 t246 x249001_3 t249 t250 t251 t252 x256000_22 x256001_22 x256002_22 x256003_22 a1_0 a1_1 a1_2 a1_3 (ji108) (ji109) (ji110) (ji111)))))))))))) = some r := H
            have A124 := za A1240; clear A1240
            replace H := Option.bind_eq_some_iff.mp H
            obtain ⟨t298, A1250, H⟩ := H
            replace H : (if (t297 != t298) = true then (none) else ((monitor_Good.f k3 (ji108) (ji109) (ji110) (ji111) y282 y289).bind fun t299 => ((awardingbodyref27_Good.f k3 (ji108) (ji109) (ji110) (ji111) y282 y289).bind fun t300 => (if (t299 != t300) = true then (none) else ((monitor_Good.f k3 (ji108) (ji109) (ji110) (ji111) l2 l2).bind fun t301 => ((awardingbodyref27_Good.f k3 (ji108) (ji109) (ji110) (ji111) l2 l2).bind fun t302 => (if (t301 != t302) = true then (none) else ((monitor_Valid.f k3 (ji108) (ji109) (ji110) (ji111) l5_0 a5_1).bind fun t303 => ((awardingbodyref27_Valid.f k3 (ji108) (ji109) (ji110) (ji111) l5_0 a5_1).bind fun t304 => (awardingbodylaw27_MonitorExact.j3 k3 l2 l3 l4 y282 y289 x112_3 (t303 != t304) l5_0 a5_1 t246 x249001_3 t249 t250 t251 t252 x256000_22 x256001_22 x256002_22 x256003_22 a1_0 a1_1 a1_2 a1_3 (ji108) (ji109) (ji110) (ji111))))))))))) = some r := H
            have A125 := za A1250; clear A1250
            by_cases c126 : (t297 != t298) = true
            ·rw [if_pos c126] at H
             have c126b0 : (t297 != t298) = true := c126
             (try (have c126b1 : decide (t297 = t298) = false := by simpa using c126))
             (try (have c126b2 : (t297 == t298) = false := by simpa using c126))
             (try (have c126b3 : ¬ (t297 = t298) := by simpa using c126))
             clear c126
             exact absurd H (by simp)
            ·rw [if_neg c126] at H
             have c126b0 : (t297 != t298) = false := by simpa using c126
             (try (have c126b1 : decide (t297 = t298) = true := by simpa using c126))
             (try (have c126b2 : (t297 == t298) = true := by simpa using c126))
             clear c126
             replace H := Option.bind_eq_some_iff.mp H
             obtain ⟨t299, A1270, H⟩ := H
             replace H : ((awardingbodyref27_Good.f k3 (ji108) (ji109) (ji110) (ji111) y282 y289).bind fun t300 => (if (t299 != t300) = true then (none) else ((monitor_Good.f k3 (ji108) (ji109) (ji110) (ji111) l2 l2).bind fun t301 => ((awardingbodyref27_Good.f k3 (ji108) (ji109) (ji110) (ji111) l2 l2).bind fun t302 => (if (t301 != t302) = true then (none) else ((monitor_Valid.f k3 (ji108) (ji109) (ji110) (ji111) l5_0 a5_1).bind fun t303 => ((awardingbodyref27_Valid.f k3 (ji108) (ji109) (ji110) (ji111) l5_0 a5_1).bind fun t304 => (awardingbodylaw27_MonitorExact.j3 k3 l2 l3 l4 y282 y289 x112_3 (t303 != t304) l5_0 a5_1 t246 x249001_3 t249 t250 t251 t252 x256000_22 x256001_22 x256002_22 x256003_22 a1_0 a1_1 a1_2 a1_3 (ji108) (ji109) (ji110) (ji111))))))))) = some r := H
             have A127 := za A1270; clear A1270
             replace H := Option.bind_eq_some_iff.mp H
             obtain ⟨t300, A1280, H⟩ := H
             replace H : (if (t299 != t300) = true then (none) else ((monitor_Good.f k3 (ji108) (ji109) (ji110) (ji111) l2 l2).bind fun t301 => ((awardingbodyref27_Good.f k3 (ji108) (ji109) (ji110) (ji111) l2 l2).bind fun t302 => (if (t301 != t302) = true then (none) else ((monitor_Valid.f k3 (ji108) (ji109) (ji110) (ji111) l5_0 a5_1).bind fun t303 => ((awardingbodyref27_Valid.f k3 (ji108) (ji109) (ji110) (ji111) l5_0 a5_1).bind fun t304 => (awardingbodylaw27_MonitorExact.j3 k3 l2 l3 l4 y282 y289 x112_3 (t303 != t304) l5_0 a5_1 t246 x249001_3 t249 t250 t251 t252 x256000_22 x256001_22 x256002_22 x256003_22 a1_0 a1_1 a1_2 a1_3 (ji108) (ji109) (ji110) (ji111)))))))) = some r := H
             have A128 := za A1280; clear A1280
             by_cases c129 : (t299 != t300) = true
             ·rw [if_pos c129] at H
              have c129b0 : (t299 != t300) = true := c129
              (try (have c129b1 : decide (t299 = t300) = false := by simpa using c129))
              (try (have c129b2 : (t299 == t300) = false := by simpa using c129))
              (try (have c129b3 : ¬ (t299 = t300) := by simpa using c129))
              clear c129
              exact absurd H (by simp)
             ·rw [if_neg c129] at H
              have c129b0 : (t299 != t300) = false := by simpa using c129
              (try (have c129b1 : decide (t299 = t300) = true := by simpa using c129))
              (try (have c129b2 : (t299 == t300) = true := by simpa using c129))
              clear c129
              replace H := Option.bind_eq_some_iff.mp H
              obtain ⟨t301, A1300, H⟩ := H
              replace H : ((awardingbodyref27_Good.f k3 (ji108) (ji109) (ji110) (ji111) l2 l2).bind fun t302 => (if (t301 != t302) = true then (none) else ((monitor_Valid.f k3 (ji108) (ji109) (ji110) (ji111) l5_0 a5_1).bind fun t303 => ((awardingbodyref27_Valid.f k3 (ji108) (ji109) (ji110) (ji111) l5_0 a5_1).bind fun t304 => (awardingbodylaw27_MonitorExact.j3 k3 l2 l3 l4 y282 y289 x112_3 (t303 != t304) l5_0 a5_1 t246 x249001_3 t249 t250 t251 t252 x256000_22 x256001_22 x256002_22 x256003_22 a1_0 a1_1 a1_2 a1_3 (ji108) (ji109) (ji110) (ji111)))))) = some r := H
              have A130 := za A1300; clear A1300
              replace H := Option.bind_eq_some_iff.mp H
              obtain ⟨t302, A1310, H⟩ := H
              replace H : (if (t301 != t302) = true then (none) else ((monitor_Valid.f k3 (ji108) (ji109) (ji110) (ji111) l5_0 a5_1).bind fun t303 => ((awardingbodyref27_Valid.f k3 (ji108) (ji109) (ji110) (ji111) l5_0 a5_1).bind fun t304 => (awardingbodylaw27_MonitorExact.j3 k3 l2 l3 l4 y282 y289 x112_3 (t303 != t304) l5_0 a5_1 t246 x249001_3 t249 t250 t251 t252 x256000_22 x256001_22 x256002_22 x256003_22 a1_0 a1_1 a1_2 a1_3 (ji108) (ji109) (ji110) (ji111))))) = some r := H
              have A131 := za A1310; clear A1310
              by_cases c132 : (t301 != t302) = true
              ·rw [if_pos c132] at H
               have c132b0 : (t301 != t302) = true := c132
               (try (have c132b1 : decide (t301 = t302) = false := by simpa using c132))
               (try (have c132b2 : (t301 == t302) = false := by simpa using c132))
               (try (have c132b3 : ¬ (t301 = t302) := by simpa using c132))
               clear c132
               exact absurd H (by simp)
              ·rw [if_neg c132] at H
               have c132b0 : (t301 != t302) = false := by simpa using c132
               (try (have c132b1 : decide (t301 = t302) = true := by simpa using c132))
               (try (have c132b2 : (t301 == t302) = true := by simpa using c132))
               clear c132
               replace H := Option.bind_eq_some_iff.mp H
               obtain ⟨t303, A1330, H⟩ := H
               replace H : ((awardingbodyref27_Valid.f k3 (ji108) (ji109) (ji110) (ji111) l5_0 a5_1).bind fun t304 => (awardingbodylaw27_MonitorExact.j3 k3 l2 l3 l4 y282 y289 x112_3 (t303 != t304) l5_0 a5_1 t246 x249001_3 t249 t250 t251 t252 x256000_22 x256001_22 x256002_22 x256003_22 a1_0 a1_1 a1_2 a1_3 (ji108) (ji109) (ji110) (ji111))) = some r := H
               have A133 := za A1330; clear A1330
               replace H := Option.bind_eq_some_iff.mp H
               obtain ⟨t304, A1340, H⟩ := H
               replace H : (awardingbodylaw27_MonitorExact.j3 k3 l2 l3 l4 y282 y289 x112_3 (t303 != t304) l5_0 a5_1 t246 x249001_3 t249 t250 t251 t252 x256000_22 x256001_22 x256002_22 x256003_22 a1_0 a1_1 a1_2 a1_3 (ji108) (ji109) (ji110) (ji111)) = some r := H
               have A134 := za A1340; clear A1340; have H' := za H; clear H
               try go_wp2
               have n0_ : Aside0 (Kd.R (Kd.int .i64) 3 ((((w114.setCell ⟨gb294, 0, none⟩ (.int .i64 (ji108))).setCell ⟨gb294, 1, none⟩ (.int .i64 (ji109))).setCell ⟨gb294, 2, none⟩ (.int .i64 (ji110))).setCell ⟨gb294, 3, none⟩ (.int .i64 (ji111))) w.heap.size (fun k_ => some k_ ≠ (v290 : Value).ownBlock) v283 y282) := ⟨by (with_reducible repeat (first | apply Kd.R_alloc | apply Kd.R_drewN | apply Kd.R_drew)); exact Kd.R_mono (Kd.R_far (p := ⟨gb294, 3, none⟩) (Kd.R_far (p := ⟨gb294, 2, none⟩) (Kd.R_far (p := ⟨gb294, 1, none⟩) (Kd.R_far (p := ⟨gb294, 0, none⟩) (Kd.R_types HO_16.out BK294.out (by decide)) (fun _ hk => hk.2) (.int .i64 (ji108))) (fun _ hk => hk.2) (.int .i64 (ji109))) (fun _ hk => hk.2) (.int .i64 (ji110))) (fun _ hk => hk.2) (.int .i64 (ji111))) (fun _ hk => hk.1)⟩
               have n1_ : Aside0 (Kd.R (Kd.int .i64) 3 ((((w114.setCell ⟨gb294, 0, none⟩ (.int .i64 (ji108))).setCell ⟨gb294, 1, none⟩ (.int .i64 (ji109))).setCell ⟨gb294, 2, none⟩ (.int .i64 (ji110))).setCell ⟨gb294, 3, none⟩ (.int .i64 (ji111))) w.heap.size (fun k_ => some k_ ≠ (v283 : Value).ownBlock) v290 y289) := ⟨by (with_reducible repeat (first | apply Kd.R_alloc | apply Kd.R_drewN | apply Kd.R_drew)); exact Kd.R_mono (Kd.R_far (p := ⟨gb294, 3, none⟩) (Kd.R_far (p := ⟨gb294, 2, none⟩) (Kd.R_far (p := ⟨gb294, 1, none⟩) (Kd.R_far (p := ⟨gb294, 0, none⟩) (Kd.R_types HO_17.out BK294.out (by decide)) (fun _ hk => hk.2) (.int .i64 (ji108))) (fun _ hk => hk.2) (.int .i64 (ji109))) (fun _ hk => hk.2) (.int .i64 (ji110))) (fun _ hk => hk.2) (.int .i64 (ji111))) (fun _ hk => hk.1)⟩
               have n2_ : Aside0 (((((w114.setCell ⟨gb294, 0, none⟩ (.int .i64 (ji108))).setCell ⟨gb294, 1, none⟩ (.int .i64 (ji109))).setCell ⟨gb294, 2, none⟩ (.int .i64 (ji110))).setCell ⟨gb294, 3, none⟩ (.int .i64 (ji111))).heap[gb242]? = some (.cells #[.int .i64 a1_0, .int .i64 a1_1, .int .i64 a1_2, .int .i64 a1_3] 24 (0, 0))) := ⟨qfb⟩
               have n3_ : Aside0 (((((w114.setCell ⟨gb294, 0, none⟩ (.int .i64 (ji108))).setCell ⟨gb294, 1, none⟩ (.int .i64 (ji109))).setCell ⟨gb294, 2, none⟩ (.int .i64 (ji110))).setCell ⟨gb294, 3, none⟩ (.int .i64 (ji111))).heap[gb243]? = some (.cells #[.slice A5_0 l5_0.length c5_0, .bool a5_1] 27 (0, 0))) := ⟨qfb⟩
               have n4_ : Aside0 (((((w114.setCell ⟨gb294, 0, none⟩ (.int .i64 (ji108))).setCell ⟨gb294, 1, none⟩ (.int .i64 (ji109))).setCell ⟨gb294, 2, none⟩ (.int .i64 (ji110))).setCell ⟨gb294, 3, none⟩ (.int .i64 (ji111))).heap[gb254]? = some (.cells #[.int .i64 t249, .int .i64 t250, .int .i64 t251, .int .i64 t252] 24 (0, 0))) := ⟨qfb⟩
               have n5_ : Aside0 (((((w114.setCell ⟨gb294, 0, none⟩ (.int .i64 (ji108))).setCell ⟨gb294, 1, none⟩ (.int .i64 (ji109))).setCell ⟨gb294, 2, none⟩ (.int .i64 (ji110))).setCell ⟨gb294, 3, none⟩ (.int .i64 (ji111))).heap[gb255]? = some (.cells #[.int .i64 x256000_22, .int .i64 x256001_22, .int .i64 x256002_22, .int .i64 x256003_22] 24 (0, 0))) := ⟨qfb⟩
               have n6_ : Aside0 (((((w114.setCell ⟨gb294, 0, none⟩ (.int .i64 (ji108))).setCell ⟨gb294, 1, none⟩ (.int .i64 (ji109))).setCell ⟨gb294, 2, none⟩ (.int .i64 (ji110))).setCell ⟨gb294, 3, none⟩ (.int .i64 (ji111))).heap[gb294]? = some (.cells #[.int .i64 (ji108), .int .i64 (ji109), .int .i64 (ji110), .int .i64 (ji111)] 24 (0, 0))) := ⟨by (with_reducible repeat (first | refine blk_drewN ?_ _ | refine blk_drew ?_ | refine blk_alloc ?_ _)); refine blk_put (cs := #[.int .i64 (ji108), .int .i64 (ji109), .int .i64 (ji110), .int .i64 0]) ?_ 3 _ rfl; (with_reducible repeat (first | refine blk_drewN ?_ _ | refine blk_drew ?_ | refine blk_alloc ?_ _)); refine blk_put (cs := #[.int .i64 (ji108), .int .i64 (ji109), .int .i64 0, .int .i64 0]) ?_ 2 _ rfl; (with_reducible repeat (first | refine blk_drewN ?_ _ | refine blk_drew ?_ | refine blk_alloc ?_ _)); refine blk_put (cs := #[.int .i64 (ji108), .int .i64 0, .int .i64 0, .int .i64 0]) ?_ 1 _ rfl; (with_reducible repeat (first | refine blk_drewN ?_ _ | refine blk_drew ?_ | refine blk_alloc ?_ _)); refine blk_put (cs := #[.int .i64 0, .int .i64 0, .int .i64 0, .int .i64 0]) ?_ 0 _ rfl; (with_reducible repeat (first | refine blk_drewN ?_ _ | refine blk_drew ?_ | refine blk_alloc ?_ _)); exact BK294.out⟩
               have n7_ : Aside0 (IsS53 w ((((w114.setCell ⟨gb294, 0, none⟩ (.int .i64 (ji108))).setCell ⟨gb294, 1, none⟩ (.int .i64 (ji109))).setCell ⟨gb294, 2, none⟩ (.int .i64 (ji110))).setCell ⟨gb294, 3, none⟩ (.int .i64 (ji111))) g248 t246 x249001_3) := ⟨qfa⟩
               have n8_ : Aside0 (Below w.heap.size w ((((w114.setCell ⟨gb294, 0, none⟩ (.int .i64 (ji108))).setCell ⟨gb294, 1, none⟩ (.int .i64 (ji109))).setCell ⟨gb294, 2, none⟩ (.int .i64 (ji110))).setCell ⟨gb294, 3, none⟩ (.int .i64 (ji111)))) := ⟨zm HB⟩
               (try clear HO_16)
               (try clear HO_17)
               (try clear BK242)
               (try clear BK243)
               (try clear BK254)
               (try clear BK255)
               (try clear BK294)
               (try clear HI248)
               (try clear HB)
               generalize ((((w114.setCell ⟨gb294, 0, none⟩ (.int .i64 (ji108))).setCell ⟨gb294, 1, none⟩ (.int .i64 (ji109))).setCell ⟨gb294, 2, none⟩ (.int .i64 (ji110))).setCell ⟨gb294, 3, none⟩ (.int .i64 (ji111))) = w135 at n0_ n1_ n2_ n3_ n4_ n5_ n6_ n7_ n8_ ⊢
               have HO_16 := n0_; have HO_17 := n1_; have BK242 := n2_; have BK243 := n3_; have BK254 := n4_; have BK255 := n5_; have BK294 := n6_; have HI248 := n7_; have HB := n8_; clear n0_ n1_ n2_ n3_ n4_ n5_ n6_ n7_ n8_
               replace HO_16 := za (Kd.R_drew HO_16.out)
               replace HO_17 := za (Kd.R_drew HO_17.out)
               replace BK242 := za (blk_drew BK242.out)
               replace BK243 := za (blk_drew BK243.out)
               replace BK254 := za (blk_drew BK254.out)
               replace BK255 := za (blk_drew BK255.out)
               replace BK294 := za (blk_drew BK294.out)
               replace HI248 := za (IsS53.drew HI248.out)
               replace HB := za (below_drew1 HB.out)
               refine start_ (n := 47) (S := fun w' => w'.cell? ⟨gb294, 0, none⟩ = some (.int .i64 (ji108)) ∧ w'.cell? ⟨gb294, 1, none⟩ = some (.int .i64 (ji109)) ∧ w'.cell? ⟨gb294, 2, none⟩ = some (.int .i64 (ji110)) ∧ w'.cell? ⟨gb294, 3, none⟩ = some (.int .i64 (ji111)) ∧ w'.cell? ⟨gb243, 0, none⟩ = some (.slice A5_0 l5_0.length c5_0) ∧ w'.cell? ⟨gb243, 1, none⟩ = some (.bool a5_1)) (ds := []) #[false, false, false, false, false, false, false, false, false, false, false, false, false, false, false, false, false, false, false, false, false, false, false, false, false, false, false, false, false, false, false, false, false, false, false, false, false, false, false, false, false, false, false, false, false, false, false] (by kernel_rfl) rfl rfl ⟨(blk_cell BK294.out 0).trans rfl, (blk_cell BK294.out 1).trans rfl, (blk_cell BK294.out 2).trans rfl, (blk_cell BK294.out 3).trans rfl, (blk_cell BK243.out 0).trans rfl, (blk_cell BK243.out 1).trans rfl⟩ (fun hHeld => ?_); refine with_tabW awardingbodylaw27_MonitorExact.tab18 awardingbodylaw27_MonitorExact.bits18 (fun HT_ HW_ => ?_)
               generalize w135.drew = w136 at HO_16 HO_17 BK242 BK243 BK254 BK255 BK294 HI248 HB hHeld ⊢
               refine take_ (i := 0) (N := some 115) (v := ?_) (a' := ?_) #[true, false, false, false, false, false, false, false, false, false, false, false, false, false, false, false, false, false, false, false, false, false, false, false, false, false, false, false, false, false, false, false, false, false, false, false, false, false, false, false, false, false, false, false, false, false, false] rfl rfl (take_ofW HT_.out HW_.out (by kernel_rfl)) (fun _ _ _ h => h) (Or.inl ⟨by rfl, ?_⟩) hHeld ?_ ?_
               rotate_left
               ·rintro w' ⟨s0, s1, s2, s3, s4, s5⟩
                go_simp
                with_reducible rfl
               rotate_left
               ·simp only [Act.put, List.setIfInBounds_toArray, List.set_cons_zero, List.set_cons_succ, i64_w, i32_w]
                rfl
               refine take_ (i := 2) (N := some 117) (v := ?_) (a' := ?_) #[true, false, true, false, false, false, false, false, false, false, false, false, false, false, false, false, false, false, false, false, false, false, false, false, false, false, false, false, false, false, false, false, false, false, false, false, false, false, false, false, false, false, false, false, false, false, false] rfl rfl (take_ofW HT_.out HW_.out (by kernel_rfl)) (fun _ _ _ h => h) (Or.inl ⟨by rfl, ?_⟩) hHeld ?_ ?_
               rotate_left
               ·rintro w' ⟨s0, s1, s2, s3, s4, s5⟩
                go_simp
                with_reducible rfl
               rotate_left
               ·simp only [Act.put, List.setIfInBounds_toArray, List.set_cons_zero, List.set_cons_succ, i64_w, i32_w]
                rfl
               refine one_ (i := 1) (N := some 116) #[true, true, true, false, false, false, false, false, false, false, false, false, false, false, false, false, false, false, false, false, false, false, false, false, false, false, false, false, false, false, false, false, false, false, false, false, false, false, false, false, false, false, false, false, false, false, false] rfl rfl (one_of HT_.out (by kernel_rfl)) (by decide) (fun K hK => ?_)
               refine goes_ Try.func14 (by kernel_rfl) rfl #[.agg #[.int .i64 (ji108), .int .i64 (ji109), .int .i64 (ji110), .int .i64 (ji111)]] (by rfl) rfl rfl qfc ?_
               with_reducible refine (monitor_Check.calls (ji108) (ji109) (ji110) (ji111) t295 _ A121.out).mono ?_
               rintro e w137 ⟨rfl, hb⟩
               refine ⟨_, rfl, ?_⟩
               replace HO_16 := zR HO_16 hb
               replace HO_17 := zR HO_17 hb
               replace BK242 := zb BK242 hb
               replace BK243 := zb BK243 hb
               replace BK254 := zb BK254 hb
               replace BK255 := zb BK255 hb
               replace HI248 := za (IsS53.below (qfa) hb)
               replace BK294 := zb BK294 hb
               replace HB := zs HB hb
               (try clear hb)
               (try clear hb2)
               (try clear hk)
               (try clear hi)
               refine hK.out _ _ ⟨(blk_cell BK294.out 0).trans rfl, (blk_cell BK294.out 1).trans rfl, (blk_cell BK294.out 2).trans rfl, (blk_cell BK294.out 3).trans rfl, (blk_cell BK243.out 0).trans rfl, (blk_cell BK243.out 1).trans rfl⟩ (fun hHeld => ?_)
               clear hK K
               refine norm_ (a' := ?_) ?_ ?_
               rotate_left
               ·show Act.put _ (some 116) _ = _
                simp only [Act.put, List.setIfInBounds_toArray, List.set_cons_zero, List.set_cons_succ, i64_w, i32_w]
                rfl
               refine one_ (i := 3) (N := some 118) #[true, true, true, true, false, false, false, false, false, false, false, false, false, false, false, false, false, false, false, false, false, false, false, false, false, false, false, false, false, false, false, false, false, false, false, false, false, false, false, false, false, false, false, false, false, false, false] rfl rfl (one_of HT_.out (by kernel_rfl)) (by decide) (fun K hK => ?_)
               refine goes_ Try.func15 (by kernel_rfl) rfl #[.agg #[.int .i64 (ji108), .int .i64 (ji109), .int .i64 (ji110), .int .i64 (ji111)]] (by rfl) rfl rfl qfc ?_
               with_reducible refine (awardingbodyref27_Check.calls (ji108) (ji109) (ji110) (ji111) t296 _ A122.out).mono ?_
               rintro e w138 ⟨rfl, hb⟩
               refine ⟨_, rfl, ?_⟩
               replace HO_16 := zR HO_16 hb
               replace HO_17 := zR HO_17 hb
               replace BK242 := zb BK242 hb
               replace BK243 := zb BK243 hb
               replace BK254 := zb BK254 hb
               replace BK255 := zb BK255 hb
               replace HI248 := za (IsS53.below (qfa) hb)
               replace BK294 := zb BK294 hb
               replace HB := zs HB hb
               (try clear hb)
               (try clear hb2)
               (try clear hk)
               (try clear hi)
               refine hK.out _ _ ⟨(blk_cell BK294.out 0).trans rfl, (blk_cell BK294.out 1).trans rfl, (blk_cell BK294.out 2).trans rfl, (blk_cell BK294.out 3).trans rfl, (blk_cell BK243.out 0).trans rfl, (blk_cell BK243.out 1).trans rfl⟩ (fun hHeld => ?_)
               clear hK K
               refine norm_ (a' := ?_) ?_ ?_
               rotate_left
               ·show Act.put _ (some 118) _ = _
                simp only [Act.put, List.setIfInBounds_toArray, List.set_cons_zero, List.set_cons_succ, i64_w, i32_w]
                rfl
               refine pure_ (i := 4) (N := some 119) (v := ?_) (a' := ?_) #[true, true, true, true, true, false, false, false, false, false, false, false, false, false, false, false, false, false, false, false, false, false, false, false, false, false, false, false, false, false, false, false, false, false, false, false, false, false, false, false, false, false, false, false, false, false, false] rfl rfl (any_of HT_.out (by kernel_rfl)) (fun _ _ _ h => h) (Or.inl ⟨by rfl, ?_⟩) ?_ ?_
               rotate_left
               ·intro w'
                go_simp
                with_reducible rfl
               rotate_left
               ·simp only [Act.put, List.setIfInBounds_toArray, List.set_cons_zero, List.set_cons_succ, i64_w, i32_w]
                rfl
               refine pure_ (i := 5) (N := some 120) (v := ?_) (a' := ?_) #[true, true, true, true, true, true, false, false, false, false, false, false, false, false, false, false, false, false, false, false, false, false, false, false, false, false, false, false, false, false, false, false, false, false, false, false, false, false, false, false, false, false, false, false, false, false, false] rfl rfl (any_of HT_.out (by kernel_rfl)) (fun _ _ _ h => h) (Or.inl ⟨by rfl, ?_⟩) ?_ ?_
               rotate_left
               ·intro w'
                go_simp
                with_reducible rfl
               rotate_left
               ·simp only [Act.put, List.setIfInBounds_toArray, List.set_cons_zero, List.set_cons_succ, i64_w, i32_w]
                rfl
               refine pure_ (i := 7) (N := some 122) (v := ?_) (a' := ?_) #[true, true, true, true, true, true, false, true, false, false, false, false, false, false, false, false, false, false, false, false, false, false, false, false, false, false, false, false, false, false, false, false, false, false, false, false, false, false, false, false, false, false, false, false, false, false, false] rfl rfl (any_of HT_.out (by kernel_rfl)) (fun _ _ _ h => h) (Or.inl ⟨by rfl, ?_⟩) ?_ ?_
               rotate_left
               ·intro w'
                go_simp
                with_reducible rfl
               rotate_left
               ·simp only [Act.put, List.setIfInBounds_toArray, List.set_cons_zero, List.set_cons_succ, i64_w, i32_w]
                rfl
               refine pure_ (i := 8) (N := some 123) (v := ?_) (a' := ?_) #[true, true, true, true, true, true, false, true, true, false, false, false, false, false, false, false, false, false, false, false, false, false, false, false, false, false, false, false, false, false, false, false, false, false, false, false, false, false, false, false, false, false, false, false, false, false, false] rfl rfl (any_of HT_.out (by kernel_rfl)) (fun _ _ _ h => h) (Or.inl ⟨by rfl, ?_⟩) ?_ ?_
               rotate_left
               ·intro w'
                go_simp
                with_reducible rfl
               rotate_left
               ·simp only [Act.put, List.setIfInBounds_toArray, List.set_cons_zero, List.set_cons_succ, i64_w, i32_w]
                rfl
               refine pure_ (i := 11) (N := some 126) (v := ?_) (a' := ?_) #[true, true, true, true, true, true, false, true, true, false, false, true, false, false, false, false, false, false, false, false, false, false, false, false, false, false, false, false, false, false, false, false, false, false, false, false, false, false, false, false, false, false, false, false, false, false, false] rfl rfl (any_of HT_.out (by kernel_rfl)) (fun _ _ _ h => h) (Or.inl ⟨by rfl, ?_⟩) ?_ ?_
               rotate_left
               ·intro w'
                go_simp
                with_reducible rfl
               rotate_left
               ·simp only [Act.put, List.setIfInBounds_toArray, List.set_cons_zero, List.set_cons_succ, i64_w, i32_w]
                rfl
               refine pure_ (i := 12) (N := some 127) (v := ?_) (a' := ?_) #[true, true, true, true, true, true, false, true, true, false, false, true, true, false, false, false, false, false, false, false, false, false, false, false, false, false, false, false, false, false, false, false, false, false, false, false, false, false, false, false, false, false, false, false, false, false, false] rfl rfl (any_of HT_.out (by kernel_rfl)) (fun _ _ _ h => h) (Or.inl ⟨by rfl, ?_⟩) ?_ ?_
               rotate_left
               ·intro w'
                go_simp
                with_reducible rfl
               rotate_left
               ·simp only [Act.put, List.setIfInBounds_toArray, List.set_cons_zero, List.set_cons_succ, i64_w, i32_w]
                rfl
               refine take_ (i := 6) (N := some 121) (v := ?_) (a' := ?_) #[true, true, true, true, true, true, true, true, true, false, false, true, true, false, false, false, false, false, false, false, false, false, false, false, false, false, false, false, false, false, false, false, false, false, false, false, false, false, false, false, false, false, false, false, false, false, false] rfl rfl (take_ofW HT_.out HW_.out (by kernel_rfl)) (fun _ _ _ h => h) (Or.inl ⟨by rfl, ?_⟩) hHeld ?_ ?_
               rotate_left
               ·rintro w' ⟨s0, s1, s2, s3, s4, s5⟩
                go_simp
                with_reducible rfl
               rotate_left
               ·simp only [Act.put, List.setIfInBounds_toArray, List.set_cons_zero, List.set_cons_succ, i64_w, i32_w]
                rfl
               refine take_ (i := 10) (N := some 125) (v := ?_) (a' := ?_) #[true, true, true, true, true, true, true, true, true, false, true, true, true, false, false, false, false, false, false, false, false, false, false, false, false, false, false, false, false, false, false, false, false, false, false, false, false, false, false, false, false, false, false, false, false, false, false] rfl rfl (take_ofW HT_.out HW_.out (by kernel_rfl)) (fun _ _ _ h => h) (Or.inl ⟨by rfl, ?_⟩) hHeld ?_ ?_
               rotate_left
               ·rintro w' ⟨s0, s1, s2, s3, s4, s5⟩
                go_simp
                with_reducible rfl
               rotate_left
               ·simp only [Act.put, List.setIfInBounds_toArray, List.set_cons_zero, List.set_cons_succ, i64_w, i32_w]
                rfl
               refine one_ (i := 9) (N := some 124) #[true, true, true, true, true, true, true, true, true, true, true, true, true, false, false, false, false, false, false, false, false, false, false, false, false, false, false, false, false, false, false, false, false, false, false, false, false, false, false, false, false, false, false, false, false, false, false] rfl rfl (one_of HT_.out (by kernel_rfl)) (by decide) (fun K hK => ?_)
               refine goes_ Try.func16 (by kernel_rfl) rfl #[.agg #[.int .i64 (ji108), .int .i64 (ji109), .int .i64 (ji110), .int .i64 (ji111)], .slice A2 l2.length c2, .slice A3 l3.length c3] (by rfl) rfl rfl qfc ?_
               with_reducible refine (monitor_Good.calls k3 (ji108) (ji109) (ji110) (ji111) _ _ l2 _ _ l3 t297 _ ?side1 ?side2 ?side3 ?side4 A124.out).mono ?_
               (case side1 => exact zC HR2 HB)
               (case side2 => exact HC2.out)
               (case side3 => exact zC HR3 HB)
               (case side4 => exact HC3.out)
               rintro e w139 ⟨rfl, hb⟩
               refine ⟨_, rfl, ?_⟩
               replace HO_16 := zR HO_16 hb
               replace HO_17 := zR HO_17 hb
               replace BK242 := zb BK242 hb
               replace BK243 := zb BK243 hb
               replace BK254 := zb BK254 hb
               replace BK255 := zb BK255 hb
               replace HI248 := za (IsS53.below (qfa) hb)
               replace BK294 := zb BK294 hb
               replace HB := zs HB hb
               (try clear hb)
               (try clear hb2)
               (try clear hk)
               (try clear hi)
               refine hK.out _ _ ⟨(blk_cell BK294.out 0).trans rfl, (blk_cell BK294.out 1).trans rfl, (blk_cell BK294.out 2).trans rfl, (blk_cell BK294.out 3).trans rfl, (blk_cell BK243.out 0).trans rfl, (blk_cell BK243.out 1).trans rfl⟩ (fun hHeld => ?_)
               clear hK K
               refine norm_ (a' := ?_) ?_ ?_
               rotate_left
               ·show Act.put _ (some 124) _ = _
                simp only [Act.put, List.setIfInBounds_toArray, List.set_cons_zero, List.set_cons_succ, i64_w, i32_w]
                rfl
               refine one_ (i := 13) (N := some 128) #[true, true, true, true, true, true, true, true, true, true, true, true, true, true, false, false, false, false, false, false, false, false, false, false, false, false, false, false, false, false, false, false, false, false, false, false, false, false, false, false, false, false, false, false, false, false, false] rfl rfl (one_of HT_.out (by kernel_rfl)) (by decide) (fun K hK => ?_)
               refine goes_ Try.func17 (by kernel_rfl) rfl #[.agg #[.int .i64 (ji108), .int .i64 (ji109), .int .i64 (ji110), .int .i64 (ji111)], .slice A2 l2.length c2, .slice A3 l3.length c3] (by rfl) rfl rfl qfc ?_
               with_reducible refine (awardingbodyref27_Good.calls k3 (ji108) (ji109) (ji110) (ji111) _ _ l2 _ _ l3 t298 _ ?side1 ?side2 ?side3 ?side4 A125.out).mono ?_
               (case side1 => exact zC HR2 HB)
               (case side2 => exact HC2.out)
               (case side3 => exact zC HR3 HB)
               (case side4 => exact HC3.out)
               rintro e w140 ⟨rfl, hb⟩
               refine ⟨_, rfl, ?_⟩
               replace HO_16 := zR HO_16 hb
               replace HO_17 := zR HO_17 hb
               replace BK242 := zb BK242 hb
               replace BK243 := zb BK243 hb
               replace BK254 := zb BK254 hb
               replace BK255 := zb BK255 hb
               replace HI248 := za (IsS53.below (qfa) hb)
               replace BK294 := zb BK294 hb
               replace HB := zs HB hb
               (try clear hb)
               (try clear hb2)
               (try clear hk)
               (try clear hi)
               obtain ⟨Ao141, co141, eo141⟩ := Kd.R_slice HO_16.out
               (first | subst eo141 | (injection eo141 with f1_ f2_ f3_; have f4_ := f1_.symm; have f5_ := f3_.symm; clear f1_ f2_ f3_; subst f4_; subst f5_))
               obtain ⟨Ao142, co142, eo142⟩ := Kd.R_slice HO_17.out
               (first | subst eo142 | (injection eo142 with f1_ f2_ f3_; have f4_ := f1_.symm; have f5_ := f3_.symm; clear f1_ f2_ f3_; subst f4_; subst f5_))
               refine hK.out _ _ ⟨(blk_cell BK294.out 0).trans rfl, (blk_cell BK294.out 1).trans rfl, (blk_cell BK294.out 2).trans rfl, (blk_cell BK294.out 3).trans rfl, (blk_cell BK243.out 0).trans rfl, (blk_cell BK243.out 1).trans rfl⟩ (fun hHeld => ?_)
               clear hK K
               refine norm_ (a' := ?_) ?_ ?_
               rotate_left
               ·show Act.put _ (some 128) _ = _
                simp only [Act.put, List.setIfInBounds_toArray, List.set_cons_zero, List.set_cons_succ, i64_w, i32_w]
                rfl
               refine pure_ (i := 14) (N := some 129) (v := ?_) (a' := ?_) #[true, true, true, true, true, true, true, true, true, true, true, true, true, true, true, false, false, false, false, false, false, false, false, false, false, false, false, false, false, false, false, false, false, false, false, false, false, false, false, false, false, false, false, false, false, false, false] rfl rfl (any_of HT_.out (by kernel_rfl)) (fun _ _ _ h => h) (Or.inl ⟨by rfl, ?_⟩) ?_ ?_
               rotate_left
               ·intro w'
                go_simp
                with_reducible rfl
               rotate_left
               ·simp only [Act.put, List.setIfInBounds_toArray, List.set_cons_zero, List.set_cons_succ, i64_w, i32_w]
                rfl
               refine pure_ (i := 15) (N := some 130) (v := ?_) (a' := ?_) #[true, true, true, true, true, true, true, true, true, true, true, true, true, true, true, true, false, false, false, false, false, false, false, false, false, false, false, false, false, false, false, false, false, false, false, false, false, false, false, false, false, false, false, false, false, false, false] rfl rfl (any_of HT_.out (by kernel_rfl)) (fun _ _ _ h => h) (Or.inl ⟨by rfl, ?_⟩) ?_ ?_
               rotate_left
               ·intro w'
                go_simp
                with_reducible rfl
               rotate_left
               ·simp only [Act.put, List.setIfInBounds_toArray, List.set_cons_zero, List.set_cons_succ, i64_w, i32_w]
                rfl
               refine pure_ (i := 16) (N := some 131) (v := ?_) (a' := ?_) #[true, true, true, true, true, true, true, true, true, true, true, true, true, true, true, true, true, false, false, false, false, false, false, false, false, false, false, false, false, false, false, false, false, false, false, false, false, false, false, false, false, false, false, false, false, false, false] rfl rfl (any_of HT_.out (by kernel_rfl)) (fun _ _ _ h => h) (Or.inl ⟨by rfl, ?_⟩) ?_ ?_
               rotate_left
               ·intro w'
                go_simp
                with_reducible rfl
               rotate_left
               ·simp only [Act.put, List.setIfInBounds_toArray, List.set_cons_zero, List.set_cons_succ, i64_w, i32_w]
                rfl
               refine pure_ (i := 18) (N := some 133) (v := ?_) (a' := ?_) #[true, true, true, true, true, true, true, true, true, true, true, true, true, true, true, true, true, false, true, false, false, false, false, false, false, false, false, false, false, false, false, false, false, false, false, false, false, false, false, false, false, false, false, false, false, false, false] rfl rfl (any_of HT_.out (by kernel_rfl)) (fun _ _ _ h => h) (Or.inl ⟨by rfl, ?_⟩) ?_ ?_
               rotate_left
               ·intro w'
                go_simp
                with_reducible rfl
               rotate_left
               ·simp only [Act.put, List.setIfInBounds_toArray, List.set_cons_zero, List.set_cons_succ, i64_w, i32_w]
                rfl
               refine pure_ (i := 19) (N := some 134) (v := ?_) (a' := ?_) #[true, true, true, true, true, true, true, true, true, true, true, true, true, true, true, true, true, false, true, true, false, false, false, false, false, false, false, false, false, false, false, false, false, false, false, false, false, false, false, false, false, false, false, false, false, false, false] rfl rfl (any_of HT_.out (by kernel_rfl)) (fun _ _ _ h => h) (Or.inl ⟨by rfl, ?_⟩) ?_ ?_
               rotate_left
               ·intro w'
                go_simp
                with_reducible rfl
               rotate_left
               ·simp only [Act.put, List.setIfInBounds_toArray, List.set_cons_zero, List.set_cons_succ, i64_w, i32_w]
                rfl
               refine pure_ (i := 22) (N := some 137) (v := ?_) (a' := ?_) #[true, true, true, true, true, true, true, true, true, true, true, true, true, true, true, true, true, false, true, true, false, false, true, false, false, false, false, false, false, false, false, false, false, false, false, false, false, false, false, false, false, false, false, false, false, false, false] rfl rfl (any_of HT_.out (by kernel_rfl)) (fun _ _ _ h => h) (Or.inl ⟨by rfl, ?_⟩) ?_ ?_
               rotate_left
               ·intro w'
                go_simp
                with_reducible rfl
               rotate_left
               ·simp only [Act.put, List.setIfInBounds_toArray, List.set_cons_zero, List.set_cons_succ, i64_w, i32_w]
                rfl
               refine pure_ (i := 23) (N := some 138) (v := ?_) (a' := ?_) #[true, true, true, true, true, true, true, true, true, true, true, true, true, true, true, true, true, false, true, true, false, false, true, true, false, false, false, false, false, false, false, false, false, false, false, false, false, false, false, false, false, false, false, false, false, false, false] rfl rfl (any_of HT_.out (by kernel_rfl)) (fun _ _ _ h => h) (Or.inl ⟨by rfl, ?_⟩) ?_ ?_
               rotate_left
               ·intro w'
                go_simp
                with_reducible rfl
               rotate_left
               ·simp only [Act.put, List.setIfInBounds_toArray, List.set_cons_zero, List.set_cons_succ, i64_w, i32_w]
                rfl
               refine take_ (i := 17) (N := some 132) (v := ?_) (a' := ?_) #[true, true, true, true, true, true, true, true, true, true, true, true, true, true, true, true, true, true, true, true, false, false, true, true, false, false, false, false, false, false, false, false, false, false, false, false, false, false, false, false, false, false, false, false, false, false, false] rfl rfl (take_ofW HT_.out HW_.out (by kernel_rfl)) (fun _ _ _ h => h) (Or.inl ⟨by rfl, ?_⟩) hHeld ?_ ?_
               rotate_left
               ·rintro w' ⟨s0, s1, s2, s3, s4, s5⟩
                go_simp
                with_reducible rfl
               rotate_left
               ·simp only [Act.put, List.setIfInBounds_toArray, List.set_cons_zero, List.set_cons_succ, i64_w, i32_w]
                rfl
               refine take_ (i := 21) (N := some 136) (v := ?_) (a' := ?_) #[true, true, true, true, true, true, true, true, true, true, true, true, true, true, true, true, true, true, true, true, false, true, true, true, false, false, false, false, false, false, false, false, false, false, false, false, false, false, false, false, false, false, false, false, false, false, false] rfl rfl (take_ofW HT_.out HW_.out (by kernel_rfl)) (fun _ _ _ h => h) (Or.inl ⟨by rfl, ?_⟩) hHeld ?_ ?_
               rotate_left
               ·rintro w' ⟨s0, s1, s2, s3, s4, s5⟩
                go_simp
                with_reducible rfl
               rotate_left
               ·simp only [Act.put, List.setIfInBounds_toArray, List.set_cons_zero, List.set_cons_succ, i64_w, i32_w]
                rfl
               refine one_ (i := 20) (N := some 135) #[true, true, true, true, true, true, true, true, true, true, true, true, true, true, true, true, true, true, true, true, true, true, true, true, false, false, false, false, false, false, false, false, false, false, false, false, false, false, false, false, false, false, false, false, false, false, false] rfl rfl (one_of HT_.out (by kernel_rfl)) (by decide) (fun K hK => ?_)
               refine goes_ Try.func16 (by kernel_rfl) rfl #[.agg #[.int .i64 (ji108), .int .i64 (ji109), .int .i64 (ji110), .int .i64 (ji111)], .slice Ao141 y282.length co141, .slice Ao142 y289.length co142] (by rfl) rfl rfl qfc ?_
               with_reducible refine (monitor_Good.calls k3 (ji108) (ji109) (ji110) (ji111) _ _ y282 _ _ y289 t299 _ ?side1 ?side2 ?side3 ?side4 A127.out).mono ?_
               (case side1 => exact zD HO_16)
               (case side2 => exact (Kd.R_reads' HO_16.out).2.1)
               (case side3 => exact zD HO_17)
               (case side4 => exact (Kd.R_reads' HO_17.out).2.1)
               rintro e w143 ⟨rfl, hb⟩
               refine ⟨_, rfl, ?_⟩
               replace HO_16 := zR HO_16 hb
               replace HO_17 := zR HO_17 hb
               replace BK242 := zb BK242 hb
               replace BK243 := zb BK243 hb
               replace BK254 := zb BK254 hb
               replace BK255 := zb BK255 hb
               replace HI248 := za (IsS53.below (qfa) hb)
               replace BK294 := zb BK294 hb
               replace HB := zs HB hb
               (try clear hb)
               (try clear hb2)
               (try clear hk)
               (try clear hi)
               refine hK.out _ _ ⟨(blk_cell BK294.out 0).trans rfl, (blk_cell BK294.out 1).trans rfl, (blk_cell BK294.out 2).trans rfl, (blk_cell BK294.out 3).trans rfl, (blk_cell BK243.out 0).trans rfl, (blk_cell BK243.out 1).trans rfl⟩ (fun hHeld => ?_)
               clear hK K
               refine norm_ (a' := ?_) ?_ ?_
               rotate_left
               ·show Act.put _ (some 135) _ = _
                simp only [Act.put, List.setIfInBounds_toArray, List.set_cons_zero, List.set_cons_succ, i64_w, i32_w]
                rfl
               refine one_ (i := 24) (N := some 139) #[true, true, true, true, true, true, true, true, true, true, true, true, true, true, true, true, true, true, true, true, true, true, true, true, true, false, false, false, false, false, false, false, false, false, false, false, false, false, false, false, false, false, false, false, false, false, false] rfl rfl (one_of HT_.out (by kernel_rfl)) (by decide) (fun K hK => ?_)
               refine goes_ Try.func17 (by kernel_rfl) rfl #[.agg #[.int .i64 (ji108), .int .i64 (ji109), .int .i64 (ji110), .int .i64 (ji111)], .slice Ao141 y282.length co141, .slice Ao142 y289.length co142] (by rfl) rfl rfl qfc ?_
               with_reducible refine (awardingbodyref27_Good.calls k3 (ji108) (ji109) (ji110) (ji111) _ _ y282 _ _ y289 t300 _ ?side1 ?side2 ?side3 ?side4 A128.out).mono ?_
               (case side1 => exact zD HO_16)
               (case side2 => exact (Kd.R_reads' HO_16.out).2.1)
               (case side3 => exact zD HO_17)
               (case side4 => exact (Kd.R_reads' HO_17.out).2.1)
               rintro e w144 ⟨rfl, hb⟩
               refine ⟨_, rfl, ?_⟩
               replace HO_16 := zR HO_16 hb
               replace HO_17 := zR HO_17 hb
               replace BK242 := zb BK242 hb
               replace BK243 := zb BK243 hb
               replace BK254 := zb BK254 hb
               replace BK255 := zb BK255 hb
               replace HI248 := za (IsS53.below (qfa) hb)
               replace BK294 := zb BK294 hb
               replace HB := zs HB hb
               (try clear hb)
               (try clear hb2)
               (try clear hk)
               (try clear hi)
               refine hK.out _ _ ⟨(blk_cell BK294.out 0).trans rfl, (blk_cell BK294.out 1).trans rfl, (blk_cell BK294.out 2).trans rfl, (blk_cell BK294.out 3).trans rfl, (blk_cell BK243.out 0).trans rfl, (blk_cell BK243.out 1).trans rfl⟩ (fun hHeld => ?_)
               clear hK K
               refine norm_ (a' := ?_) ?_ ?_
               rotate_left
               ·show Act.put _ (some 139) _ = _
                simp only [Act.put, List.setIfInBounds_toArray, List.set_cons_zero, List.set_cons_succ, i64_w, i32_w]
                rfl
               refine pure_ (i := 25) (N := some 140) (v := ?_) (a' := ?_) #[true, true, true, true, true, true, true, true, true, true, true, true, true, true, true, true, true, true, true, true, true, true, true, true, true, true, false, false, false, false, false, false, false, false, false, false, false, false, false, false, false, false, false, false, false, false, false] rfl rfl (any_of HT_.out (by kernel_rfl)) (fun _ _ _ h => h) (Or.inl ⟨by rfl, ?_⟩) ?_ ?_
               rotate_left
               ·intro w'
                go_simp
                with_reducible rfl
               rotate_left
               ·simp only [Act.put, List.setIfInBounds_toArray, List.set_cons_zero, List.set_cons_succ, i64_w, i32_w]
                rfl
               refine pure_ (i := 26) (N := some 141) (v := ?_) (a' := ?_) #[true, true, true, true, true, true, true, true, true, true, true, true, true, true, true, true, true, true, true, true, true, true, true, true, true, true, true, false, false, false, false, false, false, false, false, false, false, false, false, false, false, false, false, false, false, false, false] rfl rfl (any_of HT_.out (by kernel_rfl)) (fun _ _ _ h => h) (Or.inl ⟨by rfl, ?_⟩) ?_ ?_
               rotate_left
               ·intro w'
                go_simp
                with_reducible rfl
               rotate_left
               ·simp only [Act.put, List.setIfInBounds_toArray, List.set_cons_zero, List.set_cons_succ, i64_w, i32_w]
                rfl
               refine pure_ (i := 27) (N := some 142) (v := ?_) (a' := ?_) #[true, true, true, true, true, true, true, true, true, true, true, true, true, true, true, true, true, true, true, true, true, true, true, true, true, true, true, true, false, false, false, false, false, false, false, false, false, false, false, false, false, false, false, false, false, false, false] rfl rfl (any_of HT_.out (by kernel_rfl)) (fun _ _ _ h => h) (Or.inl ⟨by rfl, ?_⟩) ?_ ?_
               rotate_left
               ·intro w'
                go_simp
                with_reducible rfl
               rotate_left
               ·simp only [Act.put, List.setIfInBounds_toArray, List.set_cons_zero, List.set_cons_succ, i64_w, i32_w]
                rfl
               refine pure_ (i := 29) (N := some 144) (v := ?_) (a' := ?_) #[true, true, true, true, true, true, true, true, true, true, true, true, true, true, true, true, true, true, true, true, true, true, true, true, true, true, true, true, false, true, false, false, false, false, false, false, false, false, false, false, false, false, false, false, false, false, false] rfl rfl (any_of HT_.out (by kernel_rfl)) (fun _ _ _ h => h) (Or.inl ⟨by rfl, ?_⟩) ?_ ?_
               rotate_left
               ·intro w'
                go_simp
                with_reducible rfl
               rotate_left
               ·simp only [Act.put, List.setIfInBounds_toArray, List.set_cons_zero, List.set_cons_succ, i64_w, i32_w]
                rfl
               refine pure_ (i := 30) (N := some 145) (v := ?_) (a' := ?_) #[true, true, true, true, true, true, true, true, true, true, true, true, true, true, true, true, true, true, true, true, true, true, true, true, true, true, true, true, false, true, true, false, false, false, false, false, false, false, false, false, false, false, false, false, false, false, false] rfl rfl (any_of HT_.out (by kernel_rfl)) (fun _ _ _ h => h) (Or.inl ⟨by rfl, ?_⟩) ?_ ?_
               rotate_left
               ·intro w'
                go_simp
                with_reducible rfl
               rotate_left
               ·simp only [Act.put, List.setIfInBounds_toArray, List.set_cons_zero, List.set_cons_succ, i64_w, i32_w]
                rfl
               refine pure_ (i := 33) (N := some 148) (v := ?_) (a' := ?_) #[true, true, true, true, true, true, true, true, true, true, true, true, true, true, true, true, true, true, true, true, true, true, true, true, true, true, true, true, false, true, true, false, false, true, false, false, false, false, false, false, false, false, false, false, false, false, false] rfl rfl (any_of HT_.out (by kernel_rfl)) (fun _ _ _ h => h) (Or.inl ⟨by rfl, ?_⟩) ?_ ?_
               rotate_left
               ·intro w'
                go_simp
                with_reducible rfl
               rotate_left
               ·simp only [Act.put, List.setIfInBounds_toArray, List.set_cons_zero, List.set_cons_succ, i64_w, i32_w]
                rfl
               refine pure_ (i := 34) (N := some 149) (v := ?_) (a' := ?_) #[true, true, true, true, true, true, true, true, true, true, true, true, true, true, true, true, true, true, true, true, true, true, true, true, true, true, true, true, false, true, true, false, false, true, true, false, false, false, false, false, false, false, false, false, false, false, false] rfl rfl (any_of HT_.out (by kernel_rfl)) (fun _ _ _ h => h) (Or.inl ⟨by rfl, ?_⟩) ?_ ?_
               rotate_left
               ·intro w'
                go_simp
                with_reducible rfl
               rotate_left
               ·simp only [Act.put, List.setIfInBounds_toArray, List.set_cons_zero, List.set_cons_succ, i64_w, i32_w]
                rfl
               refine take_ (i := 28) (N := some 143) (v := ?_) (a' := ?_) #[true, true, true, true, true, true, true, true, true, true, true, true, true, true, true, true, true, true, true, true, true, true, true, true, true, true, true, true, true, true, true, false, false, true, true, false, false, false, false, false, false, false, false, false, false, false, false] rfl rfl (take_ofW HT_.out HW_.out (by kernel_rfl)) (fun _ _ _ h => h) (Or.inl ⟨by rfl, ?_⟩) hHeld ?_ ?_
               rotate_left
               ·rintro w' ⟨s0, s1, s2, s3, s4, s5⟩
                go_simp
                with_reducible rfl
               rotate_left
               ·simp only [Act.put, List.setIfInBounds_toArray, List.set_cons_zero, List.set_cons_succ, i64_w, i32_w]
                rfl
               refine take_ (i := 32) (N := some 147) (v := ?_) (a' := ?_) #[true, true, true, true, true, true, true, true, true, true, true, true, true, true, true, true, true, true, true, true, true, true, true, true, true, true, true, true, true, true, true, false, true, true, true, false, false, false, false, false, false, false, false, false, false, false, false] rfl rfl (take_ofW HT_.out HW_.out (by kernel_rfl)) (fun _ _ _ h => h) (Or.inl ⟨by rfl, ?_⟩) hHeld ?_ ?_
               rotate_left
               ·rintro w' ⟨s0, s1, s2, s3, s4, s5⟩
                go_simp
                with_reducible rfl
               rotate_left
               ·simp only [Act.put, List.setIfInBounds_toArray, List.set_cons_zero, List.set_cons_succ, i64_w, i32_w]
                rfl
               refine one_ (i := 31) (N := some 146) #[true, true, true, true, true, true, true, true, true, true, true, true, true, true, true, true, true, true, true, true, true, true, true, true, true, true, true, true, true, true, true, true, true, true, true, false, false, false, false, false, false, false, false, false, false, false, false] rfl rfl (one_of HT_.out (by kernel_rfl)) (by decide) (fun K hK => ?_)
               refine goes_ Try.func16 (by kernel_rfl) rfl #[.agg #[.int .i64 (ji108), .int .i64 (ji109), .int .i64 (ji110), .int .i64 (ji111)], .slice A2 l2.length c2, .slice A2 l2.length c2] (by rfl) rfl rfl qfc ?_
               with_reducible refine (monitor_Good.calls k3 (ji108) (ji109) (ji110) (ji111) _ _ l2 _ _ l2 t301 _ ?side1 ?side2 ?side3 ?side4 A130.out).mono ?_
               (case side1 => exact zC HR2 HB)
               (case side2 => exact HC2.out)
               (case side3 => exact zC HR2 HB)
               (case side4 => exact HC2.out)
               rintro e w145 ⟨rfl, hb⟩
               refine ⟨_, rfl, ?_⟩
               replace HO_16 := zR HO_16 hb
               replace HO_17 := zR HO_17 hb
               replace BK242 := zb BK242 hb
               replace BK243 := zb BK243 hb
               replace BK254 := zb BK254 hb
               replace BK255 := zb BK255 hb
               replace HI248 := za (IsS53.below (qfa) hb)
               replace BK294 := zb BK294 hb
               replace HB := zs HB hb
               (try clear hb)
               (try clear hb2)
               (try clear hk)
               (try clear hi)
               refine hK.out _ _ ⟨(blk_cell BK294.out 0).trans rfl, (blk_cell BK294.out 1).trans rfl, (blk_cell BK294.out 2).trans rfl, (blk_cell BK294.out 3).trans rfl, (blk_cell BK243.out 0).trans rfl, (blk_cell BK243.out 1).trans rfl⟩ (fun hHeld => ?_)
               clear hK K
               refine norm_ (a' := ?_) ?_ ?_
               rotate_left
               ·show Act.put _ (some 146) _ = _
                simp only [Act.put, List.setIfInBounds_toArray, List.set_cons_zero, List.set_cons_succ, i64_w, i32_w]
                rfl
               refine one_ (i := 35) (N := some 150) #[true, true, true, true, true, true, true, true, true, true, true, true, true, true, true, true, true, true, true, true, true, true, true, true, true, true, true, true, true, true, true, true, true, true, true, true, false, false, false, false, false, false, false, false, false, false, false] rfl rfl (one_of HT_.out (by kernel_rfl)) (by decide) (fun K hK => ?_)
               refine goes_ Try.func17 (by kernel_rfl) rfl #[.agg #[.int .i64 (ji108), .int .i64 (ji109), .int .i64 (ji110), .int .i64 (ji111)], .slice A2 l2.length c2, .slice A2 l2.length c2] (by rfl) rfl rfl qfc ?_
               with_reducible refine (awardingbodyref27_Good.calls k3 (ji108) (ji109) (ji110) (ji111) _ _ l2 _ _ l2 t302 _ ?side1 ?side2 ?side3 ?side4 A131.out).mono ?_
               (case side1 => exact zC HR2 HB)
               (case side2 => exact HC2.out)
               (case side3 => exact zC HR2 HB)
               (case side4 => exact HC2.out)
               rintro e w146 ⟨rfl, hb⟩
               refine ⟨_, rfl, ?_⟩
               replace HO_16 := zR HO_16 hb
               replace HO_17 := zR HO_17 hb
               replace BK242 := zb BK242 hb
               replace BK243 := zb BK243 hb
               replace BK254 := zb BK254 hb
               replace BK255 := zb BK255 hb
               replace HI248 := za (IsS53.below (qfa) hb)
               replace BK294 := zb BK294 hb
               replace HB := zs HB hb
               (try clear hb)
               (try clear hb2)
               (try clear hk)
               (try clear hi)
               refine hK.out _ _ ⟨(blk_cell BK294.out 0).trans rfl, (blk_cell BK294.out 1).trans rfl, (blk_cell BK294.out 2).trans rfl, (blk_cell BK294.out 3).trans rfl, (blk_cell BK243.out 0).trans rfl, (blk_cell BK243.out 1).trans rfl⟩ (fun hHeld => ?_)
               clear hK K
               refine norm_ (a' := ?_) ?_ ?_
               rotate_left
               ·show Act.put _ (some 150) _ = _
                simp only [Act.put, List.setIfInBounds_toArray, List.set_cons_zero, List.set_cons_succ, i64_w, i32_w]
                rfl
               refine pure_ (i := 36) (N := some 151) (v := ?_) (a' := ?_) #[true, true, true, true, true, true, true, true, true, true, true, true, true, true, true, true, true, true, true, true, true, true, true, true, true, true, true, true, true, true, true, true, true, true, true, true, true, false, false, false, false, false, false, false, false, false, false] rfl rfl (any_of HT_.out (by kernel_rfl)) (fun _ _ _ h => h) (Or.inl ⟨by rfl, ?_⟩) ?_ ?_
               rotate_left
               ·intro w'
                go_simp
                with_reducible rfl
               rotate_left
               ·simp only [Act.put, List.setIfInBounds_toArray, List.set_cons_zero, List.set_cons_succ, i64_w, i32_w]
                rfl
               refine pure_ (i := 37) (N := some 152) (v := ?_) (a' := ?_) #[true, true, true, true, true, true, true, true, true, true, true, true, true, true, true, true, true, true, true, true, true, true, true, true, true, true, true, true, true, true, true, true, true, true, true, true, true, true, false, false, false, false, false, false, false, false, false] rfl rfl (any_of HT_.out (by kernel_rfl)) (fun _ _ _ h => h) (Or.inl ⟨by rfl, ?_⟩) ?_ ?_
               rotate_left
               ·intro w'
                go_simp
                with_reducible rfl
               rotate_left
               ·simp only [Act.put, List.setIfInBounds_toArray, List.set_cons_zero, List.set_cons_succ, i64_w, i32_w]
                rfl
               refine pure_ (i := 38) (N := some 153) (v := ?_) (a' := ?_) #[true, true, true, true, true, true, true, true, true, true, true, true, true, true, true, true, true, true, true, true, true, true, true, true, true, true, true, true, true, true, true, true, true, true, true, true, true, true, true, false, false, false, false, false, false, false, false] rfl rfl (any_of HT_.out (by kernel_rfl)) (fun _ _ _ h => h) (Or.inl ⟨by rfl, ?_⟩) ?_ ?_
               rotate_left
               ·intro w'
                go_simp
                with_reducible rfl
               rotate_left
               ·simp only [Act.put, List.setIfInBounds_toArray, List.set_cons_zero, List.set_cons_succ, i64_w, i32_w]
                rfl
               refine take_ (i := 39) (N := some 154) (v := ?_) (a' := ?_) #[true, true, true, true, true, true, true, true, true, true, true, true, true, true, true, true, true, true, true, true, true, true, true, true, true, true, true, true, true, true, true, true, true, true, true, true, true, true, true, true, false, false, false, false, false, false, false] rfl rfl (take_ofW HT_.out HW_.out (by kernel_rfl)) (fun _ _ _ h => h) (Or.inl ⟨by rfl, ?_⟩) hHeld ?_ ?_
               rotate_left
               ·rintro w' ⟨s0, s1, s2, s3, s4, s5⟩
                go_simp
                with_reducible rfl
               rotate_left
               ·simp only [Act.put, List.setIfInBounds_toArray, List.set_cons_zero, List.set_cons_succ, i64_w, i32_w]
                rfl
               refine take_ (i := 40) (N := some 155) (v := ?_) (a' := ?_) #[true, true, true, true, true, true, true, true, true, true, true, true, true, true, true, true, true, true, true, true, true, true, true, true, true, true, true, true, true, true, true, true, true, true, true, true, true, true, true, true, true, false, false, false, false, false, false] rfl rfl (take_ofW HT_.out HW_.out (by kernel_rfl)) (fun _ _ _ h => h) (Or.inl ⟨by rfl, ?_⟩) hHeld ?_ ?_
               rotate_left
               ·rintro w' ⟨s0, s1, s2, s3, s4, s5⟩
                go_simp
                with_reducible rfl
               rotate_left
               ·simp only [Act.put, List.setIfInBounds_toArray, List.set_cons_zero, List.set_cons_succ, i64_w, i32_w]
                rfl
               refine take_ (i := 42) (N := some 157) (v := ?_) (a' := ?_) #[true, true, true, true, true, true, true, true, true, true, true, true, true, true, true, true, true, true, true, true, true, true, true, true, true, true, true, true, true, true, true, true, true, true, true, true, true, true, true, true, true, false, true, false, false, false, false] rfl rfl (take_ofW HT_.out HW_.out (by kernel_rfl)) (fun _ _ _ h => h) (Or.inl ⟨by rfl, ?_⟩) hHeld ?_ ?_
               rotate_left
               ·rintro w' ⟨s0, s1, s2, s3, s4, s5⟩
                go_simp
                with_reducible rfl
               rotate_left
               ·simp only [Act.put, List.setIfInBounds_toArray, List.set_cons_zero, List.set_cons_succ, i64_w, i32_w]
                rfl
               refine take_ (i := 43) (N := some 158) (v := ?_) (a' := ?_) #[true, true, true, true, true, true, true, true, true, true, true, true, true, true, true, true, true, true, true, true, true, true, true, true, true, true, true, true, true, true, true, true, true, true, true, true, true, true, true, true, true, false, true, true, false, false, false] rfl rfl (take_ofW HT_.out HW_.out (by kernel_rfl)) (fun _ _ _ h => h) (Or.inl ⟨by rfl, ?_⟩) hHeld ?_ ?_
               rotate_left
               ·rintro w' ⟨s0, s1, s2, s3, s4, s5⟩
                go_simp
                with_reducible rfl
               rotate_left
               ·simp only [Act.put, List.setIfInBounds_toArray, List.set_cons_zero, List.set_cons_succ, i64_w, i32_w]
                rfl
               refine one_ (i := 41) (N := some 156) #[true, true, true, true, true, true, true, true, true, true, true, true, true, true, true, true, true, true, true, true, true, true, true, true, true, true, true, true, true, true, true, true, true, true, true, true, true, true, true, true, true, true, true, true, false, false, false] rfl rfl (one_of HT_.out (by kernel_rfl)) (by decide) (fun K hK => ?_)
               refine goes_ Try.func18 (by kernel_rfl) rfl #[.agg #[.int .i64 (ji108), .int .i64 (ji109), .int .i64 (ji110), .int .i64 (ji111)], .agg #[.slice A5_0 l5_0.length c5_0, .bool a5_1]] (by rfl) rfl rfl qfc ?_
               with_reducible refine (monitor_Valid.calls k3 (ji108) (ji109) (ji110) (ji111) _ _ l5_0 a5_1 t303 _ ?side1 ?side2 A133.out).mono ?_
               (case side1 => exact zC HR5_0 HB)
               (case side2 => exact HC5_0.out)
               rintro e w147 ⟨rfl, hb⟩
               refine ⟨_, rfl, ?_⟩
               replace HO_16 := zR HO_16 hb
               replace HO_17 := zR HO_17 hb
               replace BK242 := zb BK242 hb
               replace BK243 := zb BK243 hb
               replace BK254 := zb BK254 hb
               replace BK255 := zb BK255 hb
               replace HI248 := za (IsS53.below (qfa) hb)
               replace BK294 := zb BK294 hb
               replace HB := zs HB hb
               (try clear hb)
               (try clear hb2)
               (try clear hk)
               (try clear hi)
               refine hK.out _ _ ⟨(blk_cell BK294.out 0).trans rfl, (blk_cell BK294.out 1).trans rfl, (blk_cell BK294.out 2).trans rfl, (blk_cell BK294.out 3).trans rfl, (blk_cell BK243.out 0).trans rfl, (blk_cell BK243.out 1).trans rfl⟩ (fun hHeld => ?_)
               clear hK K
               refine norm_ (a' := ?_) ?_ ?_
               rotate_left
               ·show Act.put _ (some 156) _ = _
                simp only [Act.put, List.setIfInBounds_toArray, List.set_cons_zero, List.set_cons_succ, i64_w, i32_w]
                rfl
               refine one_ (i := 44) (N := some 159) #[true, true, true, true, true, true, true, true, true, true, true, true, true, true, true, true, true, true, true, true, true, true, true, true, true, true, true, true, true, true, true, true, true, true, true, true, true, true, true, true, true, true, true, true, true, false, false] rfl rfl (one_of HT_.out (by kernel_rfl)) (by decide) (fun K hK => ?_)
               refine goes_ Try.func19 (by kernel_rfl) rfl #[.agg #[.int .i64 (ji108), .int .i64 (ji109), .int .i64 (ji110), .int .i64 (ji111)], .agg #[.slice A5_0 l5_0.length c5_0, .bool a5_1]] (by rfl) rfl rfl qfc ?_
               with_reducible refine (awardingbodyref27_Valid.calls k3 (ji108) (ji109) (ji110) (ji111) _ _ l5_0 a5_1 t304 _ ?side1 ?side2 A134.out).mono ?_
               (case side1 => exact zC HR5_0 HB)
               (case side2 => exact HC5_0.out)
               rintro e w148 ⟨rfl, hb⟩
               refine ⟨_, rfl, ?_⟩
               replace HO_16 := zR HO_16 hb
               replace HO_17 := zR HO_17 hb
               replace BK242 := zb BK242 hb
               replace BK243 := zb BK243 hb
               replace BK254 := zb BK254 hb
               replace BK255 := zb BK255 hb
               replace HI248 := za (IsS53.below (qfa) hb)
               replace BK294 := zb BK294 hb
               replace HB := zs HB hb
               (try clear hb)
               (try clear hb2)
               (try clear hk)
               (try clear hi)
               refine hK.out _ _ ⟨(blk_cell BK294.out 0).trans rfl, (blk_cell BK294.out 1).trans rfl, (blk_cell BK294.out 2).trans rfl, (blk_cell BK294.out 3).trans rfl, (blk_cell BK243.out 0).trans rfl, (blk_cell BK243.out 1).trans rfl⟩ (fun hHeld => ?_)
               clear hK K
               refine norm_ (a' := ?_) ?_ ?_
               rotate_left
               ·show Act.put _ (some 159) _ = _
                simp only [Act.put, List.setIfInBounds_toArray, List.set_cons_zero, List.set_cons_succ, i64_w, i32_w]
                rfl
               refine pure_ (i := 45) (N := some 160) (v := ?_) (a' := ?_) #[true, true, true, true, true, true, true, true, true, true, true, true, true, true, true, true, true, true, true, true, true, true, true, true, true, true, true, true, true, true, true, true, true, true, true, true, true, true, true, true, true, true, true, true, true, true, false] rfl rfl (any_of HT_.out (by kernel_rfl)) (fun _ _ _ h => h) (Or.inl ⟨by rfl, ?_⟩) ?_ ?_
               rotate_left
               ·intro w'
                go_simp
                with_reducible rfl
               rotate_left
               ·simp only [Act.put, List.setIfInBounds_toArray, List.set_cons_zero, List.set_cons_succ, i64_w, i32_w]
                rfl
               refine pure_ (i := 46) (N := some 161) (v := ?_) (a' := ?_) #[true, true, true, true, true, true, true, true, true, true, true, true, true, true, true, true, true, true, true, true, true, true, true, true, true, true, true, true, true, true, true, true, true, true, true, true, true, true, true, true, true, true, true, true, true, true, true] rfl rfl (any_of HT_.out (by kernel_rfl)) (fun _ _ _ h => h) (Or.inl ⟨by rfl, ?_⟩) ?_ ?_
               rotate_left
               ·intro w'
                go_simp
                with_reducible rfl
               rotate_left
               ·simp only [Act.put, List.setIfInBounds_toArray, List.set_cons_zero, List.set_cons_succ, i64_w, i32_w]
                rfl
               refine done_ (done_of HT_.out (by kernel_rfl)) ?_
               try go_wp2
               go_meet
               case rel => exact ⟨_, ((t303 != t304)), qfk, H', ⟨by have := HJ6.out; have := HJ22.out; have := HK3.out; first | omega | exact Nat.le_refl _⟩, ⟨by (with_reducible repeat (first | apply Kd.R_alloc | apply Kd.R_drewN | apply Kd.R_drew)); exact HO_16.out⟩, ⟨by (with_reducible repeat (first | apply Kd.R_alloc | apply Kd.R_drewN | apply Kd.R_drew)); exact HO_17.out⟩, ⟨qfb⟩, ⟨qfb⟩, ⟨qfb⟩, ⟨qfb⟩, ⟨qfb⟩, ⟨qfa⟩, ⟨zm HB⟩⟩
           ·rw [if_neg c123] at H
            have c123b0 : (t295 == t296) = false := beq_eq_false_iff_ne.mpr c123
            have c123b1 : (t295 != t296) = true := bne_iff_ne.mpr c123
            (first | rw [c123b0] | (simp only [i64_w, i32_w]; rw [c123b0]) | skip)
            exact absurd H (by simp)
          case rest =>
           clear HC112; (try clear c1); (try clear c2); (try clear p2); (try clear c3); (try clear c5); (try clear c12); (try clear c16); (try clear c17); (try clear c18); (try clear c19); (try clear c123); (try clear c123b0); (try clear c123b1)
           obtain ⟨kq, x161_111, rfl, HA, HJ111, HO_16, HO_17, BK242, BK243, BK254, BK255, BK294, HI248, HB⟩ := hcut
           cases kq with
           | zero => exact absurd HA.out (by simp [awardingbodylaw27_MonitorExact.j3])
           | succ kj111 =>
            have H := HA.out
            clear HA
            simp only [awardingbodylaw27_MonitorExact.j3] at H
            by_cases c149 : x161_111 = true
            ·subst c149
             have H1 : (none) = some r := by rw [if_pos rfl] at H; exact H
             clear H; have H := H1; clear H1
             exact absurd H (by simp)
            ·replace c149 := Bool.eq_false_iff.mpr c149
             subst c149
             have H1 : ((monitor_Run.f kj111 (ji108) (ji109) (ji110) (ji111) l4).bind fun bt305 => ((awardingbodyref27_Run.f kj111 (ji108) (ji109) (ji110) (ji111) l4).bind fun bt308 => (if bt305.1 = bt308.1 then (if bt305.2.1 = bt308.2.1 then (awardingbodylaw27_MonitorExact.j4 kj111 l2 l3 l4 y282 y289 x112_3 (bt305.2.2 != bt308.2.2) l5_0 a5_1 t246 x249001_3 t249 t250 t251 t252 x256000_22 x256001_22 x256002_22 x256003_22 a1_0 a1_1 a1_2 a1_3 (ji108) (ji109) (ji110) (ji111)) else (none)) else (none)))) = some r := by rw [if_neg (show ¬ (false = true) by decide)] at H; exact H
             clear H; have H := H1; clear H1
             replace H := Option.bind_eq_some_iff.mp H
             obtain ⟨⟨t305, t306, t307⟩, A1500, H⟩ := H
             replace H : ((awardingbodyref27_Run.f kj111 (ji108) (ji109) (ji110) (ji111) l4).bind fun bt308 => (if t305 = bt308.1 then (if t306 = bt308.2.1 then (awardingbodylaw27_MonitorExact.j4 kj111 l2 l3 l4 y282 y289 x112_3 (t307 != bt308.2.2) l5_0 a5_1 t246 x249001_3 t249 t250 t251 t252 x256000_22 x256001_22 x256002_22 x256003_22 a1_0 a1_1 a1_2 a1_3 (ji108) (ji109) (ji110) (ji111)) else (none)) else (none))) = some r := H
             have A150 := za A1500; clear A1500
             replace H := Option.bind_eq_some_iff.mp H
             obtain ⟨⟨t308, t309, t310⟩, A1510, H⟩ := H
             replace H : (if t305 = t308 then (if t306 = t309 then (awardingbodylaw27_MonitorExact.j4 kj111 l2 l3 l4 y282 y289 x112_3 (t307 != t310) l5_0 a5_1 t246 x249001_3 t249 t250 t251 t252 x256000_22 x256001_22 x256002_22 x256003_22 a1_0 a1_1 a1_2 a1_3 (ji108) (ji109) (ji110) (ji111)) else (none)) else (none)) = some r := H
             have A151 := za A1510; clear A1510; have HC152 := za H; clear H
             have hnb153 := NB294_242.out
             have hnc153 := NB242_294.out
             have hnb154 := NB294_243.out
             have hnc154 := NB243_294.out
             have hnb155 := NB294_254.out
             have hnc155 := NB254_294.out
             have hnb156 := NB294_255.out
             have hnc156 := NB255_294.out
             have hnb157 := NB294_248.out
             have hnc157 := NB248_294.out
             obtain ⟨hcz158_0, hcz158_1, hcz158_2, hcz158_3, hfz158_0, hfz158_1, hfz158_2, hfz158_3⟩ := z4 BK294
             go_upto_region 22 with (first | ((with_reducible refine gate_callee (f := 20) rfl ?_); refine goesL_ (some 165) rfl rfl Try.func20 (by kernel_rfl) rfl #[.agg #[.int .i64 (ji108), .int .i64 (ji109), .int .i64 (ji110), .int .i64 (ji111)], .slice A4 l4.length c4] rfl qfc ?_; (with_reducible refine (monitor_Run.calls kj111 (ji108) (ji109) (ji110) (ji111) _ _ l4 t305 t306 t307 _ ?side1 ?side2 A150.out).mono ?_); (case side1 => exact zC HR4 HB); (case side2 => exact HC4.out); rintro e w159 ⟨rfl, hb⟩; refine ⟨_, rfl, ?_⟩; replace HO_16 := zR HO_16 hb; replace HO_17 := zR HO_17 hb; replace BK242 := zb BK242 hb; replace BK243 := zb BK243 hb; replace BK254 := zb BK254 hb; replace BK255 := zb BK255 hb; replace BK294 := zb BK294 hb; replace HI248 := za (IsS53.below (qfa) hb); replace HB := zs HB hb; (try clear hb); (try clear hb2); (try clear hk); (try clear hi); obtain ⟨hcz160_0, hcz160_1, hcz160_2, hcz160_3, hfz160_0, hfz160_1, hfz160_2, hfz160_3⟩ := z4 BK294) | ((with_reducible refine gate_callee (f := 21) rfl ?_); refine goesL_ (some 172) rfl rfl Try.func21 (by kernel_rfl) rfl #[.agg #[.int .i64 (ji108), .int .i64 (ji109), .int .i64 (ji110), .int .i64 (ji111)], .slice A4 l4.length c4] rfl qfc ?_; (with_reducible refine (awardingbodyref27_Run.calls kj111 (ji108) (ji109) (ji110) (ji111) _ _ l4 t308 t309 t310 _ ?side1 ?side2 A151.out).mono ?_); (case side1 => exact zC HR4 HB); (case side2 => exact HC4.out); rintro e w161 ⟨rfl, hb⟩; refine ⟨_, rfl, ?_⟩; replace HO_16 := zR HO_16 hb; replace HO_17 := zR HO_17 hb; replace BK242 := zb BK242 hb; replace BK243 := zb BK243 hb; replace BK254 := zb BK254 hb; replace BK255 := zb BK255 hb; replace BK294 := zb BK294 hb; replace HI248 := za (IsS53.below (qfa) hb); replace HB := zs HB hb; (try clear hb); (try clear hb2); (try clear hk); (try clear hi)))
             (try simp only [Act.put, List.setIfInBounds_toArray, List.set_cons_zero, List.set_cons_succ])
             go_cut [188] (fun v188 wc => ∃ (kq : Nat) (x188_151 : Bool), v188 = .bool x188_151 ∧ Aside0 (awardingbodylaw27_MonitorExact.j4 kq l2 l3 l4 y282 y289 x112_3 x188_151 l5_0 a5_1 t246 x249001_3 t249 t250 t251 t252 x256000_22 x256001_22 x256002_22 x256003_22 a1_0 a1_1 a1_2 a1_3 (ji108) (ji109) (ji110) (ji111) = some r) ∧ Aside0 (kq ≤ kj111) ∧ Aside0 (Kd.R (Kd.int .i64) 3 wc w.heap.size (fun k_ => some k_ ≠ (v290 : Value).ownBlock) v283 y282) ∧ Aside0 (Kd.R (Kd.int .i64) 3 wc w.heap.size (fun k_ => some k_ ≠ (v283 : Value).ownBlock) v290 y289) ∧ Aside0 (wc.heap[gb242]? = some (.cells #[.int .i64 a1_0, .int .i64 a1_1, .int .i64 a1_2, .int .i64 a1_3] 24 (0, 0))) ∧ Aside0 (wc.heap[gb243]? = some (.cells #[(.slice A5_0 l5_0.length c5_0), .bool a5_1] 27 (0, 0))) ∧ Aside0 (wc.heap[gb254]? = some (.cells #[.int .i64 t249, .int .i64 t250, .int .i64 t251, .int .i64 t252] 24 (0, 0))) ∧ Aside0 (wc.heap[gb255]? = some (.cells #[.int .i64 x256000_22, .int .i64 x256001_22, .int .i64 x256002_22, .int .i64 x256003_22] 24 (0, 0))) ∧ Aside0 (wc.heap[gb294]? = some (.cells #[.int .i64 (ji108), .int .i64 (ji109), .int .i64 (ji110), .int .i64 (ji111)] 24 (0, 0))) ∧ Aside0 (IsS53 w wc g248 t246 x249001_3) ∧ Aside0 (Below w.heap.size w wc))
             case first =>
              as_aux_lemma =>
              have H := HC152.out
              clear HC152
              by_cases c162 : t305 = t308
              ·rw [if_pos c162] at H
               have c162b0 : (t305 == t308) = true := beq_iff_eq.mpr c162
               have c162b1 : (t305 != t308) = false := bne_eq_false_iff_eq.mpr c162
               clear c162
               (first | rw [c162b0] | (simp only [i64_w, i32_w]; rw [c162b0]) | skip)
               by_cases c163 : t306 = t309
               ·rw [if_pos c163] at H
                have c163b0 : (t306 == t309) = true := beq_iff_eq.mpr c163
                have c163b1 : (t306 != t309) = false := bne_eq_false_iff_eq.mpr c163
                clear c163; have H' := za H; clear H
                go_wp2
                go_meet
                case rel => exact ⟨_, ((t307 != t310)), qfk, H', ⟨by have := HJ6.out; have := HJ22.out; have := HK3.out; have := HJ111.out; first | omega | exact Nat.le_refl _⟩, ⟨by (with_reducible repeat (first | apply Kd.R_alloc | apply Kd.R_drewN | apply Kd.R_drew)); exact HO_16.out⟩, ⟨by (with_reducible repeat (first | apply Kd.R_alloc | apply Kd.R_drewN | apply Kd.R_drew)); exact HO_17.out⟩, ⟨qfb⟩, ⟨qfb⟩, ⟨qfb⟩, ⟨qfb⟩, ⟨qfb⟩, ⟨qfa⟩, ⟨zm HB⟩⟩
               ·rw [if_neg c163] at H
                exact absurd H (by simp)
              ·rw [if_neg c162] at H
               exact absurd H (by simp)
             case rest =>
              clear HC152; (try clear c1); (try clear c2); (try clear p2); (try clear c3); (try clear c4); (try clear c5); (try clear c12); (try clear c14); (try clear c15); (try clear c16); (try clear c17); (try clear c18); (try clear c19); (try clear c20); (try clear c21); (try clear c123); (try clear c123b0); (try clear c123b1); (try clear c149); (try clear c153); (try clear c154); (try clear c155); (try clear c156); (try clear c157); (try clear c162); (try clear c162b0); (try clear c162b1); (try clear c163); (try clear c163b0); (try clear c163b1); (try clear hcz158_0); (try clear hcz158_1); (try clear hcz158_2); (try clear hcz158_3); (try clear hcz160_0); (try clear hcz160_1); (try clear hcz160_2); (try clear hcz160_3); (try clear hfz158_0); (try clear hfz158_1); (try clear hfz158_2); (try clear hfz158_3); (try clear hfz160_0); (try clear hfz160_1); (try clear hfz160_2); (try clear hfz160_3); (try clear p2)
              obtain ⟨kq, x188_151, rfl, HA, HJ151, HO_16, HO_17, BK242, BK243, BK254, BK255, BK294, HI248, HB⟩ := hcut
              cases kq with
              | zero => exact absurd HA.out (by simp [awardingbodylaw27_MonitorExact.j4])
              | succ kj151 =>
               have H := HA.out
               clear HA
               simp only [awardingbodylaw27_MonitorExact.j4] at H
               by_cases c164 : x188_151 = true
               ·subst c164
                have H1 : (none) = some r := by rw [if_pos rfl] at H; exact H
                clear H; have H := H1; clear H1
                exact absurd H (by simp)
               ·replace c164 := Bool.eq_false_iff.mpr c164
                subst c164
                have H1 : (awardingbodylaw27_MonitorExact.l1 kj151 l2 l3 l4 y282 y289 0 x112_3 l5_0 a5_1 t246 x249001_3 t249 t250 t251 t252 x256000_22 x256001_22 x256002_22 x256003_22 a1_0 a1_1 a1_2 a1_3 (ji108) (ji109) (ji110) (ji111) ([] : List Bool) false) = some r := by rw [if_neg (show ¬ (false = true) by decide)] at H; exact H
                clear H; have H := H1; clear H1; have H' := za H; clear H
                go_wp2_with (first | ((with_reducible refine gate_dst (N := 26) rfl ?_); (try (refine gate_guard (by rfl) ?_; dsimp only)); refine zE 26 #[.slice none 0 0, .bool false] 27 ?_; intro gb311 hg w165 hbox hb; have BK311 := za (hbox); have GW311 := zg HB hg; have GE311 := zg HB hg; have NB242_311 := zl BK242 hg; have NB311_242 := zr BK242 hg; have NB243_311 := zl BK243 hg; have NB311_243 := zr BK243 hg; have NB254_311 := zl BK254 hg; have NB311_254 := zr BK254 hg; have NB255_311 := zl BK255 hg; have NB311_255 := zr BK255 hg; have NB294_311 := zl BK294 hg; have NB311_294 := zr BK294 hg; have NB248_311 := za ((by rw [hg]; exact Nat.ne_of_lt (IsS53.lt (show IsS53 w _ g248 t246 x249001_3 from qfa)) : g248 ≠ gb311)); have NB311_248 := za ((by rw [hg]; exact Nat.ne_of_gt (IsS53.lt (show IsS53 w _ g248 t246 x249001_3 from qfa)) : gb311 ≠ g248)); replace HO_16 := zR HO_16 hb; replace HO_17 := zR HO_17 hb; replace BK242 := zb BK242 hb; replace BK243 := zb BK243 hb; replace BK254 := zb BK254 hb; replace BK255 := zb BK255 hb; replace BK294 := zb BK294 hb; replace HI248 := za (IsS53.below (qfa) hb); replace HB := zs HB hb; clear hb hbox hg))
                go_loopg [27] kj151 (fun kq v27 w' => ∃ (x27_6 : Int) (x249001_6 : Int) (x312000_6 : List Bool) (x312001_6 : Bool) (u312000 : Value), v27 = .int .i64 x27_6 ∧ Aside0 (awardingbodylaw27_MonitorExact.l1 kq l2 l3 l4 y282 y289 x27_6 x112_3 l5_0 a5_1 t246 x249001_6 t249 t250 t251 t252 x256000_22 x256001_22 x256002_22 x256003_22 a1_0 a1_1 a1_2 a1_3 (ji108) (ji109) (ji110) (ji111) x312000_6 x312001_6 = some r) ∧ Aside0 (kq ≤ kj151) ∧ Aside0 (Kd.R (Kd.int .i64) 3 w' w.heap.size (fun k_ => some k_ ≠ (v290 : Value).ownBlock) v283 y282) ∧ Aside0 (Kd.R (Kd.int .i64) 3 w' w.heap.size (fun k_ => some k_ ≠ (v283 : Value).ownBlock) v290 y289) ∧ Aside0 (Kd.Q Kd.bool 4 w' w.heap.size (fun _ => True) u312000 x312000_6) ∧ Aside0 (w'.heap[gb242]? = some (.cells #[.int .i64 a1_0, .int .i64 a1_1, .int .i64 a1_2, .int .i64 a1_3] 24 (0, 0))) ∧ Aside0 (w'.heap[gb243]? = some (.cells #[(.slice A5_0 l5_0.length c5_0), .bool a5_1] 27 (0, 0))) ∧ Aside0 (w'.heap[gb254]? = some (.cells #[.int .i64 t249, .int .i64 t250, .int .i64 t251, .int .i64 t252] 24 (0, 0))) ∧ Aside0 (w'.heap[gb255]? = some (.cells #[.int .i64 x256000_22, .int .i64 x256001_22, .int .i64 x256002_22, .int .i64 x256003_22] 24 (0, 0))) ∧ Aside0 (w'.heap[gb294]? = some (.cells #[.int .i64 (ji108), .int .i64 (ji109), .int .i64 (ji110), .int .i64 (ji111)] 24 (0, 0))) ∧ Aside0 (w'.heap[gb311]? = some (.cells #[u312000, .bool x312001_6] 27 (0, 0))) ∧ Aside0 (IsS53 w w' g248 t246 x249001_6) ∧ Aside0 (Below w.heap.size w w'))
                case atStart => exact ⟨(0), (x249001_3), (([] : List Bool)), (false), (.slice none 0 0), qfk, H', ⟨Nat.le_refl _⟩, ⟨by (with_reducible repeat (first | apply Kd.R_alloc | apply Kd.R_drewN | apply Kd.R_drew)); exact HO_16.out⟩, ⟨by (with_reducible repeat (first | apply Kd.R_alloc | apply Kd.R_drewN | apply Kd.R_drew)); exact HO_17.out⟩, ⟨Kd.Q_of_R (by first | exact Kd.R_nil _ _ _ _ _ | exact Kd.N_nil _ _ _ _ _ | exact Kd.V_nil _ _ _ _ _ | exact Kd.Q_nil _ _ _ _ _ | exact Kd.S_nil _ _ _ _ _)⟩, ⟨qfb⟩, ⟨qfb⟩, ⟨qfb⟩, ⟨qfb⟩, ⟨qfb⟩, ⟨qfb⟩, ⟨qfa⟩, ⟨zm HB⟩⟩
                case round =>
                 as_aux_lemma =>
                 clear H'; (try clear c1); (try clear c2); (try clear p2); (try clear c3); (try clear c4); (try clear c5); (try clear c12); (try clear c14); (try clear c15); (try clear c16); (try clear c17); (try clear c18); (try clear c19); (try clear c20); (try clear c21); (try clear c123); (try clear c123b0); (try clear c123b1); (try clear c149); (try clear c153); (try clear c154); (try clear c155); (try clear c156); (try clear c157); (try clear c162); (try clear c162b0); (try clear c162b1); (try clear c163); (try clear c163b0); (try clear c163b1); (try clear c164); (try clear hcz158_0); (try clear hcz158_1); (try clear hcz158_2); (try clear hcz158_3); (try clear hcz160_0); (try clear hcz160_1); (try clear hcz160_2); (try clear hcz160_3); (try clear hfz158_0); (try clear hfz158_1); (try clear hfz158_2); (try clear hfz158_3); (try clear hfz160_0); (try clear hfz160_1); (try clear hfz160_2); (try clear hfz160_3); (try clear p2)
                 obtain ⟨x27_6, x249001_6, x312000_6, x312001_6, u312000, rfl, HA, HK6, HO_16, HO_17, HO_312000, BK242, BK243, BK254, BK255, BK294, BK311, HI248, HB⟩ := hrel
                 cases gk with
                 | zero => exact absurd HA.out (by simp [awardingbodylaw27_MonitorExact.l1])
                 | succ k6 =>
                  have H := HA.out
                  clear HA
                  simp only [awardingbodylaw27_MonitorExact.l1] at H
                  by_cases c166 : x27_6 < 6
                  ·rw [if_pos c166] at H
                   have c166b0 : decide (x27_6 < 6) = true := decide_eq_true c166
                   clear c166
                   replace H := Option.bind_eq_some_iff.mp H
                   obtain ⟨⟨t312, t313⟩, A1670, H⟩ := H
                   replace H : ((monitor_Step.f k6 (ji108) (ji109) (ji110) (ji111) x312000_6 x312001_6 t312).bind fun bt316 => ((awardingbodyref27_Step.f k6 (ji108) (ji109) (ji110) (ji111) x312000_6 x312001_6 t312).bind fun bt322 => ((awardingbodylaw27_same.f k6 bt316.1 bt316.2.1 bt322.1 bt322.2.1).bind fun t328 => (if t328 = true then (awardingbodylaw27_MonitorExact.j6 k6 l2 l3 l4 y282 y289 x27_6 t312 x112_3 (bt316.2.2 != bt322.2.2) l5_0 a5_1 t246 t313 t249 t250 t251 t252 x256000_22 x256001_22 x256002_22 x256003_22 a1_0 a1_1 a1_2 a1_3 (ji108) (ji109) (ji110) (ji111) x312000_6 x312001_6 x312000_6 x312001_6 l5_0 a5_1) else (none))))) = some r := H
                   have A167 := za A1670; clear A1670
                   replace H := Option.bind_eq_some_iff.mp H
                   obtain ⟨⟨t316, t319, t320⟩, A1680, H⟩ := H
                   replace H : ((awardingbodyref27_Step.f k6 (ji108) (ji109) (ji110) (ji111) x312000_6 x312001_6 t312).bind fun bt322 => ((awardingbodylaw27_same.f k6 t316 t319 bt322.1 bt322.2.1).bind fun t328 => (if t328 = true then (awardingbodylaw27_MonitorExact.j6 k6 l2 l3 l4 y282 y289 x27_6 t312 x112_3 (t320 != bt322.2.2) l5_0 a5_1 t246 t313 t249 t250 t251 t252 x256000_22 x256001_22 x256002_22 x256003_22 a1_0 a1_1 a1_2 a1_3 (ji108) (ji109) (ji110) (ji111) x312000_6 x312001_6 x312000_6 x312001_6 l5_0 a5_1) else (none)))) = some r := H
                   have A168 := za A1680; clear A1680
                   replace H := Option.bind_eq_some_iff.mp H
                   obtain ⟨⟨t322, t325, t326⟩, A1690, H⟩ := H
                   replace H : ((awardingbodylaw27_same.f k6 t316 t319 t322 t325).bind fun t328 => (if t328 = true then (awardingbodylaw27_MonitorExact.j6 k6 l2 l3 l4 y282 y289 x27_6 t312 x112_3 (t320 != t326) l5_0 a5_1 t246 t313 t249 t250 t251 t252 x256000_22 x256001_22 x256002_22 x256003_22 a1_0 a1_1 a1_2 a1_3 (ji108) (ji109) (ji110) (ji111) x312000_6 x312001_6 x312000_6 x312001_6 l5_0 a5_1) else (none))) = some r := H
                   have A169 := za A1690; clear A1690; have HC170 := za H; clear H
                   go_wp2_with (first | ((with_reducible refine gate_callee (f := 22) rfl ?_); refine zL (some 194) Try.func22 #[.pointer (some ⟨g248, 0, none⟩), .int .i64 2] ?_; (with_reducible refine (awardingbodymark_Dice_Bool.calls k6 g248 t246 x249001_6 2 t312 t313 w _ ?side1 ?side2 A167.out).mono ?_); (case side1 => repeat (first | (with_reducible first | exact HI248.out | apply IsS53.alloc | apply IsS53.drewN | apply IsS53.drew | apply IsS53.set_1 | refine IsS53.far ?_ NB248_242.out _ | refine IsS53.far ?_ NB248_243.out _ | refine IsS53.far ?_ NB248_254.out _ | refine IsS53.far ?_ NB248_255.out _ | refine IsS53.far ?_ NB248_294.out _ | refine IsS53.far ?_ NB248_311.out _) | exact HI248.out)); (case side2 => repeat (first | (with_reducible first | exact HB.out | apply below_alloc | apply pw_below_drewN | apply below_drew1 | refine below_set ?_ (IsS53.ge HI248.out) | refine below_set ?_ GE242.out | refine below_set ?_ GE243.out | refine below_set ?_ GE254.out | refine below_set ?_ GE255.out | refine below_set ?_ GE294.out | refine below_set ?_ GE311.out) | exact HB.out)); rintro e w171 ⟨rfl, hi, hb, hk⟩; refine ⟨_, rfl, ?_⟩; replace HO_16 := za (Kd.R_mono (Kd.R_keep (IsS53.apart (show IsS53 w _ g248 t246 x249001_6 from qfa) (by (with_reducible repeat (first | apply Kd.R_alloc | apply Kd.R_drewN | apply Kd.R_drew)); exact HO_16.out) (by decide)) hk (fun _ h => h.2)) (fun _ h => h.1)); replace HO_17 := za (Kd.R_mono (Kd.R_keep (IsS53.apart (show IsS53 w _ g248 t246 x249001_6 from qfa) (by (with_reducible repeat (first | apply Kd.R_alloc | apply Kd.R_drewN | apply Kd.R_drew)); exact HO_17.out) (by decide)) hk (fun _ h => h.2)) (fun _ h => h.1)); replace HO_312000 := za (Kd.Q_mono (Kd.Q_keep (IsS53.apartQ (show IsS53 w _ g248 t246 x249001_6 from qfa) qfe (by decide)) hk (fun _ h => h.2)) (fun _ h => h.1)); replace BK242 := zk hk BK242 NB242_248; replace BK243 := zk hk BK243 NB243_248; replace BK254 := zk hk BK254 NB254_248; replace BK255 := zk hk BK255 NB255_248; replace BK294 := zk hk BK294 NB294_248; replace BK311 := zk hk BK311 NB311_248; replace HB := za (hb); replace HI248 := za (hi); (try clear hb); (try clear hb2); (try clear hk); (try clear hi); have hnb172 := NB311_242.out; have hnc172 := NB242_311.out; have hnb173 := NB311_243.out; have hnc173 := NB243_311.out; have hnb174 := NB311_254.out; have hnc174 := NB254_311.out; have hnb175 := NB311_255.out; have hnc175 := NB255_311.out; have hnb176 := NB311_294.out; have hnc176 := NB294_311.out; have hnb177 := NB311_248.out; have hnc177 := NB248_311.out; obtain ⟨hcz178_0, hcz178_1, hfz178_0, hfz178_1⟩ := z2 BK311; have hnb179 := NB243_242.out; have hnc179 := NB242_243.out; have hnb180 := NB243_254.out; have hnc180 := NB254_243.out; have hnb181 := NB243_255.out; have hnc181 := NB255_243.out; have hnb182 := NB243_294.out; have hnc182 := NB294_243.out; have hnb183 := NB243_248.out; have hnc183 := NB248_243.out; obtain ⟨hcz184_0, hcz184_1, hfz184_0, hfz184_1⟩ := z2 BK243; obtain ⟨Ao185, co185, eo185, _⟩ := Kd.Q_slice HO_312000.out; subst eo185; have hai186 : ∀ W : World, (Instr.index 43 (.agg #[.slice Ao185 x312000_6.length co185, .bool x312001_6, .slice A5_0 l5_0.length c5_0, .bool a5_1]) (.int .i64 0)).run Try.prog W = .ok (.agg #[.slice Ao185 x312000_6.length co185, .bool x312001_6]) W := fun _ => rfl))
                   refine wp_loop_rounds 3 ?_
                   rw [rounds_succ]
                   go_upto_region 34 with (first | ((with_reducible refine gate_dst (N := 30) rfl ?_); (try (refine gate_guard (by rfl) ?_; dsimp only)); refine zE 30 #[.slice none 0 0, .bool false] 27 ?_; intro gb315 hg w187 hbox hb; have BK315 := za (hbox); have GW315 := zg HB hg; have GE315 := zg HB hg; have NB242_315 := zl BK242 hg; have NB315_242 := zr BK242 hg; have NB243_315 := zl BK243 hg; have NB315_243 := zr BK243 hg; have NB254_315 := zl BK254 hg; have NB315_254 := zr BK254 hg; have NB255_315 := zl BK255 hg; have NB315_255 := zr BK255 hg; have NB294_315 := zl BK294 hg; have NB315_294 := zr BK294 hg; have NB311_315 := zl BK311 hg; have NB315_311 := zr BK311 hg; have NB248_315 := za ((qfl : g248 ≠ gb315)); have NB315_248 := za ((qfm : gb315 ≠ g248)); replace HO_16 := zR HO_16 hb; replace HO_17 := zR HO_17 hb; replace HO_312000 := za (Kd.Q_below qfe hb); replace BK242 := zb BK242 hb; replace BK243 := zb BK243 hb; replace BK254 := zb BK254 hb; replace BK255 := zb BK255 hb; replace BK294 := zb BK294 hb; replace BK311 := zb BK311 hb; replace HI248 := za (IsS53.below (qfa) hb); replace HB := zs HB hb; clear hb hbox hg; have hnb188 := NB315_242.out; have hnc188 := NB242_315.out; have hnb189 := NB315_243.out; have hnc189 := NB243_315.out; have hnb190 := NB315_254.out; have hnc190 := NB254_315.out; have hnb191 := NB315_255.out; have hnc191 := NB255_315.out; have hnb192 := NB315_294.out; have hnc192 := NB294_315.out; have hnb193 := NB315_311.out; have hnc193 := NB311_315.out; have hnb194 := NB315_248.out; have hnc194 := NB248_315.out; obtain ⟨hcz195_0, hcz195_1, hfz195_0, hfz195_1⟩ := z2 BK315; have hnb196 := NB294_242.out; have hnc196 := NB242_294.out; have hnb197 := NB294_254.out; have hnc197 := NB254_294.out; have hnb198 := NB294_255.out; have hnc198 := NB255_294.out; have hnb199 := NB294_248.out; have hnc199 := NB248_294.out; obtain ⟨hcz200_0, hcz200_1, hcz200_2, hcz200_3, hfz200_0, hfz200_1, hfz200_2, hfz200_3⟩ := z4 BK294) | ((with_reducible refine gate_callee (f := 23) rfl ?_); refine goesL_ (some 205) rfl rfl Try.func23 (by kernel_rfl) rfl #[.agg #[.int .i64 (ji108), .int .i64 (ji109), .int .i64 (ji110), .int .i64 (ji111)], .agg #[.slice Ao185 x312000_6.length co185, .bool x312001_6], .bool t312] rfl qfc ?_; (with_reducible refine (monitor_Step.calls k6 (ji108) (ji109) (ji110) (ji111) _ _ x312000_6 x312001_6 t312 t316 t319 t320 _ ?side1 ?side2 A168.out).mono ?_); (case side1 => refine (Kd.Q_reads' (e := 4) (base := w.heap.size) (ok := fun k_ => True) (n := x312000_6.length) (c := co185) ?_).2.2; exact qfi); (case side2 => exact (Kd.Q_reads' HO_312000.out).2.1); rintro e w201 ⟨v317, rfl, ho0, hb⟩; refine ⟨_, rfl, ?_⟩; have HO318 := za (Kd.Q_lower (Kd.Q_new' ho0 (Kd.Q_lt qfi)) (below_size (zm HB))); replace HO_16 := za (Kd.R_below (by (with_reducible repeat (first | apply Kd.R_alloc | apply Kd.R_drewN | apply Kd.R_drew)); exact (Kd.R_mono (Kd.R_far (p := ⟨gb315, 1, none⟩) (Kd.R_far (p := ⟨gb315, 0, none⟩) (Kd.R_types HO_16.out BK315.out (by decide)) (fun _ hk => hk.2) (.slice Ao185 x312000_6.length co185)) (fun _ hk => hk.2) (.bool x312001_6)) (fun _ h_ => h_.1))) hb); replace HO_17 := za (Kd.R_below (by (with_reducible repeat (first | apply Kd.R_alloc | apply Kd.R_drewN | apply Kd.R_drew)); exact (Kd.R_mono (Kd.R_far (p := ⟨gb315, 1, none⟩) (Kd.R_far (p := ⟨gb315, 0, none⟩) (Kd.R_types HO_17.out BK315.out (by decide)) (fun _ hk => hk.2) (.slice Ao185 x312000_6.length co185)) (fun _ hk => hk.2) (.bool x312001_6)) (fun _ h_ => h_.1))) hb); replace HO_312000 := za (Kd.Q_elder' qfi (Kd.Q_base ho0) hb); replace BK242 := zb BK242 hb; replace BK243 := zb BK243 hb; replace BK254 := zb BK254 hb; replace BK255 := zb BK255 hb; replace BK294 := zb BK294 hb; replace BK311 := zb BK311 hb; replace HI248 := za (IsS53.below (show IsS53 w ((w187.setCell ⟨gb315, 0, none⟩ (.slice Ao185 x312000_6.length co185)).setCell ⟨gb315, 1, none⟩ (.bool x312001_6)) g248 t246 t313 from qfa) hb); replace BK315 := za (blk_below (g := gb315) (o := .cells #[.slice Ao185 x312000_6.length co185, .bool x312001_6] 27 (0, 0)) (by (with_reducible repeat (first | refine blk_drewN ?_ _ | refine blk_drew ?_ | refine blk_alloc ?_ _)); refine blk_put (cs := #[.slice Ao185 x312000_6.length co185, .bool false]) ?_ 1 _ rfl; (with_reducible repeat (first | refine blk_drewN ?_ _ | refine blk_drew ?_ | refine blk_alloc ?_ _)); refine blk_put (cs := #[.slice none 0 0, .bool false]) ?_ 0 _ rfl; (with_reducible repeat (first | refine blk_drewN ?_ _ | refine blk_drew ?_ | refine blk_alloc ?_ _)); exact BK315.out) hb); replace HB := zs HB hb; (try clear hb); (try clear hb2); (try clear hk); (try clear hi); (try clear ho0)) | ((with_reducible refine gate_dst (N := 31) rfl ?_); (try (refine gate_guard (by rfl) ?_; dsimp only)); refine zE 31 #[.slice none 0 0, .bool false] 27 ?_; intro gb321 hg w202 hbox hb; have BK321 := za (hbox); have GW321 := zg HB hg; have GE321 := zg HB hg; have NB242_321 := zl BK242 hg; have NB321_242 := zr BK242 hg; have NB243_321 := zl BK243 hg; have NB321_243 := zr BK243 hg; have NB254_321 := zl BK254 hg; have NB321_254 := zr BK254 hg; have NB255_321 := zl BK255 hg; have NB321_255 := zr BK255 hg; have NB294_321 := zl BK294 hg; have NB321_294 := zr BK294 hg; have NB311_321 := zl BK311 hg; have NB321_311 := zr BK311 hg; have NB315_321 := zl BK315 hg; have NB321_315 := zr BK315 hg; have NB248_321 := za ((qfl : g248 ≠ gb321)); have NB321_248 := za ((qfm : gb321 ≠ g248)); replace HO_16 := zR HO_16 hb; replace HO_17 := zR HO_17 hb; replace HO_312000 := za (Kd.Q_below qfe hb); replace HO318 := za (Kd.Q_below (by (with_reducible repeat (first | apply Kd.Q_alloc | apply Kd.Q_drewN | apply Kd.Q_drew)); exact HO318.out) hb); replace BK242 := zb BK242 hb; replace BK243 := zb BK243 hb; replace BK254 := zb BK254 hb; replace BK255 := zb BK255 hb; replace BK294 := zb BK294 hb; replace BK311 := zb BK311 hb; replace HI248 := za (IsS53.below (qfa) hb); replace BK315 := zb BK315 hb; replace HB := zs HB hb; clear hb hbox hg; obtain ⟨Ao203, co203, eo203, _⟩ := Kd.Q_slice HO318.out; subst eo203; have hnb204 := NB321_242.out; have hnc204 := NB242_321.out; have hnb205 := NB321_243.out; have hnc205 := NB243_321.out; have hnb206 := NB321_254.out; have hnc206 := NB254_321.out; have hnb207 := NB321_255.out; have hnc207 := NB255_321.out; have hnb208 := NB321_294.out; have hnc208 := NB294_321.out; have hnb209 := NB321_311.out; have hnc209 := NB311_321.out; have hnb210 := NB321_315.out; have hnc210 := NB315_321.out; have hnb211 := NB321_248.out; have hnc211 := NB248_321.out; obtain ⟨hcz212_0, hcz212_1, hfz212_0, hfz212_1⟩ := z2 BK321; obtain ⟨hcz213_0, hcz213_1, hcz213_2, hcz213_3, hfz213_0, hfz213_1, hfz213_2, hfz213_3⟩ := z4 BK294; obtain ⟨hcz214_0, hcz214_1, hfz214_0, hfz214_1⟩ := z2 BK315) | ((with_reducible refine gate_callee (f := 24) rfl ?_); refine goesL_ (some 212) rfl rfl Try.func24 (by kernel_rfl) rfl #[.agg #[.int .i64 (ji108), .int .i64 (ji109), .int .i64 (ji110), .int .i64 (ji111)], .agg #[.slice Ao185 x312000_6.length co185, .bool x312001_6], .bool t312] rfl qfc ?_; (with_reducible refine (awardingbodyref27_Step.calls k6 (ji108) (ji109) (ji110) (ji111) _ _ x312000_6 x312001_6 t312 t322 t325 t326 _ ?side1 ?side2 A169.out).mono ?_); (case side1 => refine (Kd.Q_reads' (e := 4) (base := w.heap.size) (ok := fun k_ => (True ∧ some k_ ≠ (.slice Ao203 t316.length co203 : Value).ownBlock)) (n := x312000_6.length) (c := co185) ?_).2.2; exact qfj); (case side2 => exact (Kd.Q_reads' HO_312000.out).2.1); rintro e w215 ⟨v323, rfl, ho0, hb⟩; refine ⟨_, rfl, ?_⟩; have HO324 := za (Kd.Q_lower (Kd.Q_new' (Kd.Q_new' ho0 (Kd.Q_lt qfj)) (Kd.Q_lt qfz)) (below_size (zm HB))); replace HO_16 := za (Kd.R_below (by (with_reducible repeat (first | apply Kd.R_alloc | apply Kd.R_drewN | apply Kd.R_drew)); exact (Kd.R_mono (Kd.R_far (p := ⟨gb321, 1, none⟩) (Kd.R_far (p := ⟨gb321, 0, none⟩) (Kd.R_types HO_16.out BK321.out (by decide)) (fun _ hk => hk.2) (.slice Ao203 t316.length co203)) (fun _ hk => hk.2) (.bool t319)) (fun _ h_ => h_.1))) hb); replace HO_17 := za (Kd.R_below (by (with_reducible repeat (first | apply Kd.R_alloc | apply Kd.R_drewN | apply Kd.R_drew)); exact (Kd.R_mono (Kd.R_far (p := ⟨gb321, 1, none⟩) (Kd.R_far (p := ⟨gb321, 0, none⟩) (Kd.R_types HO_17.out BK321.out (by decide)) (fun _ hk => hk.2) (.slice Ao203 t316.length co203)) (fun _ hk => hk.2) (.bool t319)) (fun _ h_ => h_.1))) hb); replace HO_312000 := za (Kd.Q_elder' qfj (Kd.Q_base ho0) hb); replace HO318 := za (Kd.Q_elder' qfz (Kd.Q_base ho0) hb); replace BK242 := zb BK242 hb; replace BK243 := zb BK243 hb; replace BK254 := zb BK254 hb; replace BK255 := zb BK255 hb; replace BK294 := zb BK294 hb; replace BK311 := zb BK311 hb; replace HI248 := za (IsS53.below (show IsS53 w ((w202.setCell ⟨gb321, 0, none⟩ (.slice Ao203 t316.length co203)).setCell ⟨gb321, 1, none⟩ (.bool t319)) g248 t246 t313 from qfa) hb); replace BK315 := zb BK315 hb; replace BK321 := za (blk_below (g := gb321) (o := .cells #[.slice Ao203 t316.length co203, .bool t319] 27 (0, 0)) (by (with_reducible repeat (first | refine blk_drewN ?_ _ | refine blk_drew ?_ | refine blk_alloc ?_ _)); refine blk_put (cs := #[.slice Ao203 t316.length co203, .bool false]) ?_ 1 _ rfl; (with_reducible repeat (first | refine blk_drewN ?_ _ | refine blk_drew ?_ | refine blk_alloc ?_ _)); refine blk_put (cs := #[.slice none 0 0, .bool false]) ?_ 0 _ rfl; (with_reducible repeat (first | refine blk_drewN ?_ _ | refine blk_drew ?_ | refine blk_alloc ?_ _)); exact BK321.out) hb); replace HB := zs HB hb; (try clear hb); (try clear hb2); (try clear hk); (try clear hi); (try clear ho0)) | ((with_reducible refine gate_dst (N := 33) rfl ?_); (try (refine gate_guard (by rfl) ?_; dsimp only)); refine zE 33 #[.slice none 0 0, .bool false] 27 ?_; intro gb327 hg w216 hbox hb; have BK327 := za (hbox); have GW327 := zg HB hg; have GE327 := zg HB hg; have NB242_327 := zl BK242 hg; have NB327_242 := zr BK242 hg; have NB243_327 := zl BK243 hg; have NB327_243 := zr BK243 hg; have NB254_327 := zl BK254 hg; have NB327_254 := zr BK254 hg; have NB255_327 := zl BK255 hg; have NB327_255 := zr BK255 hg; have NB294_327 := zl BK294 hg; have NB327_294 := zr BK294 hg; have NB311_327 := zl BK311 hg; have NB327_311 := zr BK311 hg; have NB315_327 := zl BK315 hg; have NB327_315 := zr BK315 hg; have NB321_327 := zl BK321 hg; have NB327_321 := zr BK321 hg; have NB248_327 := za ((qfl : g248 ≠ gb327)); have NB327_248 := za ((qfm : gb327 ≠ g248)); replace HO_16 := zR HO_16 hb; replace HO_17 := zR HO_17 hb; replace HO_312000 := za (Kd.Q_below qfe hb); replace HO318 := za (Kd.Q_below (by (with_reducible repeat (first | apply Kd.Q_alloc | apply Kd.Q_drewN | apply Kd.Q_drew)); exact HO318.out) hb); replace HO324 := za (Kd.Q_below (by (with_reducible repeat (first | apply Kd.Q_alloc | apply Kd.Q_drewN | apply Kd.Q_drew)); exact HO324.out) hb); replace BK242 := zb BK242 hb; replace BK243 := zb BK243 hb; replace BK254 := zb BK254 hb; replace BK255 := zb BK255 hb; replace BK294 := zb BK294 hb; replace BK311 := zb BK311 hb; replace HI248 := za (IsS53.below (qfa) hb); replace BK315 := zb BK315 hb; replace BK321 := zb BK321 hb; replace HB := zs HB hb; clear hb hbox hg; obtain ⟨Ao217, co217, eo217, _⟩ := Kd.Q_slice HO324.out; subst eo217; have hnb218 := NB327_242.out; have hnc218 := NB242_327.out; have hnb219 := NB327_243.out; have hnc219 := NB243_327.out; have hnb220 := NB327_254.out; have hnc220 := NB254_327.out; have hnb221 := NB327_255.out; have hnc221 := NB255_327.out; have hnb222 := NB327_294.out; have hnc222 := NB294_327.out; have hnb223 := NB327_311.out; have hnc223 := NB311_327.out; have hnb224 := NB327_315.out; have hnc224 := NB315_327.out; have hnb225 := NB327_321.out; have hnc225 := NB321_327.out; have hnb226 := NB327_248.out; have hnc226 := NB248_327.out; obtain ⟨hcz227_0, hcz227_1, hfz227_0, hfz227_1⟩ := z2 BK327))
                   (try simp only [Act.put, List.setIfInBounds_toArray, List.set_cons_zero, List.set_cons_succ])
                   go_cut [223] (fun v223 wc => ∃ (kq : Nat) (x223_169 : Bool), v223 = .bool x223_169 ∧ Aside0 (awardingbodylaw27_MonitorExact.j6 kq l2 l3 l4 y282 y289 x27_6 t312 x112_3 x223_169 l5_0 a5_1 t246 t313 t249 t250 t251 t252 x256000_22 x256001_22 x256002_22 x256003_22 a1_0 a1_1 a1_2 a1_3 (ji108) (ji109) (ji110) (ji111) x312000_6 x312001_6 x312000_6 x312001_6 l5_0 a5_1 = some r) ∧ Aside0 (kq ≤ k6) ∧ Aside0 (Kd.R (Kd.int .i64) 3 wc w.heap.size (fun k_ => some k_ ≠ (v290 : Value).ownBlock) v283 y282) ∧ Aside0 (Kd.R (Kd.int .i64) 3 wc w.heap.size (fun k_ => some k_ ≠ (v283 : Value).ownBlock) v290 y289) ∧ Aside0 (Kd.Q Kd.bool 4 wc w.heap.size (fun k_ => some k_ ≠ ((.slice Ao203 t316.length co203) : Value).ownBlock ∧ some k_ ≠ ((.slice Ao217 t322.length co217) : Value).ownBlock) (.slice Ao185 x312000_6.length co185) x312000_6) ∧ Aside0 (Kd.Q Kd.bool 4 wc w.heap.size (fun k_ => some k_ ≠ ((.slice Ao203 t316.length co203) : Value).ownBlock ∧ some k_ ≠ ((.slice Ao217 t322.length co217) : Value).ownBlock) (.slice Ao185 x312000_6.length co185) x312000_6) ∧ Aside0 (Kd.Q Kd.bool 4 wc w.heap.size (fun k_ => some k_ ≠ ((.slice Ao203 t316.length co203) : Value).ownBlock ∧ some k_ ≠ ((.slice Ao217 t322.length co217) : Value).ownBlock) (.slice Ao185 x312000_6.length co185) x312000_6) ∧ Aside0 (Kd.Q Kd.bool 4 wc w.heap.size (fun k_ => some k_ ≠ ((.slice Ao185 x312000_6.length co185) : Value).ownBlock ∧ some k_ ≠ ((.slice Ao185 x312000_6.length co185) : Value).ownBlock ∧ some k_ ≠ ((.slice Ao185 x312000_6.length co185) : Value).ownBlock ∧ some k_ ≠ ((.slice Ao217 t322.length co217) : Value).ownBlock) (.slice Ao203 t316.length co203) t316) ∧ Aside0 (Kd.Q Kd.bool 4 wc w.heap.size (fun k_ => some k_ ≠ ((.slice Ao185 x312000_6.length co185) : Value).ownBlock ∧ some k_ ≠ ((.slice Ao185 x312000_6.length co185) : Value).ownBlock ∧ some k_ ≠ ((.slice Ao185 x312000_6.length co185) : Value).ownBlock ∧ some k_ ≠ ((.slice Ao203 t316.length co203) : Value).ownBlock) (.slice Ao217 t322.length co217) t322) ∧ Aside0 (wc.heap[gb242]? = some (.cells #[.int .i64 a1_0, .int .i64 a1_1, .int .i64 a1_2, .int .i64 a1_3] 24 (0, 0))) ∧ Aside0 (wc.heap[gb243]? = some (.cells #[(.slice A5_0 l5_0.length c5_0), .bool a5_1] 27 (0, 0))) ∧ Aside0 (wc.heap[gb254]? = some (.cells #[.int .i64 t249, .int .i64 t250, .int .i64 t251, .int .i64 t252] 24 (0, 0))) ∧ Aside0 (wc.heap[gb255]? = some (.cells #[.int .i64 x256000_22, .int .i64 x256001_22, .int .i64 x256002_22, .int .i64 x256003_22] 24 (0, 0))) ∧ Aside0 (wc.heap[gb294]? = some (.cells #[.int .i64 (ji108), .int .i64 (ji109), .int .i64 (ji110), .int .i64 (ji111)] 24 (0, 0))) ∧ Aside0 (wc.heap[gb311]? = some (.cells #[(.slice Ao185 x312000_6.length co185), .bool x312001_6] 27 (0, 0))) ∧ Aside0 (wc.heap[gb315]? = some (.cells #[(.slice Ao185 x312000_6.length co185), .bool x312001_6] 27 (0, 0))) ∧ Aside0 (wc.heap[gb321]? = some (.cells #[(.slice Ao203 t316.length co203), .bool t319] 27 (0, 0))) ∧ Aside0 (wc.heap[gb327]? = some (.cells #[(.slice Ao217 t322.length co217), .bool t325] 27 (0, 0))) ∧ Aside0 (IsS53 w wc g248 t246 t313) ∧ Aside0 (Below w.heap.size w wc))
                   case first =>
                    as_aux_lemma =>
                    have H := HC170.out
                    clear HC170
                    replace H := Option.bind_eq_some_iff.mp H
                    obtain ⟨t328, A2280, H⟩ := H
                    replace H : (if t328 = true then (awardingbodylaw27_MonitorExact.j6 k6 l2 l3 l4 y282 y289 x27_6 t312 x112_3 (t320 != t326) l5_0 a5_1 t246 t313 t249 t250 t251 t252 x256000_22 x256001_22 x256002_22 x256003_22 a1_0 a1_1 a1_2 a1_3 (ji108) (ji109) (ji110) (ji111) x312000_6 x312001_6 x312000_6 x312001_6 l5_0 a5_1) else (none)) = some r := H
                    have A228 := za A2280; clear A2280
                    by_cases c229 : t328 = true
                    ·subst c229
                     have H1 : (awardingbodylaw27_MonitorExact.j6 k6 l2 l3 l4 y282 y289 x27_6 t312 x112_3 (t320 != t326) l5_0 a5_1 t246 t313 t249 t250 t251 t252 x256000_22 x256001_22 x256002_22 x256003_22 a1_0 a1_1 a1_2 a1_3 (ji108) (ji109) (ji110) (ji111) x312000_6 x312001_6 x312000_6 x312001_6 l5_0 a5_1) = some r := by rw [if_pos rfl] at H; exact H
                     clear H; have H := H1; clear H1; have H' := za H; clear H
                     have hnb230 := NB321_242.out
                     have hnc230 := NB242_321.out
                     have hnb231 := NB321_243.out
                     have hnc231 := NB243_321.out
                     have hnb232 := NB321_254.out
                     have hnc232 := NB254_321.out
                     have hnb233 := NB321_255.out
                     have hnc233 := NB255_321.out
                     have hnb234 := NB321_294.out
                     have hnc234 := NB294_321.out
                     have hnb235 := NB321_311.out
                     have hnc235 := NB311_321.out
                     have hnb236 := NB321_315.out
                     have hnc236 := NB315_321.out
                     have hnb237 := NB321_327.out
                     have hnc237 := NB327_321.out
                     have hnb238 := NB321_248.out
                     have hnc238 := NB248_321.out
                     obtain ⟨hcz239_0, hcz239_1, hfz239_0, hfz239_1⟩ := z2 BK321
                     have hnb240 := NB327_242.out
                     have hnc240 := NB242_327.out
                     have hnb241 := NB327_243.out
                     have hnc241 := NB243_327.out
                     have hnb242 := NB327_254.out
                     have hnc242 := NB254_327.out
                     have hnb243 := NB327_255.out
                     have hnc243 := NB255_327.out
                     have hnb244 := NB327_294.out
                     have hnc244 := NB294_327.out
                     have hnb245 := NB327_311.out
                     have hnc245 := NB311_327.out
                     have hnb246 := NB327_315.out
                     have hnc246 := NB315_327.out
                     have hnb247 := NB327_248.out
                     have hnc247 := NB248_327.out
                     obtain ⟨hcz248_0, hcz248_1, hfz248_0, hfz248_1⟩ := z2 BK327
                     go_wp2_with (first | ((with_reducible refine gate_callee (f := 25) rfl ?_); refine zL (some 217) Try.func25 #[.agg #[.slice Ao203 t316.length co203, .bool t319], .agg #[.slice Ao217 t322.length co217, .bool t325]] ?_; (with_reducible refine (awardingbodylaw27_same.calls k6 _ _ t316 t319 _ _ t322 t325 true _ ?side1 ?side2 ?side3 ?side4 A228.out).mono ?_); (case side1 => refine (Kd.Q_reads' (e := 4) (base := w.heap.size) (ok := fun k_ => ((True ∧ some k_ ≠ (.slice Ao185 x312000_6.length co185 : Value).ownBlock) ∧ some k_ ≠ (.slice Ao217 t322.length co217 : Value).ownBlock)) (n := t316.length) (c := co203) ?_).2.2; exact qfz26); (case side2 => exact (Kd.Q_reads' HO318.out).2.1); (case side3 => refine (Kd.Q_reads' (e := 4) (base := w.heap.size) (ok := fun k_ => ((True ∧ some k_ ≠ (.slice Ao185 x312000_6.length co185 : Value).ownBlock) ∧ some k_ ≠ (.slice Ao203 t316.length co203 : Value).ownBlock)) (n := t322.length) (c := co217) ?_).2.2; exact qfz27); (case side4 => exact (Kd.Q_reads' HO324.out).2.1); rintro e w249 ⟨rfl, hb⟩; refine ⟨_, rfl, ?_⟩; replace HO_16 := za (Kd.R_below (by (with_reducible repeat (first | apply Kd.R_alloc | apply Kd.R_drewN | apply Kd.R_drew)); exact (Kd.R_mono (Kd.R_far (p := ⟨gb327, 1, none⟩) (Kd.R_far (p := ⟨gb327, 0, none⟩) (Kd.R_types HO_16.out BK327.out (by decide)) (fun _ hk => hk.2) (.slice Ao217 t322.length co217)) (fun _ hk => hk.2) (.bool t325)) (fun _ h_ => h_.1))) hb); replace HO_17 := za (Kd.R_below (by (with_reducible repeat (first | apply Kd.R_alloc | apply Kd.R_drewN | apply Kd.R_drew)); exact (Kd.R_mono (Kd.R_far (p := ⟨gb327, 1, none⟩) (Kd.R_far (p := ⟨gb327, 0, none⟩) (Kd.R_types HO_17.out BK327.out (by decide)) (fun _ hk => hk.2) (.slice Ao217 t322.length co217)) (fun _ hk => hk.2) (.bool t325)) (fun _ h_ => h_.1))) hb); replace HO_312000 := za (Kd.Q_below (by (with_reducible repeat (first | apply Kd.Q_alloc | apply Kd.Q_drewN | apply Kd.Q_drew)); exact (Kd.Q_mono (Kd.Q_far (p := ⟨gb327, 1, none⟩) (Kd.Q_far (p := ⟨gb327, 0, none⟩) (Kd.Q_types HO_312000.out BK327.out (by decide)) (fun _ hk => hk.2) (.slice Ao217 t322.length co217)) (fun _ hk => hk.2) (.bool t325)) (fun _ h_ => h_.1))) hb); replace HO318 := za (Kd.Q_below qfz26 hb); replace HO324 := za (Kd.Q_below qfz27 hb); replace BK242 := zb BK242 hb; replace BK243 := zb BK243 hb; replace BK254 := zb BK254 hb; replace BK255 := zb BK255 hb; replace BK294 := zb BK294 hb; replace BK311 := zb BK311 hb; replace HI248 := za (IsS53.below (show IsS53 w ((w216.setCell ⟨gb327, 0, none⟩ (.slice Ao217 t322.length co217)).setCell ⟨gb327, 1, none⟩ (.bool t325)) g248 t246 t313 from qfa) hb); replace BK315 := zb BK315 hb; replace BK321 := zb BK321 hb; replace BK327 := za (blk_below (g := gb327) (o := .cells #[.slice Ao217 t322.length co217, .bool t325] 27 (0, 0)) (by (with_reducible repeat (first | refine blk_drewN ?_ _ | refine blk_drew ?_ | refine blk_alloc ?_ _)); refine blk_put (cs := #[.slice Ao217 t322.length co217, .bool false]) ?_ 1 _ rfl; (with_reducible repeat (first | refine blk_drewN ?_ _ | refine blk_drew ?_ | refine blk_alloc ?_ _)); refine blk_put (cs := #[.slice none 0 0, .bool false]) ?_ 0 _ rfl; (with_reducible repeat (first | refine blk_drewN ?_ _ | refine blk_drew ?_ | refine blk_alloc ?_ _)); exact BK327.out) hb); replace HB := zs HB hb; (try clear hb); (try clear hb2); (try clear hk); (try clear hi)))
                     go_meet
                     case rel => exact ⟨_, ((t320 != t326)), qfk, H', ⟨by have := HJ6.out; have := HJ22.out; have := HK3.out; have := HJ111.out; have := HJ151.out; have := HK6.out; first | omega | exact Nat.le_refl _⟩, ⟨by (with_reducible repeat (first | apply Kd.R_alloc | apply Kd.R_drewN | apply Kd.R_drew)); exact HO_16.out⟩, ⟨by (with_reducible repeat (first | apply Kd.R_alloc | apply Kd.R_drewN | apply Kd.R_drew)); exact HO_17.out⟩, ⟨by (with_reducible repeat (first | apply Kd.Q_alloc | apply Kd.Q_drewN | apply Kd.Q_drew)); exact Kd.Q_mono HO_312000.out (fun _ hk => ⟨hk.1.2, hk.2⟩)⟩, ⟨by (with_reducible repeat (first | apply Kd.Q_alloc | apply Kd.Q_drewN | apply Kd.Q_drew)); exact Kd.Q_mono HO_312000.out (fun _ hk => ⟨hk.1.2, hk.2⟩)⟩, ⟨by (with_reducible repeat (first | apply Kd.Q_alloc | apply Kd.Q_drewN | apply Kd.Q_drew)); exact Kd.Q_mono HO_312000.out (fun _ hk => ⟨hk.1.2, hk.2⟩)⟩, ⟨by (with_reducible repeat (first | apply Kd.Q_alloc | apply Kd.Q_drewN | apply Kd.Q_drew)); exact Kd.Q_mono HO318.out (fun _ hk => ⟨hk.1.2, ⟨hk.1.2, ⟨hk.1.2, hk.2⟩⟩⟩)⟩, ⟨by (with_reducible repeat (first | apply Kd.Q_alloc | apply Kd.Q_drewN | apply Kd.Q_drew)); exact Kd.Q_mono HO324.out (fun _ hk => ⟨hk.1.2, ⟨hk.1.2, ⟨hk.1.2, hk.2⟩⟩⟩)⟩, ⟨qfb⟩, ⟨qfb⟩, ⟨qfb⟩, ⟨qfb⟩, ⟨qfb⟩, ⟨qfb⟩, ⟨qfb⟩, ⟨qfb⟩, ⟨qfb⟩, ⟨qfa⟩, ⟨zm HB⟩⟩
                    ·replace c229 := Bool.eq_false_iff.mpr c229
                     subst c229
                     have H1 : (none) = some r := by rw [if_neg (show ¬ (false = true) by decide)] at H; exact H
                     clear H; have H := H1; clear H1
                     exact absurd H (by simp)
                   case rest =>
                    clear HC170; (try clear c1); (try clear c2); (try clear p2); (try clear c3); (try clear c4); (try clear c5); (try clear c12); (try clear c14); (try clear c15); (try clear c16); (try clear c17); (try clear c18); (try clear c19); (try clear c20); (try clear c21); (try clear c22); (try clear c23); (try clear c24); (try clear c25); (try clear c123); (try clear c123b0); (try clear c123b1); (try clear c149); (try clear c153); (try clear c154); (try clear c155); (try clear c156); (try clear c157); (try clear c162); (try clear c162b0); (try clear c162b1); (try clear c163); (try clear c163b0); (try clear c163b1); (try clear c164); (try clear c166); (try clear c166b0); (try clear c172); (try clear c173); (try clear c174); (try clear c175); (try clear c176); (try clear c177); (try clear c179); (try clear c180); (try clear c181); (try clear c182); (try clear c183); (try clear c188); (try clear c189); (try clear c190); (try clear c191); (try clear c192); (try clear c193); (try clear c194); (try clear c196); (try clear c197); (try clear c198); (try clear c199); (try clear c204); (try clear c205); (try clear c206); (try clear c207); (try clear c208); (try clear c209); (try clear c210); (try clear c211); (try clear c218); (try clear c219); (try clear c220); (try clear c221); (try clear c222); (try clear c223); (try clear c224); (try clear c225); (try clear c226); (try clear c229); (try clear c230); (try clear c231); (try clear c232); (try clear c233); (try clear c234); (try clear c235); (try clear c236); (try clear c237); (try clear c238); (try clear c240); (try clear c241); (try clear c242); (try clear c243); (try clear c244); (try clear c245); (try clear c246); (try clear c247); (try clear hcz158_0); (try clear hcz158_1); (try clear hcz158_2); (try clear hcz158_3); (try clear hcz160_0); (try clear hcz160_1); (try clear hcz160_2); (try clear hcz160_3); (try clear hcz178_0); (try clear hcz178_1); (try clear hcz184_0); (try clear hcz184_1); (try clear hcz195_0); (try clear hcz195_1); (try clear hcz200_0); (try clear hcz200_1); (try clear hcz200_2); (try clear hcz200_3); (try clear hcz212_0); (try clear hcz212_1); (try clear hcz213_0); (try clear hcz213_1); (try clear hcz213_2); (try clear hcz213_3); (try clear hcz214_0); (try clear hcz214_1); (try clear hcz227_0); (try clear hcz227_1); (try clear hcz239_0); (try clear hcz239_1); (try clear hcz248_0); (try clear hcz248_1); (try clear hfz158_0); (try clear hfz158_1); (try clear hfz158_2); (try clear hfz158_3); (try clear hfz160_0); (try clear hfz160_1); (try clear hfz160_2); (try clear hfz160_3); (try clear hfz178_0); (try clear hfz178_1); (try clear hfz184_0); (try clear hfz184_1); (try clear hfz195_0); (try clear hfz195_1); (try clear hfz200_0); (try clear hfz200_1); (try clear hfz200_2); (try clear hfz200_3); (try clear hfz212_0); (try clear hfz212_1); (try clear hfz213_0); (try clear hfz213_1); (try clear hfz213_2); (try clear hfz213_3); (try clear hfz214_0); (try clear hfz214_1); (try clear hfz227_0)
                    (try clear hfz227_1); (try clear hfz239_0); (try clear hfz239_1); (try clear hfz248_0); (try clear hfz248_1); (try clear p2)
                    obtain ⟨kq, x223_169, rfl, HA, HJ169, HO_16, HO_17, HO_312000, HO_315000, HO_316000, HO_322000, HO_328000, BK242, BK243, BK254, BK255, BK294, BK311, BK315, BK321, BK327, HI248, HB⟩ := hcut
                    cases kq with
                    | zero => exact absurd HA.out (by simp [awardingbodylaw27_MonitorExact.j6])
                    | succ kj169 =>
                     have H := HA.out
                     clear HA
                     simp only [awardingbodylaw27_MonitorExact.j6] at H
                     by_cases c250 : x223_169 = true
                     ·subst c250
                      have H1 : (none) = some r := by rw [if_pos rfl] at H; exact H
                      clear H; have H := H1; clear H1
                      exact absurd H (by simp)
                     ·replace c250 := Bool.eq_false_iff.mpr c250
                      subst c250
                      have H1 : ((monitor_Step.f kj169 (ji108) (ji109) (ji110) (ji111) l5_0 a5_1 t312).bind fun bt330 => ((awardingbodyref27_Step.f kj169 (ji108) (ji109) (ji110) (ji111) l5_0 a5_1 t312).bind fun bt336 => ((awardingbodylaw27_same.f kj169 bt330.1 bt330.2.1 bt336.1 bt336.2.1).bind fun t342 => (if t342 = true then (awardingbodylaw27_MonitorExact.j7 kj169 l2 l3 l4 y282 y289 x27_6 t312 x112_3 (bt330.2.2 != bt336.2.2) l5_0 a5_1 t246 t313 t249 t250 t251 t252 x256000_22 x256001_22 x256002_22 x256003_22 a1_0 a1_1 a1_2 a1_3 (ji108) (ji109) (ji110) (ji111) x312000_6 x312001_6) else (none))))) = some r := by rw [if_neg (show ¬ (false = true) by decide)] at H; exact H
                      clear H; have H := H1; clear H1
                      replace H := Option.bind_eq_some_iff.mp H
                      obtain ⟨⟨t330, t333, t334⟩, A2510, H⟩ := H
                      replace H : ((awardingbodyref27_Step.f kj169 (ji108) (ji109) (ji110) (ji111) l5_0 a5_1 t312).bind fun bt336 => ((awardingbodylaw27_same.f kj169 t330 t333 bt336.1 bt336.2.1).bind fun t342 => (if t342 = true then (awardingbodylaw27_MonitorExact.j7 kj169 l2 l3 l4 y282 y289 x27_6 t312 x112_3 (t334 != bt336.2.2) l5_0 a5_1 t246 t313 t249 t250 t251 t252 x256000_22 x256001_22 x256002_22 x256003_22 a1_0 a1_1 a1_2 a1_3 (ji108) (ji109) (ji110) (ji111) x312000_6 x312001_6) else (none)))) = some r := H
                      have A251 := za A2510; clear A2510
                      replace H := Option.bind_eq_some_iff.mp H
                      obtain ⟨⟨t336, t339, t340⟩, A2520, H⟩ := H
                      replace H : ((awardingbodylaw27_same.f kj169 t330 t333 t336 t339).bind fun t342 => (if t342 = true then (awardingbodylaw27_MonitorExact.j7 kj169 l2 l3 l4 y282 y289 x27_6 t312 x112_3 (t334 != t340) l5_0 a5_1 t246 t313 t249 t250 t251 t252 x256000_22 x256001_22 x256002_22 x256003_22 a1_0 a1_1 a1_2 a1_3 (ji108) (ji109) (ji110) (ji111) x312000_6 x312001_6) else (none))) = some r := H
                      have A252 := za A2520; clear A2520; have HC253 := za H; clear H
                      have hai254 : ∀ W : World, (Instr.index 43 (.agg #[.slice Ao185 x312000_6.length co185, .bool x312001_6, .slice A5_0 l5_0.length c5_0, .bool a5_1]) (.int .i64 1)).run Try.prog W = .ok (.agg #[.slice A5_0 l5_0.length c5_0, .bool a5_1]) W := fun _ => rfl
                      go_wp2
                      rw [rounds_succ]
                      go_upto_region 34 with (first | ((with_reducible refine gate_dst (N := 30) rfl ?_); (try (refine gate_guard (by rfl) ?_; dsimp only)); refine zE 30 #[.slice none 0 0, .bool false] 27 ?_; intro gb329 hg w255 hbox hb; have BK329 := za (hbox); have GW329 := zg HB hg; have GE329 := zg HB hg; have NB242_329 := zl BK242 hg; have NB329_242 := zr BK242 hg; have NB243_329 := zl BK243 hg; have NB329_243 := zr BK243 hg; have NB254_329 := zl BK254 hg; have NB329_254 := zr BK254 hg; have NB255_329 := zl BK255 hg; have NB329_255 := zr BK255 hg; have NB294_329 := zl BK294 hg; have NB329_294 := zr BK294 hg; have NB311_329 := zl BK311 hg; have NB329_311 := zr BK311 hg; have NB315_329 := zl BK315 hg; have NB329_315 := zr BK315 hg; have NB321_329 := zl BK321 hg; have NB329_321 := zr BK321 hg; have NB327_329 := zl BK327 hg; have NB329_327 := zr BK327 hg; have NB248_329 := za ((qfl : g248 ≠ gb329)); have NB329_248 := za ((qfm : gb329 ≠ g248)); replace HO_16 := zR HO_16 hb; replace HO_17 := zR HO_17 hb; replace HO_312000 := za (Kd.Q_below qfe hb); replace HO_315000 := za (Kd.Q_below qfz32 hb); replace HO_316000 := za (Kd.Q_below qff hb); replace HO_322000 := za (Kd.Q_below qfg hb); replace HO_328000 := za (Kd.Q_below qfh hb); replace BK242 := zb BK242 hb; replace BK243 := zb BK243 hb; replace BK254 := zb BK254 hb; replace BK255 := zb BK255 hb; replace BK294 := zb BK294 hb; replace BK311 := zb BK311 hb; replace BK315 := zb BK315 hb; replace BK321 := zb BK321 hb; replace BK327 := zb BK327 hb; replace HI248 := za (IsS53.below (qfa) hb); replace HB := zs HB hb; clear hb hbox hg; have hnb256 := NB329_242.out; have hnc256 := NB242_329.out; have hnb257 := NB329_243.out; have hnc257 := NB243_329.out; have hnb258 := NB329_254.out; have hnc258 := NB254_329.out; have hnb259 := NB329_255.out; have hnc259 := NB255_329.out; have hnb260 := NB329_294.out; have hnc260 := NB294_329.out; have hnb261 := NB329_311.out; have hnc261 := NB311_329.out; have hnb262 := NB329_315.out; have hnc262 := NB315_329.out; have hnb263 := NB329_321.out; have hnc263 := NB321_329.out; have hnb264 := NB329_327.out; have hnc264 := NB327_329.out; have hnb265 := NB329_248.out; have hnc265 := NB248_329.out; obtain ⟨hcz266_0, hcz266_1, hfz266_0, hfz266_1⟩ := z2 BK329; have hnb267 := NB294_242.out; have hnc267 := NB242_294.out; have hnb268 := NB294_243.out; have hnc268 := NB243_294.out; have hnb269 := NB294_254.out; have hnc269 := NB254_294.out; have hnb270 := NB294_255.out; have hnc270 := NB255_294.out; have hnb271 := NB294_311.out; have hnc271 := NB311_294.out; have hnb272 := NB294_315.out; have hnc272 := NB315_294.out; have hnb273 := NB294_321.out; have hnc273 := NB321_294.out; have hnb274 := NB294_327.out; have hnc274 := NB327_294.out; have hnb275 := NB294_248.out; have hnc275 := NB248_294.out; obtain ⟨hcz276_0, hcz276_1, hcz276_2, hcz276_3, hfz276_0, hfz276_1, hfz276_2, hfz276_3⟩ := z4 BK294) | ((with_reducible refine gate_callee (f := 23) rfl ?_); refine goesL_ (some 205) rfl rfl Try.func23 (by kernel_rfl) rfl #[.agg #[.int .i64 (ji108), .int .i64 (ji109), .int .i64 (ji110), .int .i64 (ji111)], .agg #[.slice A5_0 l5_0.length c5_0, .bool a5_1], .bool t312] rfl qfc ?_; (with_reducible refine (monitor_Step.calls kj169 (ji108) (ji109) (ji110) (ji111) _ _ l5_0 a5_1 t312 t330 t333 t334 _ ?side1 ?side2 A251.out).mono ?_); (case side1 => exact Kd.C_below HR5_0.out (zm HB)); (case side2 => exact HC5_0.out); rintro e w277 ⟨v331, rfl, ho0, hb⟩; refine ⟨_, rfl, ?_⟩; have HO332 := za (Kd.Q_lower (Kd.Q_new' (Kd.Q_new' (Kd.Q_new' (Kd.Q_new' (Kd.Q_new' ho0 (Kd.Q_lt qfu)) (Kd.Q_lt qfv)) (Kd.Q_lt qfw)) (Kd.Q_lt qfx)) (Kd.Q_lt qfy)) (below_size (zm HB))); replace HO_16 := za (Kd.R_below (by (with_reducible repeat (first | apply Kd.R_alloc | apply Kd.R_drewN | apply Kd.R_drew)); exact (Kd.R_mono (Kd.R_far (p := ⟨gb329, 1, none⟩) (Kd.R_far (p := ⟨gb329, 0, none⟩) (Kd.R_types HO_16.out BK329.out (by decide)) (fun _ hk => hk.2) (.slice A5_0 l5_0.length c5_0)) (fun _ hk => hk.2) (.bool a5_1)) (fun _ h_ => h_.1))) hb); replace HO_17 := za (Kd.R_below (by (with_reducible repeat (first | apply Kd.R_alloc | apply Kd.R_drewN | apply Kd.R_drew)); exact (Kd.R_mono (Kd.R_far (p := ⟨gb329, 1, none⟩) (Kd.R_far (p := ⟨gb329, 0, none⟩) (Kd.R_types HO_17.out BK329.out (by decide)) (fun _ hk => hk.2) (.slice A5_0 l5_0.length c5_0)) (fun _ hk => hk.2) (.bool a5_1)) (fun _ h_ => h_.1))) hb); replace HO_312000 := za (Kd.Q_elder' qfu (Kd.Q_base ho0) hb); replace HO_315000 := za (Kd.Q_elder' qfv (Kd.Q_base ho0) hb); replace HO_316000 := za (Kd.Q_elder' qfw (Kd.Q_base ho0) hb); replace HO_322000 := za (Kd.Q_elder' qfx (Kd.Q_base ho0) hb); replace HO_328000 := za (Kd.Q_elder' qfy (Kd.Q_base ho0) hb); replace BK242 := zb BK242 hb; replace BK243 := zb BK243 hb; replace BK254 := zb BK254 hb; replace BK255 := zb BK255 hb; replace BK294 := zb BK294 hb; replace BK311 := zb BK311 hb; replace BK315 := zb BK315 hb; replace BK321 := zb BK321 hb; replace BK327 := zb BK327 hb; replace HI248 := za (IsS53.below (show IsS53 w ((w255.setCell ⟨gb329, 0, none⟩ (.slice A5_0 l5_0.length c5_0)).setCell ⟨gb329, 1, none⟩ (.bool a5_1)) g248 t246 t313 from qfa) hb); replace BK329 := za (blk_below (g := gb329) (o := .cells #[.slice A5_0 l5_0.length c5_0, .bool a5_1] 27 (0, 0)) (by (with_reducible repeat (first | refine blk_drewN ?_ _ | refine blk_drew ?_ | refine blk_alloc ?_ _)); refine blk_put (cs := #[.slice A5_0 l5_0.length c5_0, .bool false]) ?_ 1 _ rfl; (with_reducible repeat (first | refine blk_drewN ?_ _ | refine blk_drew ?_ | refine blk_alloc ?_ _)); refine blk_put (cs := #[.slice none 0 0, .bool false]) ?_ 0 _ rfl; (with_reducible repeat (first | refine blk_drewN ?_ _ | refine blk_drew ?_ | refine blk_alloc ?_ _)); exact BK329.out) hb); replace HB := zs HB hb; (try clear hb); (try clear hb2); (try clear hk); (try clear hi); (try clear ho0)) | ((with_reducible refine gate_dst (N := 31) rfl ?_); (try (refine gate_guard (by rfl) ?_; dsimp only)); refine zE 31 #[.slice none 0 0, .bool false] 27 ?_; intro gb335 hg w278 hbox hb; have BK335 := za (hbox); have GW335 := zg HB hg; have GE335 := zg HB hg; have NB242_335 := zl BK242 hg; have NB335_242 := zr BK242 hg; have NB243_335 := zl BK243 hg; have NB335_243 := zr BK243 hg; have NB254_335 := zl BK254 hg; have NB335_254 := zr BK254 hg; have NB255_335 := zl BK255 hg; have NB335_255 := zr BK255 hg; have NB294_335 := zl BK294 hg; have NB335_294 := zr BK294 hg; have NB311_335 := zl BK311 hg; have NB335_311 := zr BK311 hg; have NB315_335 := zl BK315 hg; have NB335_315 := zr BK315 hg; have NB321_335 := zl BK321 hg; have NB335_321 := zr BK321 hg; have NB327_335 := zl BK327 hg; have NB335_327 := zr BK327 hg; have NB329_335 := zl BK329 hg; have NB335_329 := zr BK329 hg; have NB248_335 := za ((qfl : g248 ≠ gb335)); have NB335_248 := za ((qfm : gb335 ≠ g248)); replace HO_16 := zR HO_16 hb; replace HO_17 := zR HO_17 hb; replace HO_312000 := za (Kd.Q_below qfe hb); replace HO_315000 := za (Kd.Q_below qfz32 hb); replace HO_316000 := za (Kd.Q_below qff hb); replace HO_322000 := za (Kd.Q_below qfg hb); replace HO_328000 := za (Kd.Q_below qfh hb); replace HO332 := za (Kd.Q_below (by (with_reducible repeat (first | apply Kd.Q_alloc | apply Kd.Q_drewN | apply Kd.Q_drew)); exact HO332.out) hb); replace BK242 := zb BK242 hb; replace BK243 := zb BK243 hb; replace BK254 := zb BK254 hb; replace BK255 := zb BK255 hb; replace BK294 := zb BK294 hb; replace BK311 := zb BK311 hb; replace BK315 := zb BK315 hb; replace BK321 := zb BK321 hb; replace BK327 := zb BK327 hb; replace HI248 := za (IsS53.below (qfa) hb); replace BK329 := zb BK329 hb; replace HB := zs HB hb; clear hb hbox hg; obtain ⟨Ao279, co279, eo279, _⟩ := Kd.Q_slice HO332.out; subst eo279; have hnb280 := NB335_242.out; have hnc280 := NB242_335.out; have hnb281 := NB335_243.out; have hnc281 := NB243_335.out; have hnb282 := NB335_254.out; have hnc282 := NB254_335.out; have hnb283 := NB335_255.out; have hnc283 := NB255_335.out; have hnb284 := NB335_294.out; have hnc284 := NB294_335.out; have hnb285 := NB335_311.out; have hnc285 := NB311_335.out; have hnb286 := NB335_315.out; have hnc286 := NB315_335.out; have hnb287 := NB335_321.out; have hnc287 := NB321_335.out; have hnb288 := NB335_327.out; have hnc288 := NB327_335.out; have hnb289 := NB335_329.out; have hnc289 := NB329_335.out; have hnb290 := NB335_248.out; have hnc290 := NB248_335.out; obtain ⟨hcz291_0, hcz291_1, hfz291_0, hfz291_1⟩ := z2 BK335; obtain ⟨hcz292_0, hcz292_1, hcz292_2, hcz292_3, hfz292_0, hfz292_1, hfz292_2, hfz292_3⟩ := z4 BK294; obtain ⟨hcz293_0, hcz293_1, hfz293_0, hfz293_1⟩ := z2 BK329) | ((with_reducible refine gate_callee (f := 24) rfl ?_); refine goesL_ (some 212) rfl rfl Try.func24 (by kernel_rfl) rfl #[.agg #[.int .i64 (ji108), .int .i64 (ji109), .int .i64 (ji110), .int .i64 (ji111)], .agg #[.slice A5_0 l5_0.length c5_0, .bool a5_1], .bool t312] rfl qfc ?_; (with_reducible refine (awardingbodyref27_Step.calls kj169 (ji108) (ji109) (ji110) (ji111) _ _ l5_0 a5_1 t312 t336 t339 t340 _ ?side1 ?side2 A252.out).mono ?_); (case side1 => exact Kd.C_below HR5_0.out (zm HB)); (case side2 => exact HC5_0.out); rintro e w294 ⟨v337, rfl, ho0, hb⟩; refine ⟨_, rfl, ?_⟩; have HO338 := za (Kd.Q_lower (Kd.Q_new' (Kd.Q_new' (Kd.Q_new' (Kd.Q_new' (Kd.Q_new' (Kd.Q_new' ho0 (Kd.Q_lt qfp)) (Kd.Q_lt qfq)) (Kd.Q_lt qfr)) (Kd.Q_lt qfs)) (Kd.Q_lt qft)) (Kd.Q_lt qfz28)) (below_size (zm HB))); replace HO_16 := za (Kd.R_below (by (with_reducible repeat (first | apply Kd.R_alloc | apply Kd.R_drewN | apply Kd.R_drew)); exact (Kd.R_mono (Kd.R_far (p := ⟨gb335, 1, none⟩) (Kd.R_far (p := ⟨gb335, 0, none⟩) (Kd.R_types HO_16.out BK335.out (by decide)) (fun _ hk => hk.2) (.slice Ao279 t330.length co279)) (fun _ hk => hk.2) (.bool t333)) (fun _ h_ => h_.1))) hb); replace HO_17 := za (Kd.R_below (by (with_reducible repeat (first | apply Kd.R_alloc | apply Kd.R_drewN | apply Kd.R_drew)); exact (Kd.R_mono (Kd.R_far (p := ⟨gb335, 1, none⟩) (Kd.R_far (p := ⟨gb335, 0, none⟩) (Kd.R_types HO_17.out BK335.out (by decide)) (fun _ hk => hk.2) (.slice Ao279 t330.length co279)) (fun _ hk => hk.2) (.bool t333)) (fun _ h_ => h_.1))) hb); replace HO_312000 := za (Kd.Q_elder' qfp (Kd.Q_base ho0) hb); replace HO_315000 := za (Kd.Q_elder' qfq (Kd.Q_base ho0) hb); replace HO_316000 := za (Kd.Q_elder' qfr (Kd.Q_base ho0) hb); replace HO_322000 := za (Kd.Q_elder' qfs (Kd.Q_base ho0) hb); replace HO_328000 := za (Kd.Q_elder' qft (Kd.Q_base ho0) hb); replace HO332 := za (Kd.Q_elder' qfz28 (Kd.Q_base ho0) hb); replace BK242 := zb BK242 hb; replace BK243 := zb BK243 hb; replace BK254 := zb BK254 hb; replace BK255 := zb BK255 hb; replace BK294 := zb BK294 hb; replace BK311 := zb BK311 hb; replace BK315 := zb BK315 hb; replace BK321 := zb BK321 hb; replace BK327 := zb BK327 hb; replace HI248 := za (IsS53.below (show IsS53 w ((w278.setCell ⟨gb335, 0, none⟩ (.slice Ao279 t330.length co279)).setCell ⟨gb335, 1, none⟩ (.bool t333)) g248 t246 t313 from qfa) hb); replace BK329 := zb BK329 hb; replace BK335 := za (blk_below (g := gb335) (o := .cells #[.slice Ao279 t330.length co279, .bool t333] 27 (0, 0)) (by (with_reducible repeat (first | refine blk_drewN ?_ _ | refine blk_drew ?_ | refine blk_alloc ?_ _)); refine blk_put (cs := #[.slice Ao279 t330.length co279, .bool false]) ?_ 1 _ rfl; (with_reducible repeat (first | refine blk_drewN ?_ _ | refine blk_drew ?_ | refine blk_alloc ?_ _)); refine blk_put (cs := #[.slice none 0 0, .bool false]) ?_ 0 _ rfl; (with_reducible repeat (first | refine blk_drewN ?_ _ | refine blk_drew ?_ | refine blk_alloc ?_ _)); exact BK335.out) hb); replace HB := zs HB hb; (try clear hb); (try clear hb2); (try clear hk); (try clear hi); (try clear ho0)) | ((with_reducible refine gate_dst (N := 33) rfl ?_); (try (refine gate_guard (by rfl) ?_; dsimp only)); refine zE 33 #[.slice none 0 0, .bool false] 27 ?_; intro gb341 hg w295 hbox hb; have BK341 := za (hbox); have GW341 := zg HB hg; have GE341 := zg HB hg; have NB242_341 := zl BK242 hg; have NB341_242 := zr BK242 hg; have NB243_341 := zl BK243 hg; have NB341_243 := zr BK243 hg; have NB254_341 := zl BK254 hg; have NB341_254 := zr BK254 hg; have NB255_341 := zl BK255 hg; have NB341_255 := zr BK255 hg; have NB294_341 := zl BK294 hg; have NB341_294 := zr BK294 hg; have NB311_341 := zl BK311 hg; have NB341_311 := zr BK311 hg; have NB315_341 := zl BK315 hg; have NB341_315 := zr BK315 hg; have NB321_341 := zl BK321 hg; have NB341_321 := zr BK321 hg; have NB327_341 := zl BK327 hg; have NB341_327 := zr BK327 hg; have NB329_341 := zl BK329 hg; have NB341_329 := zr BK329 hg; have NB335_341 := zl BK335 hg; have NB341_335 := zr BK335 hg; have NB248_341 := za ((qfl : g248 ≠ gb341)); have NB341_248 := za ((qfm : gb341 ≠ g248)); replace HO_16 := zR HO_16 hb; replace HO_17 := zR HO_17 hb; replace HO_312000 := za (Kd.Q_below qfe hb); replace HO_315000 := za (Kd.Q_below qfz32 hb); replace HO_316000 := za (Kd.Q_below qff hb); replace HO_322000 := za (Kd.Q_below qfg hb); replace HO_328000 := za (Kd.Q_below qfh hb); replace HO332 := za (Kd.Q_below (by (with_reducible repeat (first | apply Kd.Q_alloc | apply Kd.Q_drewN | apply Kd.Q_drew)); exact HO332.out) hb); replace HO338 := za (Kd.Q_below (by (with_reducible repeat (first | apply Kd.Q_alloc | apply Kd.Q_drewN | apply Kd.Q_drew)); exact HO338.out) hb); replace BK242 := zb BK242 hb; replace BK243 := zb BK243 hb; replace BK254 := zb BK254 hb; replace BK255 := zb BK255 hb; replace BK294 := zb BK294 hb; replace BK311 := zb BK311 hb; replace BK315 := zb BK315 hb; replace BK321 := zb BK321 hb; replace BK327 := zb BK327 hb; replace HI248 := za (IsS53.below (qfa) hb); replace BK329 := zb BK329 hb; replace BK335 := zb BK335 hb; replace HB := zs HB hb; clear hb hbox hg; obtain ⟨Ao296, co296, eo296, _⟩ := Kd.Q_slice HO338.out; subst eo296; have hnb297 := NB341_242.out; have hnc297 := NB242_341.out; have hnb298 := NB341_243.out; have hnc298 := NB243_341.out; have hnb299 := NB341_254.out; have hnc299 := NB254_341.out; have hnb300 := NB341_255.out; have hnc300 := NB255_341.out; have hnb301 := NB341_294.out; have hnc301 := NB294_341.out; have hnb302 := NB341_311.out; have hnc302 := NB311_341.out; have hnb303 := NB341_315.out; have hnc303 := NB315_341.out; have hnb304 := NB341_321.out; have hnc304 := NB321_341.out; have hnb305 := NB341_327.out; have hnc305 := NB327_341.out; have hnb306 := NB341_329.out; have hnc306 := NB329_341.out; have hnb307 := NB341_335.out; have hnc307 := NB335_341.out; have hnb308 := NB341_248.out; have hnc308 := NB248_341.out; obtain ⟨hcz309_0, hcz309_1, hfz309_0, hfz309_1⟩ := z2 BK341))
                      (try simp only [Act.put, List.setIfInBounds_toArray, List.set_cons_zero, List.set_cons_succ])
                      go_cut [223] (fun v223 wc => ∃ (kq : Nat) (x223_252 : Bool), v223 = .bool x223_252 ∧ Aside0 (awardingbodylaw27_MonitorExact.j7 kq l2 l3 l4 y282 y289 x27_6 t312 x112_3 x223_252 l5_0 a5_1 t246 t313 t249 t250 t251 t252 x256000_22 x256001_22 x256002_22 x256003_22 a1_0 a1_1 a1_2 a1_3 (ji108) (ji109) (ji110) (ji111) x312000_6 x312001_6 = some r) ∧ Aside0 (kq ≤ kj169) ∧ Aside0 (Kd.R (Kd.int .i64) 3 wc w.heap.size (fun k_ => some k_ ≠ (v290 : Value).ownBlock) v283 y282) ∧ Aside0 (Kd.R (Kd.int .i64) 3 wc w.heap.size (fun k_ => some k_ ≠ (v283 : Value).ownBlock) v290 y289) ∧ Aside0 (Kd.Q Kd.bool 4 wc w.heap.size (fun k_ => some k_ ≠ ((.slice Ao203 t316.length co203) : Value).ownBlock ∧ some k_ ≠ ((.slice Ao217 t322.length co217) : Value).ownBlock ∧ some k_ ≠ ((.slice Ao279 t330.length co279) : Value).ownBlock ∧ some k_ ≠ ((.slice Ao296 t336.length co296) : Value).ownBlock) (.slice Ao185 x312000_6.length co185) x312000_6) ∧ Aside0 (Kd.Q Kd.bool 4 wc w.heap.size (fun k_ => some k_ ≠ ((.slice Ao203 t316.length co203) : Value).ownBlock ∧ some k_ ≠ ((.slice Ao217 t322.length co217) : Value).ownBlock ∧ some k_ ≠ ((.slice Ao279 t330.length co279) : Value).ownBlock ∧ some k_ ≠ ((.slice Ao296 t336.length co296) : Value).ownBlock) (.slice Ao185 x312000_6.length co185) x312000_6) ∧ Aside0 (Kd.Q Kd.bool 4 wc w.heap.size (fun k_ => some k_ ≠ ((.slice Ao185 x312000_6.length co185) : Value).ownBlock ∧ some k_ ≠ ((.slice Ao185 x312000_6.length co185) : Value).ownBlock ∧ some k_ ≠ ((.slice Ao217 t322.length co217) : Value).ownBlock ∧ some k_ ≠ ((.slice Ao279 t330.length co279) : Value).ownBlock ∧ some k_ ≠ ((.slice Ao296 t336.length co296) : Value).ownBlock) (.slice Ao203 t316.length co203) t316) ∧ Aside0 (Kd.Q Kd.bool 4 wc w.heap.size (fun k_ => some k_ ≠ ((.slice Ao185 x312000_6.length co185) : Value).ownBlock ∧ some k_ ≠ ((.slice Ao185 x312000_6.length co185) : Value).ownBlock ∧ some k_ ≠ ((.slice Ao203 t316.length co203) : Value).ownBlock ∧ some k_ ≠ ((.slice Ao279 t330.length co279) : Value).ownBlock ∧ some k_ ≠ ((.slice Ao296 t336.length co296) : Value).ownBlock) (.slice Ao217 t322.length co217) t322) ∧ Aside0 (Kd.Q Kd.bool 4 wc w.heap.size (fun k_ => some k_ ≠ ((.slice Ao185 x312000_6.length co185) : Value).ownBlock ∧ some k_ ≠ ((.slice Ao185 x312000_6.length co185) : Value).ownBlock ∧ some k_ ≠ ((.slice Ao203 t316.length co203) : Value).ownBlock ∧ some k_ ≠ ((.slice Ao217 t322.length co217) : Value).ownBlock ∧ some k_ ≠ ((.slice Ao296 t336.length co296) : Value).ownBlock) (.slice Ao279 t330.length co279) t330) ∧ Aside0 (Kd.Q Kd.bool 4 wc w.heap.size (fun k_ => some k_ ≠ ((.slice Ao185 x312000_6.length co185) : Value).ownBlock ∧ some k_ ≠ ((.slice Ao185 x312000_6.length co185) : Value).ownBlock ∧ some k_ ≠ ((.slice Ao203 t316.length co203) : Value).ownBlock ∧ some k_ ≠ ((.slice Ao217 t322.length co217) : Value).ownBlock ∧ some k_ ≠ ((.slice Ao279 t330.length co279) : Value).ownBlock) (.slice Ao296 t336.length co296) t336) ∧ Aside0 (wc.heap[gb242]? = some (.cells #[.int .i64 a1_0, .int .i64 a1_1, .int .i64 a1_2, .int .i64 a1_3] 24 (0, 0))) ∧ Aside0 (wc.heap[gb243]? = some (.cells #[(.slice A5_0 l5_0.length c5_0), .bool a5_1] 27 (0, 0))) ∧ Aside0 (wc.heap[gb254]? = some (.cells #[.int .i64 t249, .int .i64 t250, .int .i64 t251, .int .i64 t252] 24 (0, 0))) ∧ Aside0 (wc.heap[gb255]? = some (.cells #[.int .i64 x256000_22, .int .i64 x256001_22, .int .i64 x256002_22, .int .i64 x256003_22] 24 (0, 0))) ∧ Aside0 (wc.heap[gb294]? = some (.cells #[.int .i64 (ji108), .int .i64 (ji109), .int .i64 (ji110), .int .i64 (ji111)] 24 (0, 0))) ∧ Aside0 (wc.heap[gb311]? = some (.cells #[(.slice Ao185 x312000_6.length co185), .bool x312001_6] 27 (0, 0))) ∧ Aside0 (wc.heap[gb315]? = some (.cells #[(.slice Ao185 x312000_6.length co185), .bool x312001_6] 27 (0, 0))) ∧ Aside0 (wc.heap[gb321]? = some (.cells #[(.slice Ao203 t316.length co203), .bool t319] 27 (0, 0))) ∧ Aside0 (wc.heap[gb327]? = some (.cells #[(.slice Ao217 t322.length co217), .bool t325] 27 (0, 0))) ∧ Aside0 (wc.heap[gb329]? = some (.cells #[(.slice A5_0 l5_0.length c5_0), .bool a5_1] 27 (0, 0))) ∧ Aside0 (wc.heap[gb335]? = some (.cells #[(.slice Ao279 t330.length co279), .bool t333] 27 (0, 0))) ∧ Aside0 (wc.heap[gb341]? = some (.cells #[(.slice Ao296 t336.length co296), .bool t339] 27 (0, 0))) ∧ Aside0 (IsS53 w wc g248 t246 t313) ∧ Aside0 (Below w.heap.size w wc))
                      case first =>
                       as_aux_lemma =>
                       have H := HC253.out
                       clear HC253
                       replace H := Option.bind_eq_some_iff.mp H
                       obtain ⟨t342, A3100, H⟩ := H
                       replace H : (if t342 = true then (awardingbodylaw27_MonitorExact.j7 kj169 l2 l3 l4 y282 y289 x27_6 t312 x112_3 (t334 != t340) l5_0 a5_1 t246 t313 t249 t250 t251 t252 x256000_22 x256001_22 x256002_22 x256003_22 a1_0 a1_1 a1_2 a1_3 (ji108) (ji109) (ji110) (ji111) x312000_6 x312001_6) else (none)) = some r := H
                       have A310 := za A3100; clear A3100
                       by_cases c311 : t342 = true
                       ·subst c311
                        have H1 : (awardingbodylaw27_MonitorExact.j7 kj169 l2 l3 l4 y282 y289 x27_6 t312 x112_3 (t334 != t340) l5_0 a5_1 t246 t313 t249 t250 t251 t252 x256000_22 x256001_22 x256002_22 x256003_22 a1_0 a1_1 a1_2 a1_3 (ji108) (ji109) (ji110) (ji111) x312000_6 x312001_6) = some r := by rw [if_pos rfl] at H; exact H
                        clear H; have H := H1; clear H1; have H' := za H; clear H
                        have hnb312 := NB335_242.out
                        have hnc312 := NB242_335.out
                        have hnb313 := NB335_243.out
                        have hnc313 := NB243_335.out
                        have hnb314 := NB335_254.out
                        have hnc314 := NB254_335.out
                        have hnb315 := NB335_255.out
                        have hnc315 := NB255_335.out
                        have hnb316 := NB335_294.out
                        have hnc316 := NB294_335.out
                        have hnb317 := NB335_311.out
                        have hnc317 := NB311_335.out
                        have hnb318 := NB335_315.out
                        have hnc318 := NB315_335.out
                        have hnb319 := NB335_321.out
                        have hnc319 := NB321_335.out
                        have hnb320 := NB335_327.out
                        have hnc320 := NB327_335.out
                        have hnb321 := NB335_329.out
                        have hnc321 := NB329_335.out
                        have hnb322 := NB335_341.out
                        have hnc322 := NB341_335.out
                        have hnb323 := NB335_248.out
                        have hnc323 := NB248_335.out
                        obtain ⟨hcz324_0, hcz324_1, hfz324_0, hfz324_1⟩ := z2 BK335
                        have hnb325 := NB341_242.out
                        have hnc325 := NB242_341.out
                        have hnb326 := NB341_243.out
                        have hnc326 := NB243_341.out
                        have hnb327 := NB341_254.out
                        have hnc327 := NB254_341.out
                        have hnb328 := NB341_255.out
                        have hnc328 := NB255_341.out
                        have hnb329 := NB341_294.out
                        have hnc329 := NB294_341.out
                        have hnb330 := NB341_311.out
                        have hnc330 := NB311_341.out
                        have hnb331 := NB341_315.out
                        have hnc331 := NB315_341.out
                        have hnb332 := NB341_321.out
                        have hnc332 := NB321_341.out
                        have hnb333 := NB341_327.out
                        have hnc333 := NB327_341.out
                        have hnb334 := NB341_329.out
                        have hnc334 := NB329_341.out
                        have hnb335 := NB341_248.out
                        have hnc335 := NB248_341.out
                        obtain ⟨hcz336_0, hcz336_1, hfz336_0, hfz336_1⟩ := z2 BK341
                        go_wp2_with (first | ((with_reducible refine gate_callee (f := 25) rfl ?_); refine zL (some 217) Try.func25 #[.agg #[.slice Ao279 t330.length co279, .bool t333], .agg #[.slice Ao296 t336.length co296, .bool t339]] ?_; (with_reducible refine (awardingbodylaw27_same.calls kj169 _ _ t330 t333 _ _ t336 t339 true _ ?side1 ?side2 ?side3 ?side4 A310.out).mono ?_); (case side1 => refine (Kd.Q_reads' (e := 4) (base := w.heap.size) (ok := fun k_ => ((((((True ∧ some k_ ≠ (.slice Ao185 x312000_6.length co185 : Value).ownBlock) ∧ some k_ ≠ (.slice Ao185 x312000_6.length co185 : Value).ownBlock) ∧ some k_ ≠ (.slice Ao185 x312000_6.length co185 : Value).ownBlock) ∧ some k_ ≠ (.slice Ao203 t316.length co203 : Value).ownBlock) ∧ some k_ ≠ (.slice Ao217 t322.length co217 : Value).ownBlock) ∧ some k_ ≠ (.slice Ao296 t336.length co296 : Value).ownBlock)) (n := t330.length) (c := co279) ?_).2.2; exact qfz29); (case side2 => exact (Kd.Q_reads' HO332.out).2.1); (case side3 => refine (Kd.Q_reads' (e := 4) (base := w.heap.size) (ok := fun k_ => ((((((True ∧ some k_ ≠ (.slice Ao185 x312000_6.length co185 : Value).ownBlock) ∧ some k_ ≠ (.slice Ao185 x312000_6.length co185 : Value).ownBlock) ∧ some k_ ≠ (.slice Ao185 x312000_6.length co185 : Value).ownBlock) ∧ some k_ ≠ (.slice Ao203 t316.length co203 : Value).ownBlock) ∧ some k_ ≠ (.slice Ao217 t322.length co217 : Value).ownBlock) ∧ some k_ ≠ (.slice Ao279 t330.length co279 : Value).ownBlock)) (n := t336.length) (c := co296) ?_).2.2; exact qfz30); (case side4 => exact (Kd.Q_reads' HO338.out).2.1); rintro e w337 ⟨rfl, hb⟩; refine ⟨_, rfl, ?_⟩; replace HO_16 := za (Kd.R_below (by (with_reducible repeat (first | apply Kd.R_alloc | apply Kd.R_drewN | apply Kd.R_drew)); exact (Kd.R_mono (Kd.R_far (p := ⟨gb341, 1, none⟩) (Kd.R_far (p := ⟨gb341, 0, none⟩) (Kd.R_types HO_16.out BK341.out (by decide)) (fun _ hk => hk.2) (.slice Ao296 t336.length co296)) (fun _ hk => hk.2) (.bool t339)) (fun _ h_ => h_.1))) hb); replace HO_17 := za (Kd.R_below (by (with_reducible repeat (first | apply Kd.R_alloc | apply Kd.R_drewN | apply Kd.R_drew)); exact (Kd.R_mono (Kd.R_far (p := ⟨gb341, 1, none⟩) (Kd.R_far (p := ⟨gb341, 0, none⟩) (Kd.R_types HO_17.out BK341.out (by decide)) (fun _ hk => hk.2) (.slice Ao296 t336.length co296)) (fun _ hk => hk.2) (.bool t339)) (fun _ h_ => h_.1))) hb); replace HO_312000 := za (Kd.Q_below (by (with_reducible repeat (first | apply Kd.Q_alloc | apply Kd.Q_drewN | apply Kd.Q_drew)); exact (Kd.Q_mono (Kd.Q_far (p := ⟨gb341, 1, none⟩) (Kd.Q_far (p := ⟨gb341, 0, none⟩) (Kd.Q_types HO_312000.out BK341.out (by decide)) (fun _ hk => hk.2) (.slice Ao296 t336.length co296)) (fun _ hk => hk.2) (.bool t339)) (fun _ h_ => h_.1))) hb); replace HO_315000 := za (Kd.Q_below (by (with_reducible repeat (first | apply Kd.Q_alloc | apply Kd.Q_drewN | apply Kd.Q_drew)); exact (Kd.Q_mono (Kd.Q_far (p := ⟨gb341, 1, none⟩) (Kd.Q_far (p := ⟨gb341, 0, none⟩) (Kd.Q_types HO_315000.out BK341.out (by decide)) (fun _ hk => hk.2) (.slice Ao296 t336.length co296)) (fun _ hk => hk.2) (.bool t339)) (fun _ h_ => h_.1))) hb); replace HO_316000 := za (Kd.Q_below (by (with_reducible repeat (first | apply Kd.Q_alloc | apply Kd.Q_drewN | apply Kd.Q_drew)); exact (Kd.Q_mono (Kd.Q_far (p := ⟨gb341, 1, none⟩) (Kd.Q_far (p := ⟨gb341, 0, none⟩) (Kd.Q_types HO_316000.out BK341.out (by decide)) (fun _ hk => hk.2) (.slice Ao296 t336.length co296)) (fun _ hk => hk.2) (.bool t339)) (fun _ h_ => h_.1))) hb); replace HO_322000 := za (Kd.Q_below (by (with_reducible repeat (first | apply Kd.Q_alloc | apply Kd.Q_drewN | apply Kd.Q_drew)); exact (Kd.Q_mono (Kd.Q_far (p := ⟨gb341, 1, none⟩) (Kd.Q_far (p := ⟨gb341, 0, none⟩) (Kd.Q_types HO_322000.out BK341.out (by decide)) (fun _ hk => hk.2) (.slice Ao296 t336.length co296)) (fun _ hk => hk.2) (.bool t339)) (fun _ h_ => h_.1))) hb); replace HO_328000 := za (Kd.Q_below (by (with_reducible repeat (first | apply Kd.Q_alloc | apply Kd.Q_drewN | apply Kd.Q_drew)); exact (Kd.Q_mono (Kd.Q_far (p := ⟨gb341, 1, none⟩) (Kd.Q_far (p := ⟨gb341, 0, none⟩) (Kd.Q_types HO_328000.out BK341.out (by decide)) (fun _ hk => hk.2) (.slice Ao296 t336.length co296)) (fun _ hk => hk.2) (.bool t339)) (fun _ h_ => h_.1))) hb); replace HO332 := za (Kd.Q_below qfz29 hb); replace HO338 := za (Kd.Q_below qfz30 hb); replace BK242 := zb BK242 hb; replace BK243 := zb BK243 hb; replace BK254 := zb BK254 hb; replace BK255 := zb BK255 hb; replace BK294 := zb BK294 hb; replace BK311 := zb BK311 hb; replace BK315 := zb BK315 hb; replace BK321 := zb BK321 hb; replace BK327 := zb BK327 hb; replace HI248 := za (IsS53.below (show IsS53 w ((w295.setCell ⟨gb341, 0, none⟩ (.slice Ao296 t336.length co296)).setCell ⟨gb341, 1, none⟩ (.bool t339)) g248 t246 t313 from qfa) hb); replace BK329 := zb BK329 hb; replace BK335 := zb BK335 hb; replace BK341 := za (blk_below (g := gb341) (o := .cells #[.slice Ao296 t336.length co296, .bool t339] 27 (0, 0)) (by (with_reducible repeat (first | refine blk_drewN ?_ _ | refine blk_drew ?_ | refine blk_alloc ?_ _)); refine blk_put (cs := #[.slice Ao296 t336.length co296, .bool false]) ?_ 1 _ rfl; (with_reducible repeat (first | refine blk_drewN ?_ _ | refine blk_drew ?_ | refine blk_alloc ?_ _)); refine blk_put (cs := #[.slice none 0 0, .bool false]) ?_ 0 _ rfl; (with_reducible repeat (first | refine blk_drewN ?_ _ | refine blk_drew ?_ | refine blk_alloc ?_ _)); exact BK341.out) hb); replace HB := zs HB hb; (try clear hb); (try clear hb2); (try clear hk); (try clear hi)))
                        go_meet
                        case rel => exact ⟨_, ((t334 != t340)), qfk, H', ⟨by have := HJ6.out; have := HJ22.out; have := HK3.out; have := HJ111.out; have := HJ151.out; have := HK6.out; have := HJ169.out; first | omega | exact Nat.le_refl _⟩, ⟨by (with_reducible repeat (first | apply Kd.R_alloc | apply Kd.R_drewN | apply Kd.R_drew)); exact HO_16.out⟩, ⟨by (with_reducible repeat (first | apply Kd.R_alloc | apply Kd.R_drewN | apply Kd.R_drew)); exact HO_17.out⟩, ⟨by (with_reducible repeat (first | apply Kd.Q_alloc | apply Kd.Q_drewN | apply Kd.Q_drew)); exact Kd.Q_mono HO_312000.out (fun _ hk => ⟨hk.1.1.1, ⟨hk.1.1.2, ⟨hk.1.2, hk.2⟩⟩⟩)⟩, ⟨by (with_reducible repeat (first | apply Kd.Q_alloc | apply Kd.Q_drewN | apply Kd.Q_drew)); exact Kd.Q_mono HO_316000.out (fun _ hk => ⟨hk.1.1.1, ⟨hk.1.1.2, ⟨hk.1.2, hk.2⟩⟩⟩)⟩, ⟨by (with_reducible repeat (first | apply Kd.Q_alloc | apply Kd.Q_drewN | apply Kd.Q_drew)); exact Kd.Q_mono HO_322000.out (fun _ hk => ⟨hk.1.1.1, ⟨hk.1.1.2.2.1, ⟨hk.1.1.2.2.2, ⟨hk.1.2, hk.2⟩⟩⟩⟩)⟩, ⟨by (with_reducible repeat (first | apply Kd.Q_alloc | apply Kd.Q_drewN | apply Kd.Q_drew)); exact Kd.Q_mono HO_328000.out (fun _ hk => ⟨hk.1.1.1, ⟨hk.1.1.2.2.1, ⟨hk.1.1.2.2.2, ⟨hk.1.2, hk.2⟩⟩⟩⟩)⟩, ⟨by (with_reducible repeat (first | apply Kd.Q_alloc | apply Kd.Q_drewN | apply Kd.Q_drew)); exact Kd.Q_mono HO332.out (fun _ hk => ⟨hk.1.1.1.1.1.2, ⟨hk.1.1.1.2, ⟨hk.1.1.2, ⟨hk.1.2, hk.2⟩⟩⟩⟩)⟩, ⟨by (with_reducible repeat (first | apply Kd.Q_alloc | apply Kd.Q_drewN | apply Kd.Q_drew)); exact Kd.Q_mono HO338.out (fun _ hk => ⟨hk.1.1.1.1.1.2, ⟨hk.1.1.1.2, ⟨hk.1.1.2, ⟨hk.1.2, hk.2⟩⟩⟩⟩)⟩, ⟨qfb⟩, ⟨qfb⟩, ⟨qfb⟩, ⟨qfb⟩, ⟨qfb⟩, ⟨qfb⟩, ⟨qfb⟩, ⟨qfb⟩, ⟨qfb⟩, ⟨qfb⟩, ⟨qfb⟩, ⟨qfb⟩, ⟨qfa⟩, ⟨zm HB⟩⟩
                       ·replace c311 := Bool.eq_false_iff.mpr c311
                        subst c311
                        have H1 : (none) = some r := by rw [if_neg (show ¬ (false = true) by decide)] at H; exact H
                        clear H; have H := H1; clear H1
                        exact absurd H (by simp)
                      case rest =>
                       as_aux_lemma =>
                       clear HC253; (try clear c1); (try clear c2); (try clear p2); (try clear c3); (try clear c4); (try clear c5); (try clear c12); (try clear c14); (try clear c15); (try clear c16); (try clear c17); (try clear c18); (try clear c19); (try clear c20); (try clear c21); (try clear c22); (try clear c23); (try clear c24); (try clear c25); (try clear c26); (try clear c27); (try clear c28); (try clear c29); (try clear c30); (try clear c31); (try clear c32); (try clear c33); (try clear c123); (try clear c123b0); (try clear c123b1); (try clear c149); (try clear c153); (try clear c154); (try clear c155); (try clear c156); (try clear c157); (try clear c162); (try clear c162b0); (try clear c162b1); (try clear c163); (try clear c163b0); (try clear c163b1); (try clear c164); (try clear c166); (try clear c166b0); (try clear c172); (try clear c173); (try clear c174); (try clear c175); (try clear c176); (try clear c177); (try clear c179); (try clear c180); (try clear c181); (try clear c182); (try clear c183); (try clear c188); (try clear c189); (try clear c190); (try clear c191); (try clear c192); (try clear c193); (try clear c194); (try clear c196); (try clear c197); (try clear c198); (try clear c199); (try clear c204); (try clear c205); (try clear c206); (try clear c207); (try clear c208); (try clear c209); (try clear c210); (try clear c211); (try clear c218); (try clear c219); (try clear c220); (try clear c221); (try clear c222); (try clear c223); (try clear c224); (try clear c225); (try clear c226); (try clear c229); (try clear c230); (try clear c231); (try clear c232); (try clear c233); (try clear c234); (try clear c235); (try clear c236); (try clear c237); (try clear c238); (try clear c240); (try clear c241); (try clear c242); (try clear c243); (try clear c244); (try clear c245); (try clear c246); (try clear c247); (try clear c250); (try clear c256); (try clear c257); (try clear c258); (try clear c259); (try clear c260); (try clear c261); (try clear c262); (try clear c263); (try clear c264); (try clear c265); (try clear c267); (try clear c268); (try clear c269); (try clear c270); (try clear c271); (try clear c272); (try clear c273); (try clear c274); (try clear c275); (try clear c280); (try clear c281); (try clear c282); (try clear c283); (try clear c284); (try clear c285); (try clear c286); (try clear c287); (try clear c288); (try clear c289); (try clear c290); (try clear c297); (try clear c298); (try clear c299); (try clear c300); (try clear c301); (try clear c302); (try clear c303); (try clear c304); (try clear c305); (try clear c306); (try clear c307); (try clear c308); (try clear c311); (try clear c312); (try clear c313); (try clear c314); (try clear c315); (try clear c316); (try clear c317); (try clear c318); (try clear c319); (try clear c320); (try clear c321); (try clear c322); (try clear c323); (try clear c325); (try clear c326); (try clear c327); (try clear c328); (try clear c329); (try clear c330); (try clear c331); (try clear c332)
                       (try clear c333); (try clear c334); (try clear c335); (try clear hcz158_0); (try clear hcz158_1); (try clear hcz158_2); (try clear hcz158_3); (try clear hcz160_0); (try clear hcz160_1); (try clear hcz160_2); (try clear hcz160_3); (try clear hcz178_0); (try clear hcz178_1); (try clear hcz184_0); (try clear hcz184_1); (try clear hcz195_0); (try clear hcz195_1); (try clear hcz200_0); (try clear hcz200_1); (try clear hcz200_2); (try clear hcz200_3); (try clear hcz212_0); (try clear hcz212_1); (try clear hcz213_0); (try clear hcz213_1); (try clear hcz213_2); (try clear hcz213_3); (try clear hcz214_0); (try clear hcz214_1); (try clear hcz227_0); (try clear hcz227_1); (try clear hcz239_0); (try clear hcz239_1); (try clear hcz248_0); (try clear hcz248_1); (try clear hcz266_0); (try clear hcz266_1); (try clear hcz276_0); (try clear hcz276_1); (try clear hcz276_2); (try clear hcz276_3); (try clear hcz291_0); (try clear hcz291_1); (try clear hcz292_0); (try clear hcz292_1); (try clear hcz292_2); (try clear hcz292_3); (try clear hcz293_0); (try clear hcz293_1); (try clear hcz309_0); (try clear hcz309_1); (try clear hcz324_0); (try clear hcz324_1); (try clear hcz336_0); (try clear hcz336_1); (try clear hfz158_0); (try clear hfz158_1); (try clear hfz158_2); (try clear hfz158_3); (try clear hfz160_0); (try clear hfz160_1); (try clear hfz160_2); (try clear hfz160_3); (try clear hfz178_0); (try clear hfz178_1); (try clear hfz184_0); (try clear hfz184_1); (try clear hfz195_0); (try clear hfz195_1); (try clear hfz200_0); (try clear hfz200_1); (try clear hfz200_2); (try clear hfz200_3); (try clear hfz212_0); (try clear hfz212_1); (try clear hfz213_0); (try clear hfz213_1); (try clear hfz213_2); (try clear hfz213_3); (try clear hfz214_0); (try clear hfz214_1); (try clear hfz227_0); (try clear hfz227_1); (try clear hfz239_0); (try clear hfz239_1); (try clear hfz248_0); (try clear hfz248_1); (try clear hfz266_0); (try clear hfz266_1); (try clear hfz276_0); (try clear hfz276_1); (try clear hfz276_2); (try clear hfz276_3); (try clear hfz291_0); (try clear hfz291_1); (try clear hfz292_0); (try clear hfz292_1); (try clear hfz292_2); (try clear hfz292_3); (try clear hfz293_0); (try clear hfz293_1); (try clear hfz309_0); (try clear hfz309_1); (try clear hfz324_0); (try clear hfz324_1); (try clear hfz336_0); (try clear hfz336_1); (try clear p2)
                       obtain ⟨kq, x223_252, rfl, HA, HJ252, HO_16, HO_17, HO_312000, HO_316000, HO_322000, HO_328000, HO_336000, HO_342000, BK242, BK243, BK254, BK255, BK294, BK311, BK315, BK321, BK327, BK329, BK335, BK341, HI248, HB⟩ := hcut
                       cases kq with
                       | zero => exact absurd HA.out (by simp [awardingbodylaw27_MonitorExact.j7])
                       | succ kj252 =>
                        have H := HA.out
                        clear HA
                        simp only [awardingbodylaw27_MonitorExact.j7] at H
                        by_cases c338 : x223_252 = true
                        ·subst c338
                         have H1 : (none) = some r := by rw [if_pos rfl] at H; exact H
                         clear H; have H := H1; clear H1
                         exact absurd H (by simp)
                        ·replace c338 := Bool.eq_false_iff.mpr c338
                         subst c338
                         have H1 : ((awardingbodyref27_Step.f kj252 (ji108) (ji109) (ji110) (ji111) x312000_6 x312001_6 t312).bind fun bt343 => (if bt343.2.2 = 0 then (awardingbodylaw27_MonitorExact.l1 kj252 l2 l3 l4 y282 y289 (wrap64 (x27_6 + 1)) x112_3 l5_0 a5_1 t246 t313 t249 t250 t251 t252 x256000_22 x256001_22 x256002_22 x256003_22 a1_0 a1_1 a1_2 a1_3 (ji108) (ji109) (ji110) (ji111) bt343.1 bt343.2.1) else (awardingbodylaw27_MonitorExact.l1 kj252 l2 l3 l4 y282 y289 (wrap64 (x27_6 + 1)) x112_3 l5_0 a5_1 t246 t313 t249 t250 t251 t252 x256000_22 x256001_22 x256002_22 x256003_22 a1_0 a1_1 a1_2 a1_3 (ji108) (ji109) (ji110) (ji111) x312000_6 x312001_6))) = some r := by rw [if_neg (show ¬ (false = true) by decide)] at H; exact H
                         clear H; have H := H1; clear H1
                         replace H := Option.bind_eq_some_iff.mp H
                         obtain ⟨⟨t343, t346, t347⟩, A3390, H⟩ := H
                         replace H : (if t347 = 0 then (awardingbodylaw27_MonitorExact.l1 kj252 l2 l3 l4 y282 y289 (wrap64 (x27_6 + 1)) x112_3 l5_0 a5_1 t246 t313 t249 t250 t251 t252 x256000_22 x256001_22 x256002_22 x256003_22 a1_0 a1_1 a1_2 a1_3 (ji108) (ji109) (ji110) (ji111) t343 t346) else (awardingbodylaw27_MonitorExact.l1 kj252 l2 l3 l4 y282 y289 (wrap64 (x27_6 + 1)) x112_3 l5_0 a5_1 t246 t313 t249 t250 t251 t252 x256000_22 x256001_22 x256002_22 x256003_22 a1_0 a1_1 a1_2 a1_3 (ji108) (ji109) (ji110) (ji111) x312000_6 x312001_6)) = some r := H
                         have A339 := za A3390; clear A3390
                         by_cases c340 : t347 = 0
                         ·rw [if_pos c340] at H
                          have c340b0 : (t347 == 0) = true := beq_iff_eq.mpr c340
                          have c340b1 : (t347 != 0) = false := bne_eq_false_iff_eq.mpr c340
                          clear c340; have H' := za H; clear H
                          have hnb341 := NB294_242.out
                          have hnc341 := NB242_294.out
                          have hnb342 := NB294_243.out
                          have hnc342 := NB243_294.out
                          have hnb343 := NB294_254.out
                          have hnc343 := NB254_294.out
                          have hnb344 := NB294_255.out
                          have hnc344 := NB255_294.out
                          have hnb345 := NB294_311.out
                          have hnc345 := NB311_294.out
                          have hnb346 := NB294_315.out
                          have hnc346 := NB315_294.out
                          have hnb347 := NB294_321.out
                          have hnc347 := NB321_294.out
                          have hnb348 := NB294_327.out
                          have hnc348 := NB327_294.out
                          have hnb349 := NB294_329.out
                          have hnc349 := NB329_294.out
                          have hnb350 := NB294_335.out
                          have hnc350 := NB335_294.out
                          have hnb351 := NB294_341.out
                          have hnc351 := NB341_294.out
                          have hnb352 := NB294_248.out
                          have hnc352 := NB248_294.out
                          obtain ⟨hcz353_0, hcz353_1, hcz353_2, hcz353_3, hfz353_0, hfz353_1, hfz353_2, hfz353_3⟩ := z4 BK294
                          have hnb354 := NB311_242.out
                          have hnc354 := NB242_311.out
                          have hnb355 := NB311_243.out
                          have hnc355 := NB243_311.out
                          have hnb356 := NB311_254.out
                          have hnc356 := NB254_311.out
                          have hnb357 := NB311_255.out
                          have hnc357 := NB255_311.out
                          have hnb358 := NB311_315.out
                          have hnc358 := NB315_311.out
                          have hnb359 := NB311_321.out
                          have hnc359 := NB321_311.out
                          have hnb360 := NB311_327.out
                          have hnc360 := NB327_311.out
                          have hnb361 := NB311_329.out
                          have hnc361 := NB329_311.out
                          have hnb362 := NB311_335.out
                          have hnc362 := NB335_311.out
                          have hnb363 := NB311_341.out
                          have hnc363 := NB341_311.out
                          have hnb364 := NB311_248.out
                          have hnc364 := NB248_311.out
                          obtain ⟨hcz365_0, hcz365_1, hfz365_0, hfz365_1⟩ := z2 BK311
                          go_wp2
                          rw [rounds_succ]
                          go_wp2_with (first | ((with_reducible refine gate_callee (f := 24) rfl ?_); refine goesL_ (some 229) rfl rfl Try.func24 (by kernel_rfl) rfl #[.agg #[.int .i64 (ji108), .int .i64 (ji109), .int .i64 (ji110), .int .i64 (ji111)], .agg #[.slice Ao185 x312000_6.length co185, .bool x312001_6], .bool t312] rfl qfc ?_; (with_reducible refine (awardingbodyref27_Step.calls kj252 (ji108) (ji109) (ji110) (ji111) _ _ x312000_6 x312001_6 t312 t343 t346 t347 _ ?side1 ?side2 A339.out).mono ?_); (case side1 => repeat (first | exact (Kd.Q_reads' HO_312000.out).2.2 | (with_reducible refine Kd.C_alloc ?_ _) | (with_reducible refine Kd.C_drewN ?_ _) | (with_reducible refine Kd.C_drew ?_))); (case side2 => exact (Kd.Q_reads' HO_312000.out).2.1); rintro e w366 ⟨v344, rfl, ho0, hb⟩; refine ⟨_, rfl, ?_⟩; have HO345 := za (Kd.Q_lower (Kd.Q_new' (Kd.Q_new' (Kd.Q_new' (Kd.Q_new' (Kd.Q_new' (Kd.Q_new' ho0 (Kd.Q_lt qfe)) (Kd.Q_lt qff)) (Kd.Q_lt qfg)) (Kd.Q_lt qfh)) (Kd.Q_lt qfn)) (Kd.Q_lt qfo)) (below_size (zm HB))); replace HO_16 := zR HO_16 hb; replace HO_17 := zR HO_17 hb; replace HO_312000 := za (Kd.Q_elder' qfe (Kd.Q_base ho0) hb); replace HO_316000 := za (Kd.Q_elder' qff (Kd.Q_base ho0) hb); replace HO_322000 := za (Kd.Q_elder' qfg (Kd.Q_base ho0) hb); replace HO_328000 := za (Kd.Q_elder' qfh (Kd.Q_base ho0) hb); replace HO_336000 := za (Kd.Q_elder' qfn (Kd.Q_base ho0) hb); replace HO_342000 := za (Kd.Q_elder' qfo (Kd.Q_base ho0) hb); replace BK242 := zb BK242 hb; replace BK243 := zb BK243 hb; replace BK254 := zb BK254 hb; replace BK255 := zb BK255 hb; replace BK294 := zb BK294 hb; replace BK311 := zb BK311 hb; replace BK315 := zb BK315 hb; replace BK321 := zb BK321 hb; replace BK327 := zb BK327 hb; replace BK329 := zb BK329 hb; replace BK335 := zb BK335 hb; replace BK341 := zb BK341 hb; replace HI248 := za (IsS53.below (qfa) hb); replace HB := zs HB hb; (try clear hb); (try clear hb2); (try clear hk); (try clear hi); (try clear ho0)) | ((with_reducible refine gate_dst (N := 35) rfl ?_); (try (refine gate_guard (by rfl) ?_; dsimp only)); refine zE 35 #[.slice none 0 0, .bool false] 27 ?_; intro gb348 hg w367 hbox hb; have BK348 := za (hbox); have GW348 := zg HB hg; have GE348 := zg HB hg; have NB242_348 := zl BK242 hg; have NB348_242 := zr BK242 hg; have NB243_348 := zl BK243 hg; have NB348_243 := zr BK243 hg; have NB254_348 := zl BK254 hg; have NB348_254 := zr BK254 hg; have NB255_348 := zl BK255 hg; have NB348_255 := zr BK255 hg; have NB294_348 := zl BK294 hg; have NB348_294 := zr BK294 hg; have NB311_348 := zl BK311 hg; have NB348_311 := zr BK311 hg; have NB315_348 := zl BK315 hg; have NB348_315 := zr BK315 hg; have NB321_348 := zl BK321 hg; have NB348_321 := zr BK321 hg; have NB327_348 := zl BK327 hg; have NB348_327 := zr BK327 hg; have NB329_348 := zl BK329 hg; have NB348_329 := zr BK329 hg; have NB335_348 := zl BK335 hg; have NB348_335 := zr BK335 hg; have NB341_348 := zl BK341 hg; have NB348_341 := zr BK341 hg; have NB248_348 := za ((qfl : g248 ≠ gb348)); have NB348_248 := za ((qfm : gb348 ≠ g248)); replace HO_16 := zR HO_16 hb; replace HO_17 := zR HO_17 hb; replace HO_312000 := za (Kd.Q_below qfe hb); replace HO_316000 := za (Kd.Q_below qff hb); replace HO_322000 := za (Kd.Q_below qfg hb); replace HO_328000 := za (Kd.Q_below qfh hb); replace HO_336000 := za (Kd.Q_below qfn hb); replace HO_342000 := za (Kd.Q_below qfo hb); replace HO345 := za (Kd.Q_below (by (with_reducible repeat (first | apply Kd.Q_alloc | apply Kd.Q_drewN | apply Kd.Q_drew)); exact HO345.out) hb); replace BK242 := zb BK242 hb; replace BK243 := zb BK243 hb; replace BK254 := zb BK254 hb; replace BK255 := zb BK255 hb; replace BK294 := zb BK294 hb; replace BK311 := zb BK311 hb; replace BK315 := zb BK315 hb; replace BK321 := zb BK321 hb; replace BK327 := zb BK327 hb; replace BK329 := zb BK329 hb; replace BK335 := zb BK335 hb; replace BK341 := zb BK341 hb; replace HI248 := za (IsS53.below (qfa) hb); replace HB := zs HB hb; clear hb hbox hg; obtain ⟨Ao368, co368, eo368, _⟩ := Kd.Q_slice HO345.out; subst eo368; have hnb369 := NB348_242.out; have hnc369 := NB242_348.out; have hnb370 := NB348_243.out; have hnc370 := NB243_348.out; have hnb371 := NB348_254.out; have hnc371 := NB254_348.out; have hnb372 := NB348_255.out; have hnc372 := NB255_348.out; have hnb373 := NB348_294.out; have hnc373 := NB294_348.out; have hnb374 := NB348_311.out; have hnc374 := NB311_348.out; have hnb375 := NB348_315.out; have hnc375 := NB315_348.out; have hnb376 := NB348_321.out; have hnc376 := NB321_348.out; have hnb377 := NB348_327.out; have hnc377 := NB327_348.out; have hnb378 := NB348_329.out; have hnc378 := NB329_348.out; have hnb379 := NB348_335.out; have hnc379 := NB335_348.out; have hnb380 := NB348_341.out; have hnc380 := NB341_348.out; have hnb381 := NB348_248.out; have hnc381 := NB248_348.out; obtain ⟨hcz382_0, hcz382_1, hfz382_0, hfz382_1⟩ := z2 BK348; obtain ⟨hcz383_0, hcz383_1, hfz383_0, hfz383_1⟩ := z2 BK311))
                          go_roundg kj252
                          case measure => have := HJ6.out; have := HJ22.out; have := HK3.out; have := HJ111.out; have := HJ151.out; have := HK6.out; have := HJ169.out; have := HJ252.out; omega
                          case rel => exact ⟨(wrap64 (x27_6 + 1)), (t313), (t343), (t346), (.slice Ao368 t343.length co368), qfk, H', ⟨by have := HJ6.out; have := HJ22.out; have := HK3.out; have := HJ111.out; have := HJ151.out; have := HK6.out; have := HJ169.out; have := HJ252.out; omega⟩, ⟨by (with_reducible repeat (first | apply Kd.R_alloc | apply Kd.R_drewN | apply Kd.R_drew)); exact Kd.R_mono (Kd.R_far (p := ⟨gb311, 1, none⟩) (Kd.R_far (p := ⟨gb311, 0, none⟩) (Kd.R_far (p := ⟨gb348, 1, none⟩) (Kd.R_far (p := ⟨gb348, 0, none⟩) (Kd.R_types (Kd.R_types HO_16.out BK348.out (by decide)) BK311.out (by decide)) (fun _ hk => hk.1.2) (.slice Ao368 t343.length co368)) (fun _ hk => hk.1.2) (.bool t346)) (fun _ hk => hk.2) (.slice Ao368 t343.length co368)) (fun _ hk => hk.2) (.bool t346)) (fun _ hk => hk.1.1)⟩, ⟨by (with_reducible repeat (first | apply Kd.R_alloc | apply Kd.R_drewN | apply Kd.R_drew)); exact Kd.R_mono (Kd.R_far (p := ⟨gb311, 1, none⟩) (Kd.R_far (p := ⟨gb311, 0, none⟩) (Kd.R_far (p := ⟨gb348, 1, none⟩) (Kd.R_far (p := ⟨gb348, 0, none⟩) (Kd.R_types (Kd.R_types HO_17.out BK348.out (by decide)) BK311.out (by decide)) (fun _ hk => hk.1.2) (.slice Ao368 t343.length co368)) (fun _ hk => hk.1.2) (.bool t346)) (fun _ hk => hk.2) (.slice Ao368 t343.length co368)) (fun _ hk => hk.2) (.bool t346)) (fun _ hk => hk.1.1)⟩, ⟨by (with_reducible repeat (first | apply Kd.Q_alloc | apply Kd.Q_drewN | apply Kd.Q_drew)); exact Kd.Q_mono (Kd.Q_far (p := ⟨gb311, 1, none⟩) (Kd.Q_far (p := ⟨gb311, 0, none⟩) (Kd.Q_far (p := ⟨gb348, 1, none⟩) (Kd.Q_far (p := ⟨gb348, 0, none⟩) (Kd.Q_types (Kd.Q_types HO345.out BK348.out (by decide)) BK311.out (by decide)) (fun _ hk => hk.1.2) (.slice Ao368 t343.length co368)) (fun _ hk => hk.1.2) (.bool t346)) (fun _ hk => hk.2) (.slice Ao368 t343.length co368)) (fun _ hk => hk.2) (.bool t346)) (fun _ hk => trivial)⟩, ⟨qfb⟩, ⟨qfb⟩, ⟨qfb⟩, ⟨qfb⟩, ⟨qfb⟩, ⟨by (with_reducible repeat (first | refine blk_drewN ?_ _ | refine blk_drew ?_ | refine blk_alloc ?_ _)); refine blk_put (cs := #[.slice Ao368 t343.length co368, .bool x312001_6]) ?_ 1 _ rfl; (with_reducible repeat (first | refine blk_drewN ?_ _ | refine blk_drew ?_ | refine blk_alloc ?_ _)); refine blk_put (cs := #[.slice Ao185 x312000_6.length co185, .bool x312001_6]) ?_ 0 _ rfl; (with_reducible repeat (first | refine blk_drewN ?_ _ | refine blk_drew ?_ | refine blk_alloc ?_ _)); refine blk_far ?_ NB311_348.out _; (with_reducible repeat (first | refine blk_drewN ?_ _ | refine blk_drew ?_ | refine blk_alloc ?_ _)); refine blk_far ?_ NB311_348.out _; (with_reducible repeat (first | refine blk_drewN ?_ _ | refine blk_drew ?_ | refine blk_alloc ?_ _)); exact BK311.out⟩, ⟨qfa⟩, ⟨zm HB⟩⟩
                         ·rw [if_neg c340] at H
                          have c340b0 : (t347 == 0) = false := beq_eq_false_iff_ne.mpr c340
                          have c340b1 : (t347 != 0) = true := bne_iff_ne.mpr c340
                          have H' := za H; clear H
                          have hnb384 := NB294_242.out
                          have hnc384 := NB242_294.out
                          have hnb385 := NB294_243.out
                          have hnc385 := NB243_294.out
                          have hnb386 := NB294_254.out
                          have hnc386 := NB254_294.out
                          have hnb387 := NB294_255.out
                          have hnc387 := NB255_294.out
                          have hnb388 := NB294_311.out
                          have hnc388 := NB311_294.out
                          have hnb389 := NB294_315.out
                          have hnc389 := NB315_294.out
                          have hnb390 := NB294_321.out
                          have hnc390 := NB321_294.out
                          have hnb391 := NB294_327.out
                          have hnc391 := NB327_294.out
                          have hnb392 := NB294_329.out
                          have hnc392 := NB329_294.out
                          have hnb393 := NB294_335.out
                          have hnc393 := NB335_294.out
                          have hnb394 := NB294_341.out
                          have hnc394 := NB341_294.out
                          have hnb395 := NB294_248.out
                          have hnc395 := NB248_294.out
                          obtain ⟨hcz396_0, hcz396_1, hcz396_2, hcz396_3, hfz396_0, hfz396_1, hfz396_2, hfz396_3⟩ := z4 BK294
                          have hnb397 := NB311_242.out
                          have hnc397 := NB242_311.out
                          have hnb398 := NB311_243.out
                          have hnc398 := NB243_311.out
                          have hnb399 := NB311_254.out
                          have hnc399 := NB254_311.out
                          have hnb400 := NB311_255.out
                          have hnc400 := NB255_311.out
                          have hnb401 := NB311_315.out
                          have hnc401 := NB315_311.out
                          have hnb402 := NB311_321.out
                          have hnc402 := NB321_311.out
                          have hnb403 := NB311_327.out
                          have hnc403 := NB327_311.out
                          have hnb404 := NB311_329.out
                          have hnc404 := NB329_311.out
                          have hnb405 := NB311_335.out
                          have hnc405 := NB335_311.out
                          have hnb406 := NB311_341.out
                          have hnc406 := NB341_311.out
                          have hnb407 := NB311_248.out
                          have hnc407 := NB248_311.out
                          obtain ⟨hcz408_0, hcz408_1, hfz408_0, hfz408_1⟩ := z2 BK311
                          go_wp2
                          rw [rounds_succ]
                          go_wp2_with (first | ((with_reducible refine gate_callee (f := 24) rfl ?_); refine goesL_ (some 229) rfl rfl Try.func24 (by kernel_rfl) rfl #[.agg #[.int .i64 (ji108), .int .i64 (ji109), .int .i64 (ji110), .int .i64 (ji111)], .agg #[.slice Ao185 x312000_6.length co185, .bool x312001_6], .bool t312] rfl qfc ?_; (with_reducible refine (awardingbodyref27_Step.calls kj252 (ji108) (ji109) (ji110) (ji111) _ _ x312000_6 x312001_6 t312 t343 t346 t347 _ ?side1 ?side2 A339.out).mono ?_); (case side1 => repeat (first | exact (Kd.Q_reads' HO_312000.out).2.2 | (with_reducible refine Kd.C_alloc ?_ _) | (with_reducible refine Kd.C_drewN ?_ _) | (with_reducible refine Kd.C_drew ?_))); (case side2 => exact (Kd.Q_reads' HO_312000.out).2.1); rintro e w409 ⟨v344, rfl, ho0, hb⟩; refine ⟨_, rfl, ?_⟩; have HO345 := za (Kd.Q_lower (Kd.Q_new' (Kd.Q_new' (Kd.Q_new' (Kd.Q_new' (Kd.Q_new' (Kd.Q_new' ho0 (Kd.Q_lt qfe)) (Kd.Q_lt qff)) (Kd.Q_lt qfg)) (Kd.Q_lt qfh)) (Kd.Q_lt qfn)) (Kd.Q_lt qfo)) (below_size (zm HB))); replace HO_16 := zR HO_16 hb; replace HO_17 := zR HO_17 hb; replace HO_312000 := za (Kd.Q_elder' qfe (Kd.Q_base ho0) hb); replace HO_316000 := za (Kd.Q_elder' qff (Kd.Q_base ho0) hb); replace HO_322000 := za (Kd.Q_elder' qfg (Kd.Q_base ho0) hb); replace HO_328000 := za (Kd.Q_elder' qfh (Kd.Q_base ho0) hb); replace HO_336000 := za (Kd.Q_elder' qfn (Kd.Q_base ho0) hb); replace HO_342000 := za (Kd.Q_elder' qfo (Kd.Q_base ho0) hb); replace BK242 := zb BK242 hb; replace BK243 := zb BK243 hb; replace BK254 := zb BK254 hb; replace BK255 := zb BK255 hb; replace BK294 := zb BK294 hb; replace BK311 := zb BK311 hb; replace BK315 := zb BK315 hb; replace BK321 := zb BK321 hb; replace BK327 := zb BK327 hb; replace BK329 := zb BK329 hb; replace BK335 := zb BK335 hb; replace BK341 := zb BK341 hb; replace HI248 := za (IsS53.below (qfa) hb); replace HB := zs HB hb; (try clear hb); (try clear hb2); (try clear hk); (try clear hi); (try clear ho0)) | ((with_reducible refine gate_dst (N := 35) rfl ?_); (try (refine gate_guard (by rfl) ?_; dsimp only)); refine zE 35 #[.slice none 0 0, .bool false] 27 ?_; intro gb348 hg w410 hbox hb; have BK348 := za (hbox); have GW348 := zg HB hg; have GE348 := zg HB hg; have NB242_348 := zl BK242 hg; have NB348_242 := zr BK242 hg; have NB243_348 := zl BK243 hg; have NB348_243 := zr BK243 hg; have NB254_348 := zl BK254 hg; have NB348_254 := zr BK254 hg; have NB255_348 := zl BK255 hg; have NB348_255 := zr BK255 hg; have NB294_348 := zl BK294 hg; have NB348_294 := zr BK294 hg; have NB311_348 := zl BK311 hg; have NB348_311 := zr BK311 hg; have NB315_348 := zl BK315 hg; have NB348_315 := zr BK315 hg; have NB321_348 := zl BK321 hg; have NB348_321 := zr BK321 hg; have NB327_348 := zl BK327 hg; have NB348_327 := zr BK327 hg; have NB329_348 := zl BK329 hg; have NB348_329 := zr BK329 hg; have NB335_348 := zl BK335 hg; have NB348_335 := zr BK335 hg; have NB341_348 := zl BK341 hg; have NB348_341 := zr BK341 hg; have NB248_348 := za ((qfl : g248 ≠ gb348)); have NB348_248 := za ((qfm : gb348 ≠ g248)); replace HO_16 := zR HO_16 hb; replace HO_17 := zR HO_17 hb; replace HO_312000 := za (Kd.Q_below qfe hb); replace HO_316000 := za (Kd.Q_below qff hb); replace HO_322000 := za (Kd.Q_below qfg hb); replace HO_328000 := za (Kd.Q_below qfh hb); replace HO_336000 := za (Kd.Q_below qfn hb); replace HO_342000 := za (Kd.Q_below qfo hb); replace HO345 := za (Kd.Q_below (by (with_reducible repeat (first | apply Kd.Q_alloc | apply Kd.Q_drewN | apply Kd.Q_drew)); exact HO345.out) hb); replace BK242 := zb BK242 hb; replace BK243 := zb BK243 hb; replace BK254 := zb BK254 hb; replace BK255 := zb BK255 hb; replace BK294 := zb BK294 hb; replace BK311 := zb BK311 hb; replace BK315 := zb BK315 hb; replace BK321 := zb BK321 hb; replace BK327 := zb BK327 hb; replace BK329 := zb BK329 hb; replace BK335 := zb BK335 hb; replace BK341 := zb BK341 hb; replace HI248 := za (IsS53.below (qfa) hb); replace HB := zs HB hb; clear hb hbox hg; obtain ⟨Ao411, co411, eo411, _⟩ := Kd.Q_slice HO345.out; subst eo411; have hnb412 := NB348_242.out; have hnc412 := NB242_348.out; have hnb413 := NB348_243.out; have hnc413 := NB243_348.out; have hnb414 := NB348_254.out; have hnc414 := NB254_348.out; have hnb415 := NB348_255.out; have hnc415 := NB255_348.out; have hnb416 := NB348_294.out; have hnc416 := NB294_348.out; have hnb417 := NB348_311.out; have hnc417 := NB311_348.out; have hnb418 := NB348_315.out; have hnc418 := NB315_348.out; have hnb419 := NB348_321.out; have hnc419 := NB321_348.out; have hnb420 := NB348_327.out; have hnc420 := NB327_348.out; have hnb421 := NB348_329.out; have hnc421 := NB329_348.out; have hnb422 := NB348_335.out; have hnc422 := NB335_348.out; have hnb423 := NB348_341.out; have hnc423 := NB341_348.out; have hnb424 := NB348_248.out; have hnc424 := NB248_348.out; obtain ⟨hcz425_0, hcz425_1, hfz425_0, hfz425_1⟩ := z2 BK348))
                          go_roundg kj252
                          case measure => have := HJ6.out; have := HJ22.out; have := HK3.out; have := HJ111.out; have := HJ151.out; have := HK6.out; have := HJ169.out; have := HJ252.out; omega
                          case rel => exact ⟨(wrap64 (x27_6 + 1)), (t313), (x312000_6), (x312001_6), (.slice Ao185 x312000_6.length co185), qfk, H', ⟨by have := HJ6.out; have := HJ22.out; have := HK3.out; have := HJ111.out; have := HJ151.out; have := HK6.out; have := HJ169.out; have := HJ252.out; omega⟩, ⟨by (with_reducible repeat (first | apply Kd.R_alloc | apply Kd.R_drewN | apply Kd.R_drew)); exact Kd.R_mono (Kd.R_far (p := ⟨gb348, 1, none⟩) (Kd.R_far (p := ⟨gb348, 0, none⟩) (Kd.R_types HO_16.out BK348.out (by decide)) (fun _ hk => hk.2) (.slice Ao411 t343.length co411)) (fun _ hk => hk.2) (.bool t346)) (fun _ hk => hk.1)⟩, ⟨by (with_reducible repeat (first | apply Kd.R_alloc | apply Kd.R_drewN | apply Kd.R_drew)); exact Kd.R_mono (Kd.R_far (p := ⟨gb348, 1, none⟩) (Kd.R_far (p := ⟨gb348, 0, none⟩) (Kd.R_types HO_17.out BK348.out (by decide)) (fun _ hk => hk.2) (.slice Ao411 t343.length co411)) (fun _ hk => hk.2) (.bool t346)) (fun _ hk => hk.1)⟩, ⟨by (with_reducible repeat (first | apply Kd.Q_alloc | apply Kd.Q_drewN | apply Kd.Q_drew)); exact Kd.Q_mono (Kd.Q_far (p := ⟨gb348, 1, none⟩) (Kd.Q_far (p := ⟨gb348, 0, none⟩) (Kd.Q_types HO_312000.out BK348.out (by decide)) (fun _ hk => hk.2) (.slice Ao411 t343.length co411)) (fun _ hk => hk.2) (.bool t346)) (fun _ hk => trivial)⟩, ⟨qfb⟩, ⟨qfb⟩, ⟨qfb⟩, ⟨qfb⟩, ⟨qfb⟩, ⟨qfb⟩, ⟨qfa⟩, ⟨zm HB⟩⟩
                  ·rw [if_neg c166] at H
                   have c166b0 : decide (x27_6 < 6) = false := decide_eq_false c166
                   clear c166; have H' := za H; clear H
                   go_wp2
                   go_roundg k6
                   case measure => have := HJ6.out; have := HJ22.out; have := HK3.out; have := HJ111.out; have := HJ151.out; have := HK6.out; omega
                   case rel => exact ⟨(wrap64 (x112_3 + 1)), (x249001_6), qfk, H', ⟨by have := HJ6.out; have := HJ22.out; have := HK3.out; have := HJ111.out; have := HJ151.out; have := HK6.out; omega⟩, ⟨by (with_reducible repeat (first | apply Kd.R_alloc | apply Kd.R_drewN | apply Kd.R_drew)); exact HO_16.out⟩, ⟨by (with_reducible repeat (first | apply Kd.R_alloc | apply Kd.R_drewN | apply Kd.R_drew)); exact HO_17.out⟩, ⟨qfb⟩, ⟨qfb⟩, ⟨qfb⟩, ⟨qfb⟩, ⟨qfa⟩, ⟨zm HB⟩⟩
         ·rw [if_neg c107] at H
          exact absurd H (by simp)
        ·rw [if_neg c106] at H
         have c106b0 : decide (x112_3 < 3) = false := decide_eq_false c106
         clear c106
         replace H := Option.bind_eq_some_iff.mp H
         obtain ⟨t293, A4260, H⟩ := H
         replace H : (some t293) = some r := H
         have A426 := za A4260; clear A4260
         obtain rfl := Option.some.inj H
         go_wp2_with (first | ((with_reducible refine gate_callee (f := 9) rfl ?_); refine zL (some 236) Try.func9 #[] ?_; (with_reducible refine (awardingbodylaw27_sane.calls k3  t293 _ A426.out).mono ?_); rintro e w427 ⟨rfl, hb⟩; refine ⟨_, rfl, ?_⟩; replace HO_16 := zR HO_16 hb; replace HO_17 := zR HO_17 hb; replace BK242 := zb BK242 hb; replace BK243 := zb BK243 hb; replace BK254 := zb BK254 hb; replace BK255 := zb BK255 hb; replace HI248 := za (IsS53.below (qfa) hb); replace HB := zs HB hb; (try clear hb); (try clear hb2); (try clear hk); (try clear hi)))
         go_ret
         exact ⟨zf, zm HB⟩

end Go.Proofs.Ytdcfjmkeakkfjaa.Print
