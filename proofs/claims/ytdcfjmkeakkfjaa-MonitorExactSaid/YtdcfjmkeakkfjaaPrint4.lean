-- Printed by a program of this session (wip/own_print.py) out of the translation; Lean checks it.
import Derived.Test.YtdcfjmkeakkfjaaShort
import Derived.LoopN
import Derived.Test.YtdcfjmkeakkfjaaPrint0
import Derived.Test.YtdcfjmkeakkfjaaPrint1
import Derived.Test.YtdcfjmkeakkfjaaPrint2
import Derived.Test.YtdcfjmkeakkfjaaPrint3
namespace Go.Proofs.Ytdcfjmkeakkfjaa.Print
open Go.RowKit Go.Proofs.YtdcfjmkeakkfjaaW.PrintWords Go.Proofs.YtdcfjmkeakkfjaaW.PrintLast Go.Proofs.YtdcfjmkeakkfjaaW.PrintMore
attribute [local go_sem] max2_int min2_int max_two min_two max_three min_three max_four min_four   -- for this text's walks alone
set_option linter.unusedVariables false
set_option linter.unusedSimpArgs false

/-! ### awardingbodylaw27_MonitorExact: function 3 -/
mutual
def awardingbodylaw27_MonitorExact.j0 : Nat → List Int → List Int → List Int → List Bool → Bool → Int → Int → Int → Int → List Bool → Bool → Option (Bool)
  | 0, _, _, _, _, _, _, _, _, _, _, _ => none
  | k + 1, x0, x2, x3, x4, x60, x243000, x243001, x243002, x243003, x244000, x244001 => if x60 = true then ((awardingbodylaw27_sane.f k).bind fun t245 => (some t245)) else ((awardingbodymark_Roll.f x0).bind fun bt246 => ((awardingbodymark_Dice_Monitor.f k bt246.1 bt246.2).bind fun bt249 => ((awardingbodymark_Dice_Next.f k bt246.1 bt249.2.2.2.2 4).bind fun bt256 => (if bt256.1 = 0 then ((awardingbodymark_Dice_Pick.f k bt246.1 bt256.2 (([(-1), 200, 201] : List Int))).bind fun bt261 => (awardingbodylaw27_MonitorExact.j1 k x2 x3 x4 x243000 x243001 x243002 x243003 x244000 x244001 bt246.1 bt261.2 bt249.1 bt249.2.1 bt249.2.2.1 bt249.2.2.2.1 bt261.1 bt249.2.1 bt249.2.2.1 bt249.2.2.2.1)) else (if bt256.1 = 1 then ((awardingbodymark_Dice_Pick.f k bt246.1 bt256.2 (([(-1), 200, 201] : List Int))).bind fun bt266 => (awardingbodylaw27_MonitorExact.j1 k x2 x3 x4 x243000 x243001 x243002 x243003 x244000 x244001 bt246.1 bt266.2 bt249.1 bt249.2.1 bt249.2.2.1 bt249.2.2.2.1 bt249.1 bt266.1 bt249.2.2.1 bt249.2.2.2.1)) else (if bt256.1 = 2 then ((awardingbodymark_Dice_Pick.f k bt246.1 bt256.2 (([0, 20, 21] : List Int))).bind fun bt271 => (awardingbodylaw27_MonitorExact.j1 k x2 x3 x4 x243000 x243001 x243002 x243003 x244000 x244001 bt246.1 bt271.2 bt249.1 bt249.2.1 bt249.2.2.1 bt249.2.2.2.1 bt249.1 bt249.2.1 bt271.1 bt249.2.2.2.1)) else ((awardingbodymark_Dice_Pick.f k bt246.1 bt256.2 (([0, bt249.2.2.1, wrap64 (bt249.2.2.1 + 1)] : List Int))).bind fun bt276 => (awardingbodylaw27_MonitorExact.j1 k x2 x3 x4 x243000 x243001 x243002 x243003 x244000 x244001 bt246.1 bt276.2 bt249.1 bt249.2.1 bt249.2.2.1 bt249.2.2.2.1 bt249.1 bt249.2.1 bt249.2.2.1 bt276.1))))))))
def awardingbodylaw27_MonitorExact.j1 : Nat → List Int → List Int → List Bool → Int → Int → Int → Int → List Bool → Bool → List Int → Int → Int → Int → Int → Int → Int → Int → Int → Int → Option (Bool)
  | 0, _, _, _, _, _, _, _, _, _, _, _, _, _, _, _, _, _, _, _ => none
  | k + 1, x2, x3, x4, x243000, x243001, x243002, x243003, x244000, x244001, x249000, x249001, x255000, x255001, x255002, x255003, x256000, x256001, x256002, x256003 => (awardingbodymark_Dice_Next.f k x249000 x249001 5).bind fun bt278 => ((awardingbodymark_Dice_Next.f k x249000 bt278.2 5).bind fun bt280 => ((awardingbodymark_Dice_Next.f k x249000 bt280.2 5).bind fun bt285 => ((awardingbodymark_Dice_Next.f k x249000 bt285.2 5).bind fun bt287 => (awardingbodylaw27_MonitorExact.l0 k x2 x3 x4 (([bt278.1, wrap64 (bt280.1 - 1)] : List Int)) (([bt285.1, wrap64 (bt287.1 - 1)] : List Int)) 0 x244000 x244001 x249000 bt287.2 x255000 x255001 x255002 x255003 x256000 x256001 x256002 x256003 x243000 x243001 x243002 x243003))))
def awardingbodylaw27_MonitorExact.l0 : Nat → List Int → List Int → List Bool → List Int → List Int → Int → List Bool → Bool → List Int → Int → Int → Int → Int → Int → Int → Int → Int → Int → Int → Int → Int → Int → Option (Bool)
  | 0, _, _, _, _, _, _, _, _, _, _, _, _, _, _, _, _, _, _, _, _, _, _ => none
  | k + 1, x2, x3, x4, x16, x17, x112, x244000, x244001, x249000, x249001, x293000, x293001, x293002, x293003, x293004, x293005, x293006, x293007, x293008, x293009, x293010, x293011 => if x112 < 3 then (if 0 ≤ x112 then ((monitor_Check.f (if x112 = 0 then x293000 else if x112 = 1 then x293004 else x293008) (if x112 = 0 then x293001 else if x112 = 1 then x293005 else x293009) (if x112 = 0 then x293002 else if x112 = 1 then x293006 else x293010) (if x112 = 0 then x293003 else if x112 = 1 then x293007 else x293011)).bind fun t295 => ((awardingbodyref27_Check.f (if x112 = 0 then x293000 else if x112 = 1 then x293004 else x293008) (if x112 = 0 then x293001 else if x112 = 1 then x293005 else x293009) (if x112 = 0 then x293002 else if x112 = 1 then x293006 else x293010) (if x112 = 0 then x293003 else if x112 = 1 then x293007 else x293011)).bind fun t296 => (if t295 = t296 then ((monitor_Good.f k (if x112 = 0 then x293000 else if x112 = 1 then x293004 else x293008) (if x112 = 0 then x293001 else if x112 = 1 then x293005 else x293009) (if x112 = 0 then x293002 else if x112 = 1 then x293006 else x293010) (if x112 = 0 then x293003 else if x112 = 1 then x293007 else x293011) x2 x3).bind fun t297 => ((awardingbodyref27_Good.f k (if x112 = 0 then x293000 else if x112 = 1 then x293004 else x293008) (if x112 = 0 then x293001 else if x112 = 1 then x293005 else x293009) (if x112 = 0 then x293002 else if x112 = 1 then x293006 else x293010) (if x112 = 0 then x293003 else if x112 = 1 then x293007 else x293011) x2 x3).bind fun t298 => (if (t297 != t298) = true then (none) else ((monitor_Good.f k (if x112 = 0 then x293000 else if x112 = 1 then x293004 else x293008) (if x112 = 0 then x293001 else if x112 = 1 then x293005 else x293009) (if x112 = 0 then x293002 else if x112 = 1 then x293006 else x293010) (if x112 = 0 then x293003 else if x112 = 1 then x293007 else x293011) x16 x17).bind fun t299 => ((awardingbodyref27_Good.f k (if x112 = 0 then x293000 else if x112 = 1 then x293004 else x293008) (if x112 = 0 then x293001 else if x112 = 1 then x293005 else x293009) (if x112 = 0 then x293002 else if x112 = 1 then x293006 else x293010) (if x112 = 0 then x293003 else if x112 = 1 then x293007 else x293011) x16 x17).bind fun t300 => (if (t299 != t300) = true then (none) else ((monitor_Good.f k (if x112 = 0 then x293000 else if x112 = 1 then x293004 else x293008) (if x112 = 0 then x293001 else if x112 = 1 then x293005 else x293009) (if x112 = 0 then x293002 else if x112 = 1 then x293006 else x293010) (if x112 = 0 then x293003 else if x112 = 1 then x293007 else x293011) x2 x2).bind fun t301 => ((awardingbodyref27_Good.f k (if x112 = 0 then x293000 else if x112 = 1 then x293004 else x293008) (if x112 = 0 then x293001 else if x112 = 1 then x293005 else x293009) (if x112 = 0 then x293002 else if x112 = 1 then x293006 else x293010) (if x112 = 0 then x293003 else if x112 = 1 then x293007 else x293011) x2 x2).bind fun t302 => (if (t301 != t302) = true then (none) else ((monitor_Valid.f k (if x112 = 0 then x293000 else if x112 = 1 then x293004 else x293008) (if x112 = 0 then x293001 else if x112 = 1 then x293005 else x293009) (if x112 = 0 then x293002 else if x112 = 1 then x293006 else x293010) (if x112 = 0 then x293003 else if x112 = 1 then x293007 else x293011) x244000 x244001).bind fun t303 => ((awardingbodyref27_Valid.f k (if x112 = 0 then x293000 else if x112 = 1 then x293004 else x293008) (if x112 = 0 then x293001 else if x112 = 1 then x293005 else x293009) (if x112 = 0 then x293002 else if x112 = 1 then x293006 else x293010) (if x112 = 0 then x293003 else if x112 = 1 then x293007 else x293011) x244000 x244001).bind fun t304 => (awardingbodylaw27_MonitorExact.j3 k x2 x3 x4 x16 x17 x112 (t303 != t304) x244000 x244001 x249000 x249001 x293000 x293001 x293002 x293003 x293004 x293005 x293006 x293007 x293008 x293009 x293010 x293011 (if x112 = 0 then x293000 else if x112 = 1 then x293004 else x293008) (if x112 = 0 then x293001 else if x112 = 1 then x293005 else x293009) (if x112 = 0 then x293002 else if x112 = 1 then x293006 else x293010) (if x112 = 0 then x293003 else if x112 = 1 then x293007 else x293011))))))))))))) else (none)))) else (none)) else ((awardingbodylaw27_sane.f k).bind fun t293 => (some t293))
def awardingbodylaw27_MonitorExact.j3 : Nat → List Int → List Int → List Bool → List Int → List Int → Int → Bool → List Bool → Bool → List Int → Int → Int → Int → Int → Int → Int → Int → Int → Int → Int → Int → Int → Int → Int → Int → Int → Int → Option (Bool)
  | 0, _, _, _, _, _, _, _, _, _, _, _, _, _, _, _, _, _, _, _, _, _, _, _, _, _, _, _ => none
  | k + 1, x2, x3, x4, x16, x17, x112, x161, x244000, x244001, x249000, x249001, x293000, x293001, x293002, x293003, x293004, x293005, x293006, x293007, x293008, x293009, x293010, x293011, x295000, x295001, x295002, x295003 => if x161 = true then (none) else ((monitor_Run.f k x295000 x295001 x295002 x295003 x4).bind fun bt305 => ((awardingbodyref27_Run.f k x295000 x295001 x295002 x295003 x4).bind fun bt308 => (if bt305.1 = bt308.1 then (if bt305.2.1 = bt308.2.1 then (awardingbodylaw27_MonitorExact.j4 k x2 x3 x4 x16 x17 x112 (bt305.2.2 != bt308.2.2) x244000 x244001 x249000 x249001 x293000 x293001 x293002 x293003 x293004 x293005 x293006 x293007 x293008 x293009 x293010 x293011 x295000 x295001 x295002 x295003) else (none)) else (none))))
def awardingbodylaw27_MonitorExact.j4 : Nat → List Int → List Int → List Bool → List Int → List Int → Int → Bool → List Bool → Bool → List Int → Int → Int → Int → Int → Int → Int → Int → Int → Int → Int → Int → Int → Int → Int → Int → Int → Int → Option (Bool)
  | 0, _, _, _, _, _, _, _, _, _, _, _, _, _, _, _, _, _, _, _, _, _, _, _, _, _, _, _ => none
  | k + 1, x2, x3, x4, x16, x17, x112, x188, x244000, x244001, x249000, x249001, x293000, x293001, x293002, x293003, x293004, x293005, x293006, x293007, x293008, x293009, x293010, x293011, x295000, x295001, x295002, x295003 => if x188 = true then (none) else (awardingbodylaw27_MonitorExact.l1 k x2 x3 x4 x16 x17 0 x112 x244000 x244001 x249000 x249001 x293000 x293001 x293002 x293003 x293004 x293005 x293006 x293007 x293008 x293009 x293010 x293011 x295000 x295001 x295002 x295003 ([] : List Bool) false)
def awardingbodylaw27_MonitorExact.l1 : Nat → List Int → List Int → List Bool → List Int → List Int → Int → Int → List Bool → Bool → List Int → Int → Int → Int → Int → Int → Int → Int → Int → Int → Int → Int → Int → Int → Int → Int → Int → Int → List Bool → Bool → Option (Bool)
  | 0, _, _, _, _, _, _, _, _, _, _, _, _, _, _, _, _, _, _, _, _, _, _, _, _, _, _, _, _, _ => none
  | k + 1, x2, x3, x4, x16, x17, x27, x112, x244000, x244001, x249000, x249001, x293000, x293001, x293002, x293003, x293004, x293005, x293006, x293007, x293008, x293009, x293010, x293011, x295000, x295001, x295002, x295003, x312000, x312001 => if x27 < 6 then ((awardingbodymark_Dice_Bool.f k x249000 x249001 2).bind fun bt312 => ((monitor_Step.f k x295000 x295001 x295002 x295003 x312000 x312001 bt312.1).bind fun bt316 => ((awardingbodyref27_Step.f k x295000 x295001 x295002 x295003 x312000 x312001 bt312.1).bind fun bt322 => ((awardingbodylaw27_same.f k bt316.1 bt316.2.1 bt322.1 bt322.2.1).bind fun t328 => (if t328 = true then (awardingbodylaw27_MonitorExact.j6 k x2 x3 x4 x16 x17 x27 bt312.1 x112 (bt316.2.2 != bt322.2.2) x244000 x244001 x249000 bt312.2 x293000 x293001 x293002 x293003 x293004 x293005 x293006 x293007 x293008 x293009 x293010 x293011 x295000 x295001 x295002 x295003 x312000 x312001 x312000 x312001 x244000 x244001) else (none)))))) else (awardingbodylaw27_MonitorExact.l0 k x2 x3 x4 x16 x17 (wrap64 (x112 + 1)) x244000 x244001 x249000 x249001 x293000 x293001 x293002 x293003 x293004 x293005 x293006 x293007 x293008 x293009 x293010 x293011)
def awardingbodylaw27_MonitorExact.j6 : Nat → List Int → List Int → List Bool → List Int → List Int → Int → Bool → Int → Bool → List Bool → Bool → List Int → Int → Int → Int → Int → Int → Int → Int → Int → Int → Int → Int → Int → Int → Int → Int → Int → Int → List Bool → Bool → List Bool → Bool → List Bool → Bool → Option (Bool)
  | 0, _, _, _, _, _, _, _, _, _, _, _, _, _, _, _, _, _, _, _, _, _, _, _, _, _, _, _, _, _, _, _, _, _, _, _ => none
  | k + 1, x2, x3, x4, x16, x17, x27, x28, x112, x223, x244000, x244001, x249000, x249001, x293000, x293001, x293002, x293003, x293004, x293005, x293006, x293007, x293008, x293009, x293010, x293011, x295000, x295001, x295002, x295003, x312000, x312001, x315000, x315001, x315002, x315003 => if x223 = true then (none) else ((monitor_Step.f k x295000 x295001 x295002 x295003 x315002 x315003 x28).bind fun bt330 => ((awardingbodyref27_Step.f k x295000 x295001 x295002 x295003 x315002 x315003 x28).bind fun bt336 => ((awardingbodylaw27_same.f k bt330.1 bt330.2.1 bt336.1 bt336.2.1).bind fun t342 => (if t342 = true then (awardingbodylaw27_MonitorExact.j7 k x2 x3 x4 x16 x17 x27 x28 x112 (bt330.2.2 != bt336.2.2) x244000 x244001 x249000 x249001 x293000 x293001 x293002 x293003 x293004 x293005 x293006 x293007 x293008 x293009 x293010 x293011 x295000 x295001 x295002 x295003 x312000 x312001) else (none)))))
def awardingbodylaw27_MonitorExact.j7 : Nat → List Int → List Int → List Bool → List Int → List Int → Int → Bool → Int → Bool → List Bool → Bool → List Int → Int → Int → Int → Int → Int → Int → Int → Int → Int → Int → Int → Int → Int → Int → Int → Int → Int → List Bool → Bool → Option (Bool)
  | 0, _, _, _, _, _, _, _, _, _, _, _, _, _, _, _, _, _, _, _, _, _, _, _, _, _, _, _, _, _, _, _ => none
  | k + 1, x2, x3, x4, x16, x17, x27, x28, x112, x223, x244000, x244001, x249000, x249001, x293000, x293001, x293002, x293003, x293004, x293005, x293006, x293007, x293008, x293009, x293010, x293011, x295000, x295001, x295002, x295003, x312000, x312001 => if x223 = true then (none) else ((awardingbodyref27_Step.f k x295000 x295001 x295002 x295003 x312000 x312001 x28).bind fun bt343 => (if bt343.2.2 = 0 then (awardingbodylaw27_MonitorExact.l1 k x2 x3 x4 x16 x17 (wrap64 (x27 + 1)) x112 x244000 x244001 x249000 x249001 x293000 x293001 x293002 x293003 x293004 x293005 x293006 x293007 x293008 x293009 x293010 x293011 x295000 x295001 x295002 x295003 bt343.1 bt343.2.1) else (awardingbodylaw27_MonitorExact.l1 k x2 x3 x4 x16 x17 (wrap64 (x27 + 1)) x112 x244000 x244001 x249000 x249001 x293000 x293001 x293002 x293003 x293004 x293005 x293006 x293007 x293008 x293009 x293010 x293011 x295000 x295001 x295002 x295003 x312000 x312001)))
end
def awardingbodylaw27_MonitorExact.f (k : Nat) (l0 : List Int) (a1_0 : Int) (a1_1 : Int) (a1_2 : Int) (a1_3 : Int) (l2 : List Int) (l3 : List Int) (l4 : List Bool) (l5_0 : List Bool) (a5_1 : Bool) : Option (Bool) := (awardingbodymark_Light.f l0).bind fun t244 => (if t244 = true then (if (l2.length : Int) > 40 then (awardingbodylaw27_MonitorExact.j0 k l0 l2 l3 l4 true a1_0 a1_1 a1_2 a1_3 l5_0 a5_1) else (if (l3.length : Int) > 40 then (awardingbodylaw27_MonitorExact.j0 k l0 l2 l3 l4 true a1_0 a1_1 a1_2 a1_3 l5_0 a5_1) else (if (l4.length : Int) > 100 then (awardingbodylaw27_MonitorExact.j0 k l0 l2 l3 l4 true a1_0 a1_1 a1_2 a1_3 l5_0 a5_1) else (awardingbodylaw27_MonitorExact.j0 k l0 l2 l3 l4 (decide ((l5_0.length : Int) > 40)) a1_0 a1_1 a1_2 a1_3 l5_0 a5_1)))) else (awardingbodylaw27_MonitorExact.j0 k l0 l2 l3 l4 true a1_0 a1_1 a1_2 a1_3 l5_0 a5_1))
theorem awardingbodylaw27_MonitorExact.mono_l : ∀ k, (∀ y0 y1 y2 y3 y4 y5 y6 y7 y8 y9 y10, LeO (awardingbodylaw27_MonitorExact.j0 k y0 y1 y2 y3 y4 y5 y6 y7 y8 y9 y10) (awardingbodylaw27_MonitorExact.j0 (k + 1) y0 y1 y2 y3 y4 y5 y6 y7 y8 y9 y10)) ∧ (∀ y0 y1 y2 y3 y4 y5 y6 y7 y8 y9 y10 y11 y12 y13 y14 y15 y16 y17 y18, LeO (awardingbodylaw27_MonitorExact.j1 k y0 y1 y2 y3 y4 y5 y6 y7 y8 y9 y10 y11 y12 y13 y14 y15 y16 y17 y18) (awardingbodylaw27_MonitorExact.j1 (k + 1) y0 y1 y2 y3 y4 y5 y6 y7 y8 y9 y10 y11 y12 y13 y14 y15 y16 y17 y18)) ∧ (∀ y0 y1 y2 y3 y4 y5 y6 y7 y8 y9 y10 y11 y12 y13 y14 y15 y16 y17 y18 y19 y20 y21, LeO (awardingbodylaw27_MonitorExact.l0 k y0 y1 y2 y3 y4 y5 y6 y7 y8 y9 y10 y11 y12 y13 y14 y15 y16 y17 y18 y19 y20 y21) (awardingbodylaw27_MonitorExact.l0 (k + 1) y0 y1 y2 y3 y4 y5 y6 y7 y8 y9 y10 y11 y12 y13 y14 y15 y16 y17 y18 y19 y20 y21)) ∧ (∀ y0 y1 y2 y3 y4 y5 y6 y7 y8 y9 y10 y11 y12 y13 y14 y15 y16 y17 y18 y19 y20 y21 y22 y23 y24 y25 y26, LeO (awardingbodylaw27_MonitorExact.j3 k y0 y1 y2 y3 y4 y5 y6 y7 y8 y9 y10 y11 y12 y13 y14 y15 y16 y17 y18 y19 y20 y21 y22 y23 y24 y25 y26) (awardingbodylaw27_MonitorExact.j3 (k + 1) y0 y1 y2 y3 y4 y5 y6 y7 y8 y9 y10 y11 y12 y13 y14 y15 y16 y17 y18 y19 y20 y21 y22 y23 y24 y25 y26)) ∧ (∀ y0 y1 y2 y3 y4 y5 y6 y7 y8 y9 y10 y11 y12 y13 y14 y15 y16 y17 y18 y19 y20 y21 y22 y23 y24 y25 y26, LeO (awardingbodylaw27_MonitorExact.j4 k y0 y1 y2 y3 y4 y5 y6 y7 y8 y9 y10 y11 y12 y13 y14 y15 y16 y17 y18 y19 y20 y21 y22 y23 y24 y25 y26) (awardingbodylaw27_MonitorExact.j4 (k + 1) y0 y1 y2 y3 y4 y5 y6 y7 y8 y9 y10 y11 y12 y13 y14 y15 y16 y17 y18 y19 y20 y21 y22 y23 y24 y25 y26)) ∧ (∀ y0 y1 y2 y3 y4 y5 y6 y7 y8 y9 y10 y11 y12 y13 y14 y15 y16 y17 y18 y19 y20 y21 y22 y23 y24 y25 y26 y27 y28, LeO (awardingbodylaw27_MonitorExact.l1 k y0 y1 y2 y3 y4 y5 y6 y7 y8 y9 y10 y11 y12 y13 y14 y15 y16 y17 y18 y19 y20 y21 y22 y23 y24 y25 y26 y27 y28) (awardingbodylaw27_MonitorExact.l1 (k + 1) y0 y1 y2 y3 y4 y5 y6 y7 y8 y9 y10 y11 y12 y13 y14 y15 y16 y17 y18 y19 y20 y21 y22 y23 y24 y25 y26 y27 y28)) ∧ (∀ y0 y1 y2 y3 y4 y5 y6 y7 y8 y9 y10 y11 y12 y13 y14 y15 y16 y17 y18 y19 y20 y21 y22 y23 y24 y25 y26 y27 y28 y29 y30 y31 y32 y33 y34, LeO (awardingbodylaw27_MonitorExact.j6 k y0 y1 y2 y3 y4 y5 y6 y7 y8 y9 y10 y11 y12 y13 y14 y15 y16 y17 y18 y19 y20 y21 y22 y23 y24 y25 y26 y27 y28 y29 y30 y31 y32 y33 y34) (awardingbodylaw27_MonitorExact.j6 (k + 1) y0 y1 y2 y3 y4 y5 y6 y7 y8 y9 y10 y11 y12 y13 y14 y15 y16 y17 y18 y19 y20 y21 y22 y23 y24 y25 y26 y27 y28 y29 y30 y31 y32 y33 y34)) ∧ (∀ y0 y1 y2 y3 y4 y5 y6 y7 y8 y9 y10 y11 y12 y13 y14 y15 y16 y17 y18 y19 y20 y21 y22 y23 y24 y25 y26 y27 y28 y29 y30, LeO (awardingbodylaw27_MonitorExact.j7 k y0 y1 y2 y3 y4 y5 y6 y7 y8 y9 y10 y11 y12 y13 y14 y15 y16 y17 y18 y19 y20 y21 y22 y23 y24 y25 y26 y27 y28 y29 y30) (awardingbodylaw27_MonitorExact.j7 (k + 1) y0 y1 y2 y3 y4 y5 y6 y7 y8 y9 y10 y11 y12 y13 y14 y15 y16 y17 y18 y19 y20 y21 y22 y23 y24 y25 y26 y27 y28 y29 y30))
  | 0 => ⟨fun _ _ _ _ _ _ _ _ _ _ _ r h => by simp [awardingbodylaw27_MonitorExact.j0] at h, fun _ _ _ _ _ _ _ _ _ _ _ _ _ _ _ _ _ _ _ r h => by simp [awardingbodylaw27_MonitorExact.j1] at h, fun _ _ _ _ _ _ _ _ _ _ _ _ _ _ _ _ _ _ _ _ _ _ r h => by simp [awardingbodylaw27_MonitorExact.l0] at h, fun _ _ _ _ _ _ _ _ _ _ _ _ _ _ _ _ _ _ _ _ _ _ _ _ _ _ _ r h => by simp [awardingbodylaw27_MonitorExact.j3] at h, fun _ _ _ _ _ _ _ _ _ _ _ _ _ _ _ _ _ _ _ _ _ _ _ _ _ _ _ r h => by simp [awardingbodylaw27_MonitorExact.j4] at h, fun _ _ _ _ _ _ _ _ _ _ _ _ _ _ _ _ _ _ _ _ _ _ _ _ _ _ _ _ _ r h => by simp [awardingbodylaw27_MonitorExact.l1] at h, fun _ _ _ _ _ _ _ _ _ _ _ _ _ _ _ _ _ _ _ _ _ _ _ _ _ _ _ _ _ _ _ _ _ _ _ r h => by simp [awardingbodylaw27_MonitorExact.j6] at h, fun _ _ _ _ _ _ _ _ _ _ _ _ _ _ _ _ _ _ _ _ _ _ _ _ _ _ _ _ _ _ _ r h => by simp [awardingbodylaw27_MonitorExact.j7] at h⟩
  | k + 1 => by
    obtain ⟨ih0, ih1, ih2, ih3, ih4, ih5, ih6, ih7⟩ := awardingbodylaw27_MonitorExact.mono_l k
    refine ⟨?_, ?_, ?_, ?_, ?_, ?_, ?_, ?_⟩
    · intro y0 y1 y2 y3 y4 y5 y6 y7 y8 y9 y10
      unfold awardingbodylaw27_MonitorExact.j0
      repeat' first
      | (with_reducible exact ih0 _ _ _ _ _ _ _ _ _ _ _)
      | (with_reducible exact ih1 _ _ _ _ _ _ _ _ _ _ _ _ _ _ _ _ _ _ _)
      | (with_reducible exact ih2 _ _ _ _ _ _ _ _ _ _ _ _ _ _ _ _ _ _ _ _ _ _)
      | (with_reducible exact ih3 _ _ _ _ _ _ _ _ _ _ _ _ _ _ _ _ _ _ _ _ _ _ _ _ _ _ _)
      | (with_reducible exact ih4 _ _ _ _ _ _ _ _ _ _ _ _ _ _ _ _ _ _ _ _ _ _ _ _ _ _ _)
      | (with_reducible exact ih5 _ _ _ _ _ _ _ _ _ _ _ _ _ _ _ _ _ _ _ _ _ _ _ _ _ _ _ _ _)
      | (with_reducible exact ih6 _ _ _ _ _ _ _ _ _ _ _ _ _ _ _ _ _ _ _ _ _ _ _ _ _ _ _ _ _ _ _ _ _ _ _)
      | (with_reducible exact ih7 _ _ _ _ _ _ _ _ _ _ _ _ _ _ _ _ _ _ _ _ _ _ _ _ _ _ _ _ _ _ _)
      | (with_reducible exact awardingbodylaw27_same.mono _ _ _ _ _)
      | (with_reducible exact awardingbodylaw27_sane.mono _)
      | (with_reducible exact awardingbodymark_Dice_Bool.mono _ _ _ _)
      | (with_reducible exact awardingbodymark_Dice_Monitor.mono _ _ _)
      | (with_reducible exact awardingbodymark_Dice_Next.mono _ _ _ _)
      | (with_reducible exact awardingbodymark_Dice_Pick.mono _ _ _ _)
      | (with_reducible exact awardingbodyref27_Good.mono _ _ _ _ _ _ _)
      | (with_reducible exact awardingbodyref27_Run.mono _ _ _ _ _ _)
      | (with_reducible exact awardingbodyref27_Step.mono _ _ _ _ _ _ _ _)
      | (with_reducible exact awardingbodyref27_Valid.mono _ _ _ _ _ _ _)
      | (with_reducible exact monitor_Good.mono _ _ _ _ _ _ _)
      | (with_reducible exact monitor_Run.mono _ _ _ _ _ _)
      | (with_reducible exact monitor_Step.mono _ _ _ _ _ _ _ _)
      | (with_reducible exact monitor_Valid.mono _ _ _ _ _ _ _)
      | (with_reducible exact LeO.refl _)
      | (with_reducible exact LeO.none _)
      | (with_reducible refine LeO.ite ?_ ?_)
      | (with_reducible refine LeO.bind ?_ (fun _ => ?_))
      | exact ih0 _ _ _ _ _ _ _ _ _ _ _
      | exact ih1 _ _ _ _ _ _ _ _ _ _ _ _ _ _ _ _ _ _ _
      | exact ih2 _ _ _ _ _ _ _ _ _ _ _ _ _ _ _ _ _ _ _ _ _ _
      | exact ih3 _ _ _ _ _ _ _ _ _ _ _ _ _ _ _ _ _ _ _ _ _ _ _ _ _ _ _
      | exact ih4 _ _ _ _ _ _ _ _ _ _ _ _ _ _ _ _ _ _ _ _ _ _ _ _ _ _ _
      | exact ih5 _ _ _ _ _ _ _ _ _ _ _ _ _ _ _ _ _ _ _ _ _ _ _ _ _ _ _ _ _
      | exact ih6 _ _ _ _ _ _ _ _ _ _ _ _ _ _ _ _ _ _ _ _ _ _ _ _ _ _ _ _ _ _ _ _ _ _ _
      | exact ih7 _ _ _ _ _ _ _ _ _ _ _ _ _ _ _ _ _ _ _ _ _ _ _ _ _ _ _ _ _ _ _
      | exact awardingbodylaw27_same.mono _ _ _ _ _
      | exact awardingbodylaw27_sane.mono _
      | exact awardingbodymark_Dice_Bool.mono _ _ _ _
      | exact awardingbodymark_Dice_Monitor.mono _ _ _
      | exact awardingbodymark_Dice_Next.mono _ _ _ _
      | exact awardingbodymark_Dice_Pick.mono _ _ _ _
      | exact awardingbodyref27_Good.mono _ _ _ _ _ _ _
      | exact awardingbodyref27_Run.mono _ _ _ _ _ _
      | exact awardingbodyref27_Step.mono _ _ _ _ _ _ _ _
      | exact awardingbodyref27_Valid.mono _ _ _ _ _ _ _
      | exact monitor_Good.mono _ _ _ _ _ _ _
      | exact monitor_Run.mono _ _ _ _ _ _
      | exact monitor_Step.mono _ _ _ _ _ _ _ _
      | exact monitor_Valid.mono _ _ _ _ _ _ _
      | exact LeO.none _
      | refine LeO.ite ?_ ?_
      | refine LeO.bind ?_ (fun _ => ?_)
    · intro y0 y1 y2 y3 y4 y5 y6 y7 y8 y9 y10 y11 y12 y13 y14 y15 y16 y17 y18
      unfold awardingbodylaw27_MonitorExact.j1
      repeat' first
      | (with_reducible exact ih0 _ _ _ _ _ _ _ _ _ _ _)
      | (with_reducible exact ih1 _ _ _ _ _ _ _ _ _ _ _ _ _ _ _ _ _ _ _)
      | (with_reducible exact ih2 _ _ _ _ _ _ _ _ _ _ _ _ _ _ _ _ _ _ _ _ _ _)
      | (with_reducible exact ih3 _ _ _ _ _ _ _ _ _ _ _ _ _ _ _ _ _ _ _ _ _ _ _ _ _ _ _)
      | (with_reducible exact ih4 _ _ _ _ _ _ _ _ _ _ _ _ _ _ _ _ _ _ _ _ _ _ _ _ _ _ _)
      | (with_reducible exact ih5 _ _ _ _ _ _ _ _ _ _ _ _ _ _ _ _ _ _ _ _ _ _ _ _ _ _ _ _ _)
      | (with_reducible exact ih6 _ _ _ _ _ _ _ _ _ _ _ _ _ _ _ _ _ _ _ _ _ _ _ _ _ _ _ _ _ _ _ _ _ _ _)
      | (with_reducible exact ih7 _ _ _ _ _ _ _ _ _ _ _ _ _ _ _ _ _ _ _ _ _ _ _ _ _ _ _ _ _ _ _)
      | (with_reducible exact awardingbodylaw27_same.mono _ _ _ _ _)
      | (with_reducible exact awardingbodylaw27_sane.mono _)
      | (with_reducible exact awardingbodymark_Dice_Bool.mono _ _ _ _)
      | (with_reducible exact awardingbodymark_Dice_Monitor.mono _ _ _)
      | (with_reducible exact awardingbodymark_Dice_Next.mono _ _ _ _)
      | (with_reducible exact awardingbodymark_Dice_Pick.mono _ _ _ _)
      | (with_reducible exact awardingbodyref27_Good.mono _ _ _ _ _ _ _)
      | (with_reducible exact awardingbodyref27_Run.mono _ _ _ _ _ _)
      | (with_reducible exact awardingbodyref27_Step.mono _ _ _ _ _ _ _ _)
      | (with_reducible exact awardingbodyref27_Valid.mono _ _ _ _ _ _ _)
      | (with_reducible exact monitor_Good.mono _ _ _ _ _ _ _)
      | (with_reducible exact monitor_Run.mono _ _ _ _ _ _)
      | (with_reducible exact monitor_Step.mono _ _ _ _ _ _ _ _)
      | (with_reducible exact monitor_Valid.mono _ _ _ _ _ _ _)
      | (with_reducible exact LeO.refl _)
      | (with_reducible exact LeO.none _)
      | (with_reducible refine LeO.ite ?_ ?_)
      | (with_reducible refine LeO.bind ?_ (fun _ => ?_))
      | exact ih0 _ _ _ _ _ _ _ _ _ _ _
      | exact ih1 _ _ _ _ _ _ _ _ _ _ _ _ _ _ _ _ _ _ _
      | exact ih2 _ _ _ _ _ _ _ _ _ _ _ _ _ _ _ _ _ _ _ _ _ _
      | exact ih3 _ _ _ _ _ _ _ _ _ _ _ _ _ _ _ _ _ _ _ _ _ _ _ _ _ _ _
      | exact ih4 _ _ _ _ _ _ _ _ _ _ _ _ _ _ _ _ _ _ _ _ _ _ _ _ _ _ _
      | exact ih5 _ _ _ _ _ _ _ _ _ _ _ _ _ _ _ _ _ _ _ _ _ _ _ _ _ _ _ _ _
      | exact ih6 _ _ _ _ _ _ _ _ _ _ _ _ _ _ _ _ _ _ _ _ _ _ _ _ _ _ _ _ _ _ _ _ _ _ _
      | exact ih7 _ _ _ _ _ _ _ _ _ _ _ _ _ _ _ _ _ _ _ _ _ _ _ _ _ _ _ _ _ _ _
      | exact awardingbodylaw27_same.mono _ _ _ _ _
      | exact awardingbodylaw27_sane.mono _
      | exact awardingbodymark_Dice_Bool.mono _ _ _ _
      | exact awardingbodymark_Dice_Monitor.mono _ _ _
      | exact awardingbodymark_Dice_Next.mono _ _ _ _
      | exact awardingbodymark_Dice_Pick.mono _ _ _ _
      | exact awardingbodyref27_Good.mono _ _ _ _ _ _ _
      | exact awardingbodyref27_Run.mono _ _ _ _ _ _
      | exact awardingbodyref27_Step.mono _ _ _ _ _ _ _ _
      | exact awardingbodyref27_Valid.mono _ _ _ _ _ _ _
      | exact monitor_Good.mono _ _ _ _ _ _ _
      | exact monitor_Run.mono _ _ _ _ _ _
      | exact monitor_Step.mono _ _ _ _ _ _ _ _
      | exact monitor_Valid.mono _ _ _ _ _ _ _
      | exact LeO.none _
      | refine LeO.ite ?_ ?_
      | refine LeO.bind ?_ (fun _ => ?_)
    · intro y0 y1 y2 y3 y4 y5 y6 y7 y8 y9 y10 y11 y12 y13 y14 y15 y16 y17 y18 y19 y20 y21
      unfold awardingbodylaw27_MonitorExact.l0
      repeat' first
      | (with_reducible exact ih0 _ _ _ _ _ _ _ _ _ _ _)
      | (with_reducible exact ih1 _ _ _ _ _ _ _ _ _ _ _ _ _ _ _ _ _ _ _)
      | (with_reducible exact ih2 _ _ _ _ _ _ _ _ _ _ _ _ _ _ _ _ _ _ _ _ _ _)
      | (with_reducible exact ih3 _ _ _ _ _ _ _ _ _ _ _ _ _ _ _ _ _ _ _ _ _ _ _ _ _ _ _)
      | (with_reducible exact ih4 _ _ _ _ _ _ _ _ _ _ _ _ _ _ _ _ _ _ _ _ _ _ _ _ _ _ _)
      | (with_reducible exact ih5 _ _ _ _ _ _ _ _ _ _ _ _ _ _ _ _ _ _ _ _ _ _ _ _ _ _ _ _ _)
      | (with_reducible exact ih6 _ _ _ _ _ _ _ _ _ _ _ _ _ _ _ _ _ _ _ _ _ _ _ _ _ _ _ _ _ _ _ _ _ _ _)
      | (with_reducible exact ih7 _ _ _ _ _ _ _ _ _ _ _ _ _ _ _ _ _ _ _ _ _ _ _ _ _ _ _ _ _ _ _)
      | (with_reducible exact awardingbodylaw27_same.mono _ _ _ _ _)
      | (with_reducible exact awardingbodylaw27_sane.mono _)
      | (with_reducible exact awardingbodymark_Dice_Bool.mono _ _ _ _)
      | (with_reducible exact awardingbodymark_Dice_Monitor.mono _ _ _)
      | (with_reducible exact awardingbodymark_Dice_Next.mono _ _ _ _)
      | (with_reducible exact awardingbodymark_Dice_Pick.mono _ _ _ _)
      | (with_reducible exact awardingbodyref27_Good.mono _ _ _ _ _ _ _)
      | (with_reducible exact awardingbodyref27_Run.mono _ _ _ _ _ _)
      | (with_reducible exact awardingbodyref27_Step.mono _ _ _ _ _ _ _ _)
      | (with_reducible exact awardingbodyref27_Valid.mono _ _ _ _ _ _ _)
      | (with_reducible exact monitor_Good.mono _ _ _ _ _ _ _)
      | (with_reducible exact monitor_Run.mono _ _ _ _ _ _)
      | (with_reducible exact monitor_Step.mono _ _ _ _ _ _ _ _)
      | (with_reducible exact monitor_Valid.mono _ _ _ _ _ _ _)
      | (with_reducible exact LeO.refl _)
      | (with_reducible exact LeO.none _)
      | (with_reducible refine LeO.ite ?_ ?_)
      | (with_reducible refine LeO.bind ?_ (fun _ => ?_))
      | exact ih0 _ _ _ _ _ _ _ _ _ _ _
      | exact ih1 _ _ _ _ _ _ _ _ _ _ _ _ _ _ _ _ _ _ _
      | exact ih2 _ _ _ _ _ _ _ _ _ _ _ _ _ _ _ _ _ _ _ _ _ _
      | exact ih3 _ _ _ _ _ _ _ _ _ _ _ _ _ _ _ _ _ _ _ _ _ _ _ _ _ _ _
      | exact ih4 _ _ _ _ _ _ _ _ _ _ _ _ _ _ _ _ _ _ _ _ _ _ _ _ _ _ _
      | exact ih5 _ _ _ _ _ _ _ _ _ _ _ _ _ _ _ _ _ _ _ _ _ _ _ _ _ _ _ _ _
      | exact ih6 _ _ _ _ _ _ _ _ _ _ _ _ _ _ _ _ _ _ _ _ _ _ _ _ _ _ _ _ _ _ _ _ _ _ _
      | exact ih7 _ _ _ _ _ _ _ _ _ _ _ _ _ _ _ _ _ _ _ _ _ _ _ _ _ _ _ _ _ _ _
      | exact awardingbodylaw27_same.mono _ _ _ _ _
      | exact awardingbodylaw27_sane.mono _
      | exact awardingbodymark_Dice_Bool.mono _ _ _ _
      | exact awardingbodymark_Dice_Monitor.mono _ _ _
      | exact awardingbodymark_Dice_Next.mono _ _ _ _
      | exact awardingbodymark_Dice_Pick.mono _ _ _ _
      | exact awardingbodyref27_Good.mono _ _ _ _ _ _ _
      | exact awardingbodyref27_Run.mono _ _ _ _ _ _
      | exact awardingbodyref27_Step.mono _ _ _ _ _ _ _ _
      | exact awardingbodyref27_Valid.mono _ _ _ _ _ _ _
      | exact monitor_Good.mono _ _ _ _ _ _ _
      | exact monitor_Run.mono _ _ _ _ _ _
      | exact monitor_Step.mono _ _ _ _ _ _ _ _
      | exact monitor_Valid.mono _ _ _ _ _ _ _
      | exact LeO.none _
      | refine LeO.ite ?_ ?_
      | refine LeO.bind ?_ (fun _ => ?_)
    · intro y0 y1 y2 y3 y4 y5 y6 y7 y8 y9 y10 y11 y12 y13 y14 y15 y16 y17 y18 y19 y20 y21 y22 y23 y24 y25 y26
      unfold awardingbodylaw27_MonitorExact.j3
      repeat' first
      | (with_reducible exact ih0 _ _ _ _ _ _ _ _ _ _ _)
      | (with_reducible exact ih1 _ _ _ _ _ _ _ _ _ _ _ _ _ _ _ _ _ _ _)
      | (with_reducible exact ih2 _ _ _ _ _ _ _ _ _ _ _ _ _ _ _ _ _ _ _ _ _ _)
      | (with_reducible exact ih3 _ _ _ _ _ _ _ _ _ _ _ _ _ _ _ _ _ _ _ _ _ _ _ _ _ _ _)
      | (with_reducible exact ih4 _ _ _ _ _ _ _ _ _ _ _ _ _ _ _ _ _ _ _ _ _ _ _ _ _ _ _)
      | (with_reducible exact ih5 _ _ _ _ _ _ _ _ _ _ _ _ _ _ _ _ _ _ _ _ _ _ _ _ _ _ _ _ _)
      | (with_reducible exact ih6 _ _ _ _ _ _ _ _ _ _ _ _ _ _ _ _ _ _ _ _ _ _ _ _ _ _ _ _ _ _ _ _ _ _ _)
      | (with_reducible exact ih7 _ _ _ _ _ _ _ _ _ _ _ _ _ _ _ _ _ _ _ _ _ _ _ _ _ _ _ _ _ _ _)
      | (with_reducible exact awardingbodylaw27_same.mono _ _ _ _ _)
      | (with_reducible exact awardingbodylaw27_sane.mono _)
      | (with_reducible exact awardingbodymark_Dice_Bool.mono _ _ _ _)
      | (with_reducible exact awardingbodymark_Dice_Monitor.mono _ _ _)
      | (with_reducible exact awardingbodymark_Dice_Next.mono _ _ _ _)
      | (with_reducible exact awardingbodymark_Dice_Pick.mono _ _ _ _)
      | (with_reducible exact awardingbodyref27_Good.mono _ _ _ _ _ _ _)
      | (with_reducible exact awardingbodyref27_Run.mono _ _ _ _ _ _)
      | (with_reducible exact awardingbodyref27_Step.mono _ _ _ _ _ _ _ _)
      | (with_reducible exact awardingbodyref27_Valid.mono _ _ _ _ _ _ _)
      | (with_reducible exact monitor_Good.mono _ _ _ _ _ _ _)
      | (with_reducible exact monitor_Run.mono _ _ _ _ _ _)
      | (with_reducible exact monitor_Step.mono _ _ _ _ _ _ _ _)
      | (with_reducible exact monitor_Valid.mono _ _ _ _ _ _ _)
      | (with_reducible exact LeO.refl _)
      | (with_reducible exact LeO.none _)
      | (with_reducible refine LeO.ite ?_ ?_)
      | (with_reducible refine LeO.bind ?_ (fun _ => ?_))
      | exact ih0 _ _ _ _ _ _ _ _ _ _ _
      | exact ih1 _ _ _ _ _ _ _ _ _ _ _ _ _ _ _ _ _ _ _
      | exact ih2 _ _ _ _ _ _ _ _ _ _ _ _ _ _ _ _ _ _ _ _ _ _
      | exact ih3 _ _ _ _ _ _ _ _ _ _ _ _ _ _ _ _ _ _ _ _ _ _ _ _ _ _ _
      | exact ih4 _ _ _ _ _ _ _ _ _ _ _ _ _ _ _ _ _ _ _ _ _ _ _ _ _ _ _
      | exact ih5 _ _ _ _ _ _ _ _ _ _ _ _ _ _ _ _ _ _ _ _ _ _ _ _ _ _ _ _ _
      | exact ih6 _ _ _ _ _ _ _ _ _ _ _ _ _ _ _ _ _ _ _ _ _ _ _ _ _ _ _ _ _ _ _ _ _ _ _
      | exact ih7 _ _ _ _ _ _ _ _ _ _ _ _ _ _ _ _ _ _ _ _ _ _ _ _ _ _ _ _ _ _ _
      | exact awardingbodylaw27_same.mono _ _ _ _ _
      | exact awardingbodylaw27_sane.mono _
      | exact awardingbodymark_Dice_Bool.mono _ _ _ _
      | exact awardingbodymark_Dice_Monitor.mono _ _ _
      | exact awardingbodymark_Dice_Next.mono _ _ _ _
      | exact awardingbodymark_Dice_Pick.mono _ _ _ _
      | exact awardingbodyref27_Good.mono _ _ _ _ _ _ _
      | exact awardingbodyref27_Run.mono _ _ _ _ _ _
      | exact awardingbodyref27_Step.mono _ _ _ _ _ _ _ _
      | exact awardingbodyref27_Valid.mono _ _ _ _ _ _ _
      | exact monitor_Good.mono _ _ _ _ _ _ _
      | exact monitor_Run.mono _ _ _ _ _ _
      | exact monitor_Step.mono _ _ _ _ _ _ _ _
      | exact monitor_Valid.mono _ _ _ _ _ _ _
      | exact LeO.none _
      | refine LeO.ite ?_ ?_
      | refine LeO.bind ?_ (fun _ => ?_)
    · intro y0 y1 y2 y3 y4 y5 y6 y7 y8 y9 y10 y11 y12 y13 y14 y15 y16 y17 y18 y19 y20 y21 y22 y23 y24 y25 y26
      unfold awardingbodylaw27_MonitorExact.j4
      repeat' first
      | (with_reducible exact ih0 _ _ _ _ _ _ _ _ _ _ _)
      | (with_reducible exact ih1 _ _ _ _ _ _ _ _ _ _ _ _ _ _ _ _ _ _ _)
      | (with_reducible exact ih2 _ _ _ _ _ _ _ _ _ _ _ _ _ _ _ _ _ _ _ _ _ _)
      | (with_reducible exact ih3 _ _ _ _ _ _ _ _ _ _ _ _ _ _ _ _ _ _ _ _ _ _ _ _ _ _ _)
      | (with_reducible exact ih4 _ _ _ _ _ _ _ _ _ _ _ _ _ _ _ _ _ _ _ _ _ _ _ _ _ _ _)
      | (with_reducible exact ih5 _ _ _ _ _ _ _ _ _ _ _ _ _ _ _ _ _ _ _ _ _ _ _ _ _ _ _ _ _)
      | (with_reducible exact ih6 _ _ _ _ _ _ _ _ _ _ _ _ _ _ _ _ _ _ _ _ _ _ _ _ _ _ _ _ _ _ _ _ _ _ _)
      | (with_reducible exact ih7 _ _ _ _ _ _ _ _ _ _ _ _ _ _ _ _ _ _ _ _ _ _ _ _ _ _ _ _ _ _ _)
      | (with_reducible exact awardingbodylaw27_same.mono _ _ _ _ _)
      | (with_reducible exact awardingbodylaw27_sane.mono _)
      | (with_reducible exact awardingbodymark_Dice_Bool.mono _ _ _ _)
      | (with_reducible exact awardingbodymark_Dice_Monitor.mono _ _ _)
      | (with_reducible exact awardingbodymark_Dice_Next.mono _ _ _ _)
      | (with_reducible exact awardingbodymark_Dice_Pick.mono _ _ _ _)
      | (with_reducible exact awardingbodyref27_Good.mono _ _ _ _ _ _ _)
      | (with_reducible exact awardingbodyref27_Run.mono _ _ _ _ _ _)
      | (with_reducible exact awardingbodyref27_Step.mono _ _ _ _ _ _ _ _)
      | (with_reducible exact awardingbodyref27_Valid.mono _ _ _ _ _ _ _)
      | (with_reducible exact monitor_Good.mono _ _ _ _ _ _ _)
      | (with_reducible exact monitor_Run.mono _ _ _ _ _ _)
      | (with_reducible exact monitor_Step.mono _ _ _ _ _ _ _ _)
      | (with_reducible exact monitor_Valid.mono _ _ _ _ _ _ _)
      | (with_reducible exact LeO.refl _)
      | (with_reducible exact LeO.none _)
      | (with_reducible refine LeO.ite ?_ ?_)
      | (with_reducible refine LeO.bind ?_ (fun _ => ?_))
      | exact ih0 _ _ _ _ _ _ _ _ _ _ _
      | exact ih1 _ _ _ _ _ _ _ _ _ _ _ _ _ _ _ _ _ _ _
      | exact ih2 _ _ _ _ _ _ _ _ _ _ _ _ _ _ _ _ _ _ _ _ _ _
      | exact ih3 _ _ _ _ _ _ _ _ _ _ _ _ _ _ _ _ _ _ _ _ _ _ _ _ _ _ _
      | exact ih4 _ _ _ _ _ _ _ _ _ _ _ _ _ _ _ _ _ _ _ _ _ _ _ _ _ _ _
      | exact ih5 _ _ _ _ _ _ _ _ _ _ _ _ _ _ _ _ _ _ _ _ _ _ _ _ _ _ _ _ _
      | exact ih6 _ _ _ _ _ _ _ _ _ _ _ _ _ _ _ _ _ _ _ _ _ _ _ _ _ _ _ _ _ _ _ _ _ _ _
      | exact ih7 _ _ _ _ _ _ _ _ _ _ _ _ _ _ _ _ _ _ _ _ _ _ _ _ _ _ _ _ _ _ _
      | exact awardingbodylaw27_same.mono _ _ _ _ _
      | exact awardingbodylaw27_sane.mono _
      | exact awardingbodymark_Dice_Bool.mono _ _ _ _
      | exact awardingbodymark_Dice_Monitor.mono _ _ _
      | exact awardingbodymark_Dice_Next.mono _ _ _ _
      | exact awardingbodymark_Dice_Pick.mono _ _ _ _
      | exact awardingbodyref27_Good.mono _ _ _ _ _ _ _
      | exact awardingbodyref27_Run.mono _ _ _ _ _ _
      | exact awardingbodyref27_Step.mono _ _ _ _ _ _ _ _
      | exact awardingbodyref27_Valid.mono _ _ _ _ _ _ _
      | exact monitor_Good.mono _ _ _ _ _ _ _
      | exact monitor_Run.mono _ _ _ _ _ _
      | exact monitor_Step.mono _ _ _ _ _ _ _ _
      | exact monitor_Valid.mono _ _ _ _ _ _ _
      | exact LeO.none _
      | refine LeO.ite ?_ ?_
      | refine LeO.bind ?_ (fun _ => ?_)
    · intro y0 y1 y2 y3 y4 y5 y6 y7 y8 y9 y10 y11 y12 y13 y14 y15 y16 y17 y18 y19 y20 y21 y22 y23 y24 y25 y26 y27 y28
      unfold awardingbodylaw27_MonitorExact.l1
      repeat' first
      | (with_reducible exact ih0 _ _ _ _ _ _ _ _ _ _ _)
      | (with_reducible exact ih1 _ _ _ _ _ _ _ _ _ _ _ _ _ _ _ _ _ _ _)
      | (with_reducible exact ih2 _ _ _ _ _ _ _ _ _ _ _ _ _ _ _ _ _ _ _ _ _ _)
      | (with_reducible exact ih3 _ _ _ _ _ _ _ _ _ _ _ _ _ _ _ _ _ _ _ _ _ _ _ _ _ _ _)
      | (with_reducible exact ih4 _ _ _ _ _ _ _ _ _ _ _ _ _ _ _ _ _ _ _ _ _ _ _ _ _ _ _)
      | (with_reducible exact ih5 _ _ _ _ _ _ _ _ _ _ _ _ _ _ _ _ _ _ _ _ _ _ _ _ _ _ _ _ _)
      | (with_reducible exact ih6 _ _ _ _ _ _ _ _ _ _ _ _ _ _ _ _ _ _ _ _ _ _ _ _ _ _ _ _ _ _ _ _ _ _ _)
      | (with_reducible exact ih7 _ _ _ _ _ _ _ _ _ _ _ _ _ _ _ _ _ _ _ _ _ _ _ _ _ _ _ _ _ _ _)
      | (with_reducible exact awardingbodylaw27_same.mono _ _ _ _ _)
      | (with_reducible exact awardingbodylaw27_sane.mono _)
      | (with_reducible exact awardingbodymark_Dice_Bool.mono _ _ _ _)
      | (with_reducible exact awardingbodymark_Dice_Monitor.mono _ _ _)
      | (with_reducible exact awardingbodymark_Dice_Next.mono _ _ _ _)
      | (with_reducible exact awardingbodymark_Dice_Pick.mono _ _ _ _)
      | (with_reducible exact awardingbodyref27_Good.mono _ _ _ _ _ _ _)
      | (with_reducible exact awardingbodyref27_Run.mono _ _ _ _ _ _)
      | (with_reducible exact awardingbodyref27_Step.mono _ _ _ _ _ _ _ _)
      | (with_reducible exact awardingbodyref27_Valid.mono _ _ _ _ _ _ _)
      | (with_reducible exact monitor_Good.mono _ _ _ _ _ _ _)
      | (with_reducible exact monitor_Run.mono _ _ _ _ _ _)
      | (with_reducible exact monitor_Step.mono _ _ _ _ _ _ _ _)
      | (with_reducible exact monitor_Valid.mono _ _ _ _ _ _ _)
      | (with_reducible exact LeO.refl _)
      | (with_reducible exact LeO.none _)
      | (with_reducible refine LeO.ite ?_ ?_)
      | (with_reducible refine LeO.bind ?_ (fun _ => ?_))
      | exact ih0 _ _ _ _ _ _ _ _ _ _ _
      | exact ih1 _ _ _ _ _ _ _ _ _ _ _ _ _ _ _ _ _ _ _
      | exact ih2 _ _ _ _ _ _ _ _ _ _ _ _ _ _ _ _ _ _ _ _ _ _
      | exact ih3 _ _ _ _ _ _ _ _ _ _ _ _ _ _ _ _ _ _ _ _ _ _ _ _ _ _ _
      | exact ih4 _ _ _ _ _ _ _ _ _ _ _ _ _ _ _ _ _ _ _ _ _ _ _ _ _ _ _
      | exact ih5 _ _ _ _ _ _ _ _ _ _ _ _ _ _ _ _ _ _ _ _ _ _ _ _ _ _ _ _ _
      | exact ih6 _ _ _ _ _ _ _ _ _ _ _ _ _ _ _ _ _ _ _ _ _ _ _ _ _ _ _ _ _ _ _ _ _ _ _
      | exact ih7 _ _ _ _ _ _ _ _ _ _ _ _ _ _ _ _ _ _ _ _ _ _ _ _ _ _ _ _ _ _ _
      | exact awardingbodylaw27_same.mono _ _ _ _ _
      | exact awardingbodylaw27_sane.mono _
      | exact awardingbodymark_Dice_Bool.mono _ _ _ _
      | exact awardingbodymark_Dice_Monitor.mono _ _ _
      | exact awardingbodymark_Dice_Next.mono _ _ _ _
      | exact awardingbodymark_Dice_Pick.mono _ _ _ _
      | exact awardingbodyref27_Good.mono _ _ _ _ _ _ _
      | exact awardingbodyref27_Run.mono _ _ _ _ _ _
      | exact awardingbodyref27_Step.mono _ _ _ _ _ _ _ _
      | exact awardingbodyref27_Valid.mono _ _ _ _ _ _ _
      | exact monitor_Good.mono _ _ _ _ _ _ _
      | exact monitor_Run.mono _ _ _ _ _ _
      | exact monitor_Step.mono _ _ _ _ _ _ _ _
      | exact monitor_Valid.mono _ _ _ _ _ _ _
      | exact LeO.none _
      | refine LeO.ite ?_ ?_
      | refine LeO.bind ?_ (fun _ => ?_)
    · intro y0 y1 y2 y3 y4 y5 y6 y7 y8 y9 y10 y11 y12 y13 y14 y15 y16 y17 y18 y19 y20 y21 y22 y23 y24 y25 y26 y27 y28 y29 y30 y31 y32 y33 y34
      unfold awardingbodylaw27_MonitorExact.j6
      repeat' first
      | (with_reducible exact ih0 _ _ _ _ _ _ _ _ _ _ _)
      | (with_reducible exact ih1 _ _ _ _ _ _ _ _ _ _ _ _ _ _ _ _ _ _ _)
      | (with_reducible exact ih2 _ _ _ _ _ _ _ _ _ _ _ _ _ _ _ _ _ _ _ _ _ _)
      | (with_reducible exact ih3 _ _ _ _ _ _ _ _ _ _ _ _ _ _ _ _ _ _ _ _ _ _ _ _ _ _ _)
      | (with_reducible exact ih4 _ _ _ _ _ _ _ _ _ _ _ _ _ _ _ _ _ _ _ _ _ _ _ _ _ _ _)
      | (with_reducible exact ih5 _ _ _ _ _ _ _ _ _ _ _ _ _ _ _ _ _ _ _ _ _ _ _ _ _ _ _ _ _)
      | (with_reducible exact ih6 _ _ _ _ _ _ _ _ _ _ _ _ _ _ _ _ _ _ _ _ _ _ _ _ _ _ _ _ _ _ _ _ _ _ _)
      | (with_reducible exact ih7 _ _ _ _ _ _ _ _ _ _ _ _ _ _ _ _ _ _ _ _ _ _ _ _ _ _ _ _ _ _ _)
      | (with_reducible exact awardingbodylaw27_same.mono _ _ _ _ _)
      | (with_reducible exact awardingbodylaw27_sane.mono _)
      | (with_reducible exact awardingbodymark_Dice_Bool.mono _ _ _ _)
      | (with_reducible exact awardingbodymark_Dice_Monitor.mono _ _ _)
      | (with_reducible exact awardingbodymark_Dice_Next.mono _ _ _ _)
      | (with_reducible exact awardingbodymark_Dice_Pick.mono _ _ _ _)
      | (with_reducible exact awardingbodyref27_Good.mono _ _ _ _ _ _ _)
      | (with_reducible exact awardingbodyref27_Run.mono _ _ _ _ _ _)
      | (with_reducible exact awardingbodyref27_Step.mono _ _ _ _ _ _ _ _)
      | (with_reducible exact awardingbodyref27_Valid.mono _ _ _ _ _ _ _)
      | (with_reducible exact monitor_Good.mono _ _ _ _ _ _ _)
      | (with_reducible exact monitor_Run.mono _ _ _ _ _ _)
      | (with_reducible exact monitor_Step.mono _ _ _ _ _ _ _ _)
      | (with_reducible exact monitor_Valid.mono _ _ _ _ _ _ _)
      | (with_reducible exact LeO.refl _)
      | (with_reducible exact LeO.none _)
      | (with_reducible refine LeO.ite ?_ ?_)
      | (with_reducible refine LeO.bind ?_ (fun _ => ?_))
      | exact ih0 _ _ _ _ _ _ _ _ _ _ _
      | exact ih1 _ _ _ _ _ _ _ _ _ _ _ _ _ _ _ _ _ _ _
      | exact ih2 _ _ _ _ _ _ _ _ _ _ _ _ _ _ _ _ _ _ _ _ _ _
      | exact ih3 _ _ _ _ _ _ _ _ _ _ _ _ _ _ _ _ _ _ _ _ _ _ _ _ _ _ _
      | exact ih4 _ _ _ _ _ _ _ _ _ _ _ _ _ _ _ _ _ _ _ _ _ _ _ _ _ _ _
      | exact ih5 _ _ _ _ _ _ _ _ _ _ _ _ _ _ _ _ _ _ _ _ _ _ _ _ _ _ _ _ _
      | exact ih6 _ _ _ _ _ _ _ _ _ _ _ _ _ _ _ _ _ _ _ _ _ _ _ _ _ _ _ _ _ _ _ _ _ _ _
      | exact ih7 _ _ _ _ _ _ _ _ _ _ _ _ _ _ _ _ _ _ _ _ _ _ _ _ _ _ _ _ _ _ _
      | exact awardingbodylaw27_same.mono _ _ _ _ _
      | exact awardingbodylaw27_sane.mono _
      | exact awardingbodymark_Dice_Bool.mono _ _ _ _
      | exact awardingbodymark_Dice_Monitor.mono _ _ _
      | exact awardingbodymark_Dice_Next.mono _ _ _ _
      | exact awardingbodymark_Dice_Pick.mono _ _ _ _
      | exact awardingbodyref27_Good.mono _ _ _ _ _ _ _
      | exact awardingbodyref27_Run.mono _ _ _ _ _ _
      | exact awardingbodyref27_Step.mono _ _ _ _ _ _ _ _
      | exact awardingbodyref27_Valid.mono _ _ _ _ _ _ _
      | exact monitor_Good.mono _ _ _ _ _ _ _
      | exact monitor_Run.mono _ _ _ _ _ _
      | exact monitor_Step.mono _ _ _ _ _ _ _ _
      | exact monitor_Valid.mono _ _ _ _ _ _ _
      | exact LeO.none _
      | refine LeO.ite ?_ ?_
      | refine LeO.bind ?_ (fun _ => ?_)
    · intro y0 y1 y2 y3 y4 y5 y6 y7 y8 y9 y10 y11 y12 y13 y14 y15 y16 y17 y18 y19 y20 y21 y22 y23 y24 y25 y26 y27 y28 y29 y30
      unfold awardingbodylaw27_MonitorExact.j7
      repeat' first
      | (with_reducible exact ih0 _ _ _ _ _ _ _ _ _ _ _)
      | (with_reducible exact ih1 _ _ _ _ _ _ _ _ _ _ _ _ _ _ _ _ _ _ _)
      | (with_reducible exact ih2 _ _ _ _ _ _ _ _ _ _ _ _ _ _ _ _ _ _ _ _ _ _)
      | (with_reducible exact ih3 _ _ _ _ _ _ _ _ _ _ _ _ _ _ _ _ _ _ _ _ _ _ _ _ _ _ _)
      | (with_reducible exact ih4 _ _ _ _ _ _ _ _ _ _ _ _ _ _ _ _ _ _ _ _ _ _ _ _ _ _ _)
      | (with_reducible exact ih5 _ _ _ _ _ _ _ _ _ _ _ _ _ _ _ _ _ _ _ _ _ _ _ _ _ _ _ _ _)
      | (with_reducible exact ih6 _ _ _ _ _ _ _ _ _ _ _ _ _ _ _ _ _ _ _ _ _ _ _ _ _ _ _ _ _ _ _ _ _ _ _)
      | (with_reducible exact ih7 _ _ _ _ _ _ _ _ _ _ _ _ _ _ _ _ _ _ _ _ _ _ _ _ _ _ _ _ _ _ _)
      | (with_reducible exact awardingbodylaw27_same.mono _ _ _ _ _)
      | (with_reducible exact awardingbodylaw27_sane.mono _)
      | (with_reducible exact awardingbodymark_Dice_Bool.mono _ _ _ _)
      | (with_reducible exact awardingbodymark_Dice_Monitor.mono _ _ _)
      | (with_reducible exact awardingbodymark_Dice_Next.mono _ _ _ _)
      | (with_reducible exact awardingbodymark_Dice_Pick.mono _ _ _ _)
      | (with_reducible exact awardingbodyref27_Good.mono _ _ _ _ _ _ _)
      | (with_reducible exact awardingbodyref27_Run.mono _ _ _ _ _ _)
      | (with_reducible exact awardingbodyref27_Step.mono _ _ _ _ _ _ _ _)
      | (with_reducible exact awardingbodyref27_Valid.mono _ _ _ _ _ _ _)
      | (with_reducible exact monitor_Good.mono _ _ _ _ _ _ _)
      | (with_reducible exact monitor_Run.mono _ _ _ _ _ _)
      | (with_reducible exact monitor_Step.mono _ _ _ _ _ _ _ _)
      | (with_reducible exact monitor_Valid.mono _ _ _ _ _ _ _)
      | (with_reducible exact LeO.refl _)
      | (with_reducible exact LeO.none _)
      | (with_reducible refine LeO.ite ?_ ?_)
      | (with_reducible refine LeO.bind ?_ (fun _ => ?_))
      | exact ih0 _ _ _ _ _ _ _ _ _ _ _
      | exact ih1 _ _ _ _ _ _ _ _ _ _ _ _ _ _ _ _ _ _ _
      | exact ih2 _ _ _ _ _ _ _ _ _ _ _ _ _ _ _ _ _ _ _ _ _ _
      | exact ih3 _ _ _ _ _ _ _ _ _ _ _ _ _ _ _ _ _ _ _ _ _ _ _ _ _ _ _
      | exact ih4 _ _ _ _ _ _ _ _ _ _ _ _ _ _ _ _ _ _ _ _ _ _ _ _ _ _ _
      | exact ih5 _ _ _ _ _ _ _ _ _ _ _ _ _ _ _ _ _ _ _ _ _ _ _ _ _ _ _ _ _
      | exact ih6 _ _ _ _ _ _ _ _ _ _ _ _ _ _ _ _ _ _ _ _ _ _ _ _ _ _ _ _ _ _ _ _ _ _ _
      | exact ih7 _ _ _ _ _ _ _ _ _ _ _ _ _ _ _ _ _ _ _ _ _ _ _ _ _ _ _ _ _ _ _
      | exact awardingbodylaw27_same.mono _ _ _ _ _
      | exact awardingbodylaw27_sane.mono _
      | exact awardingbodymark_Dice_Bool.mono _ _ _ _
      | exact awardingbodymark_Dice_Monitor.mono _ _ _
      | exact awardingbodymark_Dice_Next.mono _ _ _ _
      | exact awardingbodymark_Dice_Pick.mono _ _ _ _
      | exact awardingbodyref27_Good.mono _ _ _ _ _ _ _
      | exact awardingbodyref27_Run.mono _ _ _ _ _ _
      | exact awardingbodyref27_Step.mono _ _ _ _ _ _ _ _
      | exact awardingbodyref27_Valid.mono _ _ _ _ _ _ _
      | exact monitor_Good.mono _ _ _ _ _ _ _
      | exact monitor_Run.mono _ _ _ _ _ _
      | exact monitor_Step.mono _ _ _ _ _ _ _ _
      | exact monitor_Valid.mono _ _ _ _ _ _ _
      | exact LeO.none _
      | refine LeO.ite ?_ ?_
      | refine LeO.bind ?_ (fun _ => ?_)
theorem awardingbodylaw27_MonitorExact.mono : ∀ a0 a1 a2 a3 a4 a5 a6 a7 a8 a9 k, LeO (awardingbodylaw27_MonitorExact.f k a0 a1 a2 a3 a4 a5 a6 a7 a8 a9) (awardingbodylaw27_MonitorExact.f (k + 1) a0 a1 a2 a3 a4 a5 a6 a7 a8 a9) := by
  intro a0 a1 a2 a3 a4 a5 a6 a7 a8 a9 k
  obtain ⟨ih0, ih1, ih2, ih3, ih4, ih5, ih6, ih7⟩ := awardingbodylaw27_MonitorExact.mono_l k
  unfold awardingbodylaw27_MonitorExact.f
  repeat' first
      | (with_reducible exact ih0 _ _ _ _ _ _ _ _ _ _ _)
      | (with_reducible exact ih1 _ _ _ _ _ _ _ _ _ _ _ _ _ _ _ _ _ _ _)
      | (with_reducible exact ih2 _ _ _ _ _ _ _ _ _ _ _ _ _ _ _ _ _ _ _ _ _ _)
      | (with_reducible exact ih3 _ _ _ _ _ _ _ _ _ _ _ _ _ _ _ _ _ _ _ _ _ _ _ _ _ _ _)
      | (with_reducible exact ih4 _ _ _ _ _ _ _ _ _ _ _ _ _ _ _ _ _ _ _ _ _ _ _ _ _ _ _)
      | (with_reducible exact ih5 _ _ _ _ _ _ _ _ _ _ _ _ _ _ _ _ _ _ _ _ _ _ _ _ _ _ _ _ _)
      | (with_reducible exact ih6 _ _ _ _ _ _ _ _ _ _ _ _ _ _ _ _ _ _ _ _ _ _ _ _ _ _ _ _ _ _ _ _ _ _ _)
      | (with_reducible exact ih7 _ _ _ _ _ _ _ _ _ _ _ _ _ _ _ _ _ _ _ _ _ _ _ _ _ _ _ _ _ _ _)
      | (with_reducible exact awardingbodylaw27_same.mono _ _ _ _ _)
      | (with_reducible exact awardingbodylaw27_sane.mono _)
      | (with_reducible exact awardingbodymark_Dice_Bool.mono _ _ _ _)
      | (with_reducible exact awardingbodymark_Dice_Monitor.mono _ _ _)
      | (with_reducible exact awardingbodymark_Dice_Next.mono _ _ _ _)
      | (with_reducible exact awardingbodymark_Dice_Pick.mono _ _ _ _)
      | (with_reducible exact awardingbodyref27_Good.mono _ _ _ _ _ _ _)
      | (with_reducible exact awardingbodyref27_Run.mono _ _ _ _ _ _)
      | (with_reducible exact awardingbodyref27_Step.mono _ _ _ _ _ _ _ _)
      | (with_reducible exact awardingbodyref27_Valid.mono _ _ _ _ _ _ _)
      | (with_reducible exact monitor_Good.mono _ _ _ _ _ _ _)
      | (with_reducible exact monitor_Run.mono _ _ _ _ _ _)
      | (with_reducible exact monitor_Step.mono _ _ _ _ _ _ _ _)
      | (with_reducible exact monitor_Valid.mono _ _ _ _ _ _ _)
      | (with_reducible exact LeO.refl _)
      | (with_reducible exact LeO.none _)
      | (with_reducible refine LeO.ite ?_ ?_)
      | (with_reducible refine LeO.bind ?_ (fun _ => ?_))
      | exact ih0 _ _ _ _ _ _ _ _ _ _ _
      | exact ih1 _ _ _ _ _ _ _ _ _ _ _ _ _ _ _ _ _ _ _
      | exact ih2 _ _ _ _ _ _ _ _ _ _ _ _ _ _ _ _ _ _ _ _ _ _
      | exact ih3 _ _ _ _ _ _ _ _ _ _ _ _ _ _ _ _ _ _ _ _ _ _ _ _ _ _ _
      | exact ih4 _ _ _ _ _ _ _ _ _ _ _ _ _ _ _ _ _ _ _ _ _ _ _ _ _ _ _
      | exact ih5 _ _ _ _ _ _ _ _ _ _ _ _ _ _ _ _ _ _ _ _ _ _ _ _ _ _ _ _ _
      | exact ih6 _ _ _ _ _ _ _ _ _ _ _ _ _ _ _ _ _ _ _ _ _ _ _ _ _ _ _ _ _ _ _ _ _ _ _
      | exact ih7 _ _ _ _ _ _ _ _ _ _ _ _ _ _ _ _ _ _ _ _ _ _ _ _ _ _ _ _ _ _ _
      | exact awardingbodylaw27_same.mono _ _ _ _ _
      | exact awardingbodylaw27_sane.mono _
      | exact awardingbodymark_Dice_Bool.mono _ _ _ _
      | exact awardingbodymark_Dice_Monitor.mono _ _ _
      | exact awardingbodymark_Dice_Next.mono _ _ _ _
      | exact awardingbodymark_Dice_Pick.mono _ _ _ _
      | exact awardingbodyref27_Good.mono _ _ _ _ _ _ _
      | exact awardingbodyref27_Run.mono _ _ _ _ _ _
      | exact awardingbodyref27_Step.mono _ _ _ _ _ _ _ _
      | exact awardingbodyref27_Valid.mono _ _ _ _ _ _ _
      | exact monitor_Good.mono _ _ _ _ _ _ _
      | exact monitor_Run.mono _ _ _ _ _ _
      | exact monitor_Step.mono _ _ _ _ _ _ _ _
      | exact monitor_Valid.mono _ _ _ _ _ _ _
      | exact LeO.none _
      | refine LeO.ite ?_ ?_
      | refine LeO.bind ?_ (fun _ => ?_)
def awardingbodylaw27_MonitorExact.T18 : Bool × List (List Nat × List Nat) := (true, [([], []), ([0], [0]), ([], []), ([2, 1], [2]), ([1, 3], [1, 3]), ([4, 3], [4]), ([5], [5]), ([5], [5]), ([5], [5]), ([6, 7, 8, 5, 5], [5, 6, 7, 8]), ([5], [5]), ([5], [5]), ([5], [5]), ([10, 11, 12, 9, 5], [5, 10, 11, 12]), ([9, 13, 5], [5, 9, 13]), ([5, 14], [5, 14]), ([15, 13], [15]), ([16], [16]), ([16], [16]), ([16], [16]), ([17, 18, 19, 16, 16], [16, 17, 18, 19]), ([16], [16]), ([16], [16]), ([16], [16]), ([21, 22, 23, 20, 16], [16, 21, 22, 23]), ([20, 24, 16], [16, 20, 24]), ([16, 25], [16, 25]), ([26, 24], [26]), ([27], [27]), ([27], [27]), ([27], [27]), ([28, 29, 30, 27, 27], [27, 28, 29, 30]), ([27], [27]), ([27], [27]), ([27], [27]), ([32, 33, 34, 31, 27], [27, 32, 33, 34]), ([31, 35, 27], [27, 31, 35]), ([27, 36], [27, 36]), ([37, 35], [37]), ([38], [38]), ([38], [38]), ([39, 40, 38, 38], [38, 39, 40]), ([38], [38]), ([38], [38]), ([42, 43, 41, 38], [38, 42, 43]), ([41, 44, 38], [38, 41, 44]), ([38, 45], [38, 45])])
def awardingbodylaw27_MonitorExact.B18 : List Nat := [0, 1, 0, 7, 15, 31, 63, 63, 63, 511, 63, 63, 63, 8191, 16383, 32767, 65535, 131071, 131071, 131071, 1048575, 131071, 131071, 131071, 16777215, 33554431, 67108863, 134217727, 268435455, 268435455, 268435455, 2147483647, 268435455, 268435455, 268435455, 34359738367, 68719476735, 137438953471, 274877906943, 549755813887, 549755813887, 2199023255551, 549755813887, 549755813887, 17592186044415, 35184372088831, 70368744177663]
theorem awardingbodylaw27_MonitorExact.tab18 : rtab .any (opsOf Try.f3 18) = awardingbodylaw27_MonitorExact.T18 := by kernel_rfl
theorem awardingbodylaw27_MonitorExact.bits18 : waitsOk awardingbodylaw27_MonitorExact.T18.2 awardingbodylaw27_MonitorExact.B18 = true := by kernel_rfl

end Go.Proofs.Ytdcfjmkeakkfjaa.Print
