/- Printed by a program of this workplace (a turned copy of the kit's optional print), out of the translation; not trusted: Lean checks it. -/
import Derived.Test.YtbhfkhcedjgpdaaPx0
import Derived.Test.YtbhfkhcedjgpdaaPx2
import Derived.Test.YtbhfkhcedjgpdaaPx3
import Derived.Test.YtbhfkhcedjgpdaaPx4
import Derived.Test.YtbhfkhcedjgpdaaPx5
import Derived.Test.YtbhfkhcedjgpdaaPx6
import Derived.Test.YtbhfkhcedjgpdaaPx7
import Derived.Test.YtbhfkhcedjgpdaaPx13
import Derived.Test.YtbhfkhcedjgpdaaPx14
import Derived.Test.YtbhfkhcedjgpdaaPx15
import Derived.Test.YtbhfkhcedjgpdaaPx16
namespace Go.Proofs.Ytbhfkhcedjgpdaa.P
open Go.RowKit Go.Proofs.YtbhfkhcedjgpdaaW.PrintWords Go.Proofs.YtbhfkhcedjgpdaaW.PrintLast Go.Proofs.YtbhfkhcedjgpdaaW.PrintMore
attribute [local go_sem] max2_int min2_int max_two min_two max_three min_three max_four min_four   -- for this text's walks alone
set_option linter.unusedVariables false
set_option linter.unusedSimpArgs false

/-! ### tontinelaw16_RoutePlays: function 3 -/
mutual
def tontinelaw16_RoutePlays.j0 : Nat → List Int → List Int → List Bool → Bool → Int → Int → List (List Int) → List (S44) → Option (Bool)
  | 0, _, _, _, _, _, _, _, _ => none
  | k + 1, x1, x2, x3, x36, x350000, x350001, x350002, x350003 => if x36 = true then (some true) else ((route_New.f x350000 x350001 x350002 x350003).bind fun bt354 => ((tontineref15_NewRoutes.f x350000 x350001 x350002 x350003).bind fun bt360 => (tontinelaw16_RoutePlays.l0 k x1 x2 x3 0 x350000 x350001 x350002 x350003 bt354.1 bt354.2.1 x350002 x350003 bt354.2.2 bt360.1 bt360.2.1 x350002 x350003 bt360.2.2)))
def tontinelaw16_RoutePlays.l0 : Nat → List Int → List Int → List Bool → Int → Int → Int → List (List Int) → List (S44) → Int → Int → List (List Int) → List (S44) → List Int → Int → Int → List (List Int) → List (S44) → List Int → Option (Bool)
  | 0, _, _, _, _, _, _, _, _, _, _, _, _, _, _, _, _, _, _ => none
  | k + 1, x1, x2, x3, x11, x350000, x350001, x350002, x350003, x354000, x354001, x354002, x354003, x354004, x360000, x360001, x360002, x360003, x360004 => if x11 < (x1.length : Int) then (if 0 ≤ x11 then ((route_Routes_Now.f x354000 x354001 x354002 x354003 x354004 (rd x1 x11)).bind fun bt366 => ((tontineref15_Routes_Now.f k x360000 x360001 x360002 x360003 x360004 (rd x1 x11)).bind fun bt373 => ((tontineref1_SameInts.f k bt366.1 bt373.1).bind fun t379 => (if t379 = true then ((route_Routes_Offer.f x354000 x354001 x354002 x354003 bt366.2 (rd x1 x11)).bind fun bt381 => ((tontineref15_Routes_Offer.f k x360000 x360001 x360002 x360003 bt373.2 (rd x1 x11)).bind fun bt388 => ((tontineref1_SameInts.f k bt381.1 bt388.1).bind fun t394 => (tontinelaw16_RoutePlays.j2 k x1 x2 x3 x11 (!t394) x350000 x350001 x350002 x350003 x354000 x354001 x354002 x354003 bt381.2 x360000 x360001 x360002 x360003 bt388.2)))) else (tontinelaw16_RoutePlays.j2 k x1 x2 x3 x11 true x350000 x350001 x350002 x350003 x354000 x354001 x354002 x354003 bt366.2 x360000 x360001 x360002 x360003 bt373.2))))) else (none)) else ((route_First.f k x2 x3).bind fun t403 => ((tontineref15_First.f k x2 x3).bind fun t404 => (some (t403 == t404))))
def tontinelaw16_RoutePlays.j2 : Nat → List Int → List Int → List Bool → Int → Bool → Int → Int → List (List Int) → List (S44) → Int → Int → List (List Int) → List (S44) → List Int → Int → Int → List (List Int) → List (S44) → List Int → Option (Bool)
  | 0, _, _, _, _, _, _, _, _, _, _, _, _, _, _, _, _, _, _, _ => none
  | k + 1, x1, x2, x3, x11, x76, x350000, x350001, x350002, x350003, x354000, x354001, x354002, x354003, x354004, x360000, x360001, x360002, x360003, x360004 => if x76 = true then (some false) else (tontinelaw16_RoutePlays.l1 k x1 x2 x3 x11 (-1) x350000 x350001 x350002 x350003 x354000 x354001 x354002 x354003 x354004 x360000 x360001 x360002 x360003 x360004)
def tontinelaw16_RoutePlays.l1 : Nat → List Int → List Int → List Bool → Int → Int → Int → Int → List (List Int) → List (S44) → Int → Int → List (List Int) → List (S44) → List Int → Int → Int → List (List Int) → List (S44) → List Int → Option (Bool)
  | 0, _, _, _, _, _, _, _, _, _, _, _, _, _, _, _, _, _, _, _ => none
  | k + 1, x1, x2, x3, x11, x12, x350000, x350001, x350002, x350003, x354000, x354001, x354002, x354003, x354004, x360000, x360001, x360002, x360003, x360004 => if x12 ≤ (x350003.length : Int) then ((route_Routes_Turn.f x354000 x354001 x354002 x354003 x354004 x12).bind fun bt395 => ((tontineref15_Routes_Turn.f x360000 x360001 x360002 x360003 x360004 x12).bind fun bt399 => (if bt395.1 = bt399.1 then (tontinelaw16_RoutePlays.l1 k x1 x2 x3 x11 (wrap64 (x12 + 1)) x350000 x350001 x350002 x350003 x354000 x354001 x354002 x354003 bt395.2 x360000 x360001 x360002 x360003 bt399.2) else (some false)))) else (tontinelaw16_RoutePlays.l0 k x1 x2 x3 (wrap64 (x11 + 1)) x350000 x350001 x350002 x350003 x354000 x354001 x354002 x354003 x354004 x360000 x360001 x360002 x360003 x360004)
end
def tontinelaw16_RoutePlays.f (k : Nat) (a0_0 : Int) (a0_1 : Int) (l0_2 : List (List Int)) (l0_3 : List (S44)) (l1 : List Int) (l2 : List Int) (l3 : List Bool) : Option (Bool) := (tontinelaw16_known.f k).bind fun t350 => (if t350 = true then ((tontinehelp_WideConf.f k a0_0 a0_1 l0_2 l0_3).bind fun t351 => (if t351 = true then (tontinelaw16_RoutePlays.j0 k l1 l2 l3 true a0_0 a0_1 l0_2 l0_3) else ((tontineref1_IsConf.f k a0_0 a0_1 l0_2 l0_3).bind fun t352 => (if t352 = 0 then (if (l1.length : Int) > 60 then (tontinelaw16_RoutePlays.j0 k l1 l2 l3 true a0_0 a0_1 l0_2 l0_3) else (if (l2.length : Int) > 20 then (tontinelaw16_RoutePlays.j0 k l1 l2 l3 true a0_0 a0_1 l0_2 l0_3) else (tontinelaw16_RoutePlays.j0 k l1 l2 l3 (decide ((l3.length : Int) > 20)) a0_0 a0_1 l0_2 l0_3))) else (tontinelaw16_RoutePlays.j0 k l1 l2 l3 true a0_0 a0_1 l0_2 l0_3))))) else (some false))
theorem tontinelaw16_RoutePlays.mono_l : ∀ k, (∀ y0 y1 y2 y3 y4 y5 y6 y7, LeO (tontinelaw16_RoutePlays.j0 k y0 y1 y2 y3 y4 y5 y6 y7) (tontinelaw16_RoutePlays.j0 (k + 1) y0 y1 y2 y3 y4 y5 y6 y7)) ∧ (∀ y0 y1 y2 y3 y4 y5 y6 y7 y8 y9 y10 y11 y12 y13 y14 y15 y16 y17, LeO (tontinelaw16_RoutePlays.l0 k y0 y1 y2 y3 y4 y5 y6 y7 y8 y9 y10 y11 y12 y13 y14 y15 y16 y17) (tontinelaw16_RoutePlays.l0 (k + 1) y0 y1 y2 y3 y4 y5 y6 y7 y8 y9 y10 y11 y12 y13 y14 y15 y16 y17)) ∧ (∀ y0 y1 y2 y3 y4 y5 y6 y7 y8 y9 y10 y11 y12 y13 y14 y15 y16 y17 y18, LeO (tontinelaw16_RoutePlays.j2 k y0 y1 y2 y3 y4 y5 y6 y7 y8 y9 y10 y11 y12 y13 y14 y15 y16 y17 y18) (tontinelaw16_RoutePlays.j2 (k + 1) y0 y1 y2 y3 y4 y5 y6 y7 y8 y9 y10 y11 y12 y13 y14 y15 y16 y17 y18)) ∧ (∀ y0 y1 y2 y3 y4 y5 y6 y7 y8 y9 y10 y11 y12 y13 y14 y15 y16 y17 y18, LeO (tontinelaw16_RoutePlays.l1 k y0 y1 y2 y3 y4 y5 y6 y7 y8 y9 y10 y11 y12 y13 y14 y15 y16 y17 y18) (tontinelaw16_RoutePlays.l1 (k + 1) y0 y1 y2 y3 y4 y5 y6 y7 y8 y9 y10 y11 y12 y13 y14 y15 y16 y17 y18))
  | 0 => ⟨fun _ _ _ _ _ _ _ _ r h => by simp [tontinelaw16_RoutePlays.j0] at h, fun _ _ _ _ _ _ _ _ _ _ _ _ _ _ _ _ _ _ r h => by simp [tontinelaw16_RoutePlays.l0] at h, fun _ _ _ _ _ _ _ _ _ _ _ _ _ _ _ _ _ _ _ r h => by simp [tontinelaw16_RoutePlays.j2] at h, fun _ _ _ _ _ _ _ _ _ _ _ _ _ _ _ _ _ _ _ r h => by simp [tontinelaw16_RoutePlays.l1] at h⟩
  | k + 1 => by
    obtain ⟨ih0, ih1, ih2, ih3⟩ := tontinelaw16_RoutePlays.mono_l k
    refine ⟨?_, ?_, ?_, ?_⟩
    · intro y0 y1 y2 y3 y4 y5 y6 y7
      unfold tontinelaw16_RoutePlays.j0
      repeat' first
      | (with_reducible exact ih0 _ _ _ _ _ _ _ _)
      | (with_reducible exact ih1 _ _ _ _ _ _ _ _ _ _ _ _ _ _ _ _ _ _)
      | (with_reducible exact ih2 _ _ _ _ _ _ _ _ _ _ _ _ _ _ _ _ _ _ _)
      | (with_reducible exact ih3 _ _ _ _ _ _ _ _ _ _ _ _ _ _ _ _ _ _ _)
      | (with_reducible exact route_First.mono _ _ _)
      | (with_reducible exact tontinehelp_WideConf.mono _ _ _ _ _)
      | (with_reducible exact tontinelaw16_known.mono _)
      | (with_reducible exact tontineref15_First.mono _ _ _)
      | (with_reducible exact tontineref15_Routes_Now.mono _ _ _ _ _ _ _)
      | (with_reducible exact tontineref15_Routes_Offer.mono _ _ _ _ _ _ _)
      | (with_reducible exact tontineref1_IsConf.mono _ _ _ _ _)
      | (with_reducible exact tontineref1_SameInts.mono _ _ _)
      | (with_reducible exact LeO.refl _)
      | (with_reducible exact LeO.none _)
      | (with_reducible refine LeO.ite ?_ ?_)
      | (with_reducible refine LeO.bind ?_ (fun _ => ?_))
      | exact ih0 _ _ _ _ _ _ _ _
      | exact ih1 _ _ _ _ _ _ _ _ _ _ _ _ _ _ _ _ _ _
      | exact ih2 _ _ _ _ _ _ _ _ _ _ _ _ _ _ _ _ _ _ _
      | exact ih3 _ _ _ _ _ _ _ _ _ _ _ _ _ _ _ _ _ _ _
      | exact route_First.mono _ _ _
      | exact tontinehelp_WideConf.mono _ _ _ _ _
      | exact tontinelaw16_known.mono _
      | exact tontineref15_First.mono _ _ _
      | exact tontineref15_Routes_Now.mono _ _ _ _ _ _ _
      | exact tontineref15_Routes_Offer.mono _ _ _ _ _ _ _
      | exact tontineref1_IsConf.mono _ _ _ _ _
      | exact tontineref1_SameInts.mono _ _ _
      | exact LeO.none _
      | refine LeO.ite ?_ ?_
      | refine LeO.bind ?_ (fun _ => ?_)
    · intro y0 y1 y2 y3 y4 y5 y6 y7 y8 y9 y10 y11 y12 y13 y14 y15 y16 y17
      unfold tontinelaw16_RoutePlays.l0
      repeat' first
      | (with_reducible exact ih0 _ _ _ _ _ _ _ _)
      | (with_reducible exact ih1 _ _ _ _ _ _ _ _ _ _ _ _ _ _ _ _ _ _)
      | (with_reducible exact ih2 _ _ _ _ _ _ _ _ _ _ _ _ _ _ _ _ _ _ _)
      | (with_reducible exact ih3 _ _ _ _ _ _ _ _ _ _ _ _ _ _ _ _ _ _ _)
      | (with_reducible exact route_First.mono _ _ _)
      | (with_reducible exact tontinehelp_WideConf.mono _ _ _ _ _)
      | (with_reducible exact tontinelaw16_known.mono _)
      | (with_reducible exact tontineref15_First.mono _ _ _)
      | (with_reducible exact tontineref15_Routes_Now.mono _ _ _ _ _ _ _)
      | (with_reducible exact tontineref15_Routes_Offer.mono _ _ _ _ _ _ _)
      | (with_reducible exact tontineref1_IsConf.mono _ _ _ _ _)
      | (with_reducible exact tontineref1_SameInts.mono _ _ _)
      | (with_reducible exact LeO.refl _)
      | (with_reducible exact LeO.none _)
      | (with_reducible refine LeO.ite ?_ ?_)
      | (with_reducible refine LeO.bind ?_ (fun _ => ?_))
      | exact ih0 _ _ _ _ _ _ _ _
      | exact ih1 _ _ _ _ _ _ _ _ _ _ _ _ _ _ _ _ _ _
      | exact ih2 _ _ _ _ _ _ _ _ _ _ _ _ _ _ _ _ _ _ _
      | exact ih3 _ _ _ _ _ _ _ _ _ _ _ _ _ _ _ _ _ _ _
      | exact route_First.mono _ _ _
      | exact tontinehelp_WideConf.mono _ _ _ _ _
      | exact tontinelaw16_known.mono _
      | exact tontineref15_First.mono _ _ _
      | exact tontineref15_Routes_Now.mono _ _ _ _ _ _ _
      | exact tontineref15_Routes_Offer.mono _ _ _ _ _ _ _
      | exact tontineref1_IsConf.mono _ _ _ _ _
      | exact tontineref1_SameInts.mono _ _ _
      | exact LeO.none _
      | refine LeO.ite ?_ ?_
      | refine LeO.bind ?_ (fun _ => ?_)
    · intro y0 y1 y2 y3 y4 y5 y6 y7 y8 y9 y10 y11 y12 y13 y14 y15 y16 y17 y18
      unfold tontinelaw16_RoutePlays.j2
      repeat' first
      | (with_reducible exact ih0 _ _ _ _ _ _ _ _)
      | (with_reducible exact ih1 _ _ _ _ _ _ _ _ _ _ _ _ _ _ _ _ _ _)
      | (with_reducible exact ih2 _ _ _ _ _ _ _ _ _ _ _ _ _ _ _ _ _ _ _)
      | (with_reducible exact ih3 _ _ _ _ _ _ _ _ _ _ _ _ _ _ _ _ _ _ _)
      | (with_reducible exact route_First.mono _ _ _)
      | (with_reducible exact tontinehelp_WideConf.mono _ _ _ _ _)
      | (with_reducible exact tontinelaw16_known.mono _)
      | (with_reducible exact tontineref15_First.mono _ _ _)
      | (with_reducible exact tontineref15_Routes_Now.mono _ _ _ _ _ _ _)
      | (with_reducible exact tontineref15_Routes_Offer.mono _ _ _ _ _ _ _)
      | (with_reducible exact tontineref1_IsConf.mono _ _ _ _ _)
      | (with_reducible exact tontineref1_SameInts.mono _ _ _)
      | (with_reducible exact LeO.refl _)
      | (with_reducible exact LeO.none _)
      | (with_reducible refine LeO.ite ?_ ?_)
      | (with_reducible refine LeO.bind ?_ (fun _ => ?_))
      | exact ih0 _ _ _ _ _ _ _ _
      | exact ih1 _ _ _ _ _ _ _ _ _ _ _ _ _ _ _ _ _ _
      | exact ih2 _ _ _ _ _ _ _ _ _ _ _ _ _ _ _ _ _ _ _
      | exact ih3 _ _ _ _ _ _ _ _ _ _ _ _ _ _ _ _ _ _ _
      | exact route_First.mono _ _ _
      | exact tontinehelp_WideConf.mono _ _ _ _ _
      | exact tontinelaw16_known.mono _
      | exact tontineref15_First.mono _ _ _
      | exact tontineref15_Routes_Now.mono _ _ _ _ _ _ _
      | exact tontineref15_Routes_Offer.mono _ _ _ _ _ _ _
      | exact tontineref1_IsConf.mono _ _ _ _ _
      | exact tontineref1_SameInts.mono _ _ _
      | exact LeO.none _
      | refine LeO.ite ?_ ?_
      | refine LeO.bind ?_ (fun _ => ?_)
    · intro y0 y1 y2 y3 y4 y5 y6 y7 y8 y9 y10 y11 y12 y13 y14 y15 y16 y17 y18
      unfold tontinelaw16_RoutePlays.l1
      repeat' first
      | (with_reducible exact ih0 _ _ _ _ _ _ _ _)
      | (with_reducible exact ih1 _ _ _ _ _ _ _ _ _ _ _ _ _ _ _ _ _ _)
      | (with_reducible exact ih2 _ _ _ _ _ _ _ _ _ _ _ _ _ _ _ _ _ _ _)
      | (with_reducible exact ih3 _ _ _ _ _ _ _ _ _ _ _ _ _ _ _ _ _ _ _)
      | (with_reducible exact route_First.mono _ _ _)
      | (with_reducible exact tontinehelp_WideConf.mono _ _ _ _ _)
      | (with_reducible exact tontinelaw16_known.mono _)
      | (with_reducible exact tontineref15_First.mono _ _ _)
      | (with_reducible exact tontineref15_Routes_Now.mono _ _ _ _ _ _ _)
      | (with_reducible exact tontineref15_Routes_Offer.mono _ _ _ _ _ _ _)
      | (with_reducible exact tontineref1_IsConf.mono _ _ _ _ _)
      | (with_reducible exact tontineref1_SameInts.mono _ _ _)
      | (with_reducible exact LeO.refl _)
      | (with_reducible exact LeO.none _)
      | (with_reducible refine LeO.ite ?_ ?_)
      | (with_reducible refine LeO.bind ?_ (fun _ => ?_))
      | exact ih0 _ _ _ _ _ _ _ _
      | exact ih1 _ _ _ _ _ _ _ _ _ _ _ _ _ _ _ _ _ _
      | exact ih2 _ _ _ _ _ _ _ _ _ _ _ _ _ _ _ _ _ _ _
      | exact ih3 _ _ _ _ _ _ _ _ _ _ _ _ _ _ _ _ _ _ _
      | exact route_First.mono _ _ _
      | exact tontinehelp_WideConf.mono _ _ _ _ _
      | exact tontinelaw16_known.mono _
      | exact tontineref15_First.mono _ _ _
      | exact tontineref15_Routes_Now.mono _ _ _ _ _ _ _
      | exact tontineref15_Routes_Offer.mono _ _ _ _ _ _ _
      | exact tontineref1_IsConf.mono _ _ _ _ _
      | exact tontineref1_SameInts.mono _ _ _
      | exact LeO.none _
      | refine LeO.ite ?_ ?_
      | refine LeO.bind ?_ (fun _ => ?_)
theorem tontinelaw16_RoutePlays.mono : ∀ a0 a1 a2 a3 a4 a5 a6 k, LeO (tontinelaw16_RoutePlays.f k a0 a1 a2 a3 a4 a5 a6) (tontinelaw16_RoutePlays.f (k + 1) a0 a1 a2 a3 a4 a5 a6) := by
 intro a0 a1 a2 a3 a4 a5 a6 k
 obtain ⟨ih0, ih1, ih2, ih3⟩ := tontinelaw16_RoutePlays.mono_l k
 unfold tontinelaw16_RoutePlays.f
 repeat' first
   | (with_reducible exact ih0 _ _ _ _ _ _ _ _)
   | (with_reducible exact ih1 _ _ _ _ _ _ _ _ _ _ _ _ _ _ _ _ _ _)
   | (with_reducible exact ih2 _ _ _ _ _ _ _ _ _ _ _ _ _ _ _ _ _ _ _)
   | (with_reducible exact ih3 _ _ _ _ _ _ _ _ _ _ _ _ _ _ _ _ _ _ _)
   | (with_reducible exact route_First.mono _ _ _)
   | (with_reducible exact tontinehelp_WideConf.mono _ _ _ _ _)
   | (with_reducible exact tontinelaw16_known.mono _)
   | (with_reducible exact tontineref15_First.mono _ _ _)
   | (with_reducible exact tontineref15_Routes_Now.mono _ _ _ _ _ _ _)
   | (with_reducible exact tontineref15_Routes_Offer.mono _ _ _ _ _ _ _)
   | (with_reducible exact tontineref1_IsConf.mono _ _ _ _ _)
   | (with_reducible exact tontineref1_SameInts.mono _ _ _)
   | (with_reducible exact LeO.refl _)
   | (with_reducible exact LeO.none _)
   | (with_reducible refine LeO.ite ?_ ?_)
   | (with_reducible refine LeO.bind ?_ (fun _ => ?_))
   | exact ih0 _ _ _ _ _ _ _ _
   | exact ih1 _ _ _ _ _ _ _ _ _ _ _ _ _ _ _ _ _ _
   | exact ih2 _ _ _ _ _ _ _ _ _ _ _ _ _ _ _ _ _ _ _
   | exact ih3 _ _ _ _ _ _ _ _ _ _ _ _ _ _ _ _ _ _ _
   | exact route_First.mono _ _ _
   | exact tontinehelp_WideConf.mono _ _ _ _ _
   | exact tontinelaw16_known.mono _
   | exact tontineref15_First.mono _ _ _
   | exact tontineref15_Routes_Now.mono _ _ _ _ _ _ _
   | exact tontineref15_Routes_Offer.mono _ _ _ _ _ _ _
   | exact tontineref1_IsConf.mono _ _ _ _ _
   | exact tontineref1_SameInts.mono _ _ _
   | exact LeO.none _
   | refine LeO.ite ?_ ?_
   | refine LeO.bind ?_ (fun _ => ?_)
def tontinelaw16_RoutePlays.T9 : Bool × List (List Nat × List Nat) := (true, [([], []), ([], []), ([], []), ([1, 2], [1, 2]), ([3], [3]), ([0, 4], [0, 4]), ([], []), ([], []), ([], []), ([7, 8], [7, 8]), ([9], [9]), ([6, 10, 5], [6, 10]), ([5, 11, 11], [5, 11]), ([12], [12]), ([13, 12], [13]), ([14], [14]), ([14], [14]), ([14], [14]), ([16, 17, 14], [14, 16, 17]), ([18, 14], [14, 18]), ([15, 19, 14, 14], [14, 15, 19]), ([14], [14]), ([14], [14]), ([14], [14]), ([22, 23, 14], [14, 22, 23]), ([24, 14], [14, 24]), ([21, 25, 20, 14], [14, 21, 25]), ([20, 26, 26, 14], [14, 20, 26]), ([27, 14], [14, 27]), ([14, 28], [14, 28])])
def tontinelaw16_RoutePlays.B9 : List Nat := [0, 0, 0, 6, 14, 31, 0, 0, 0, 384, 896, 2047, 4095, 8191, 16383, 32767, 32767, 32767, 229375, 491519, 1048575, 32767, 32767, 32767, 12615679, 29392895, 67108863, 134217727, 268435455, 536870911]
theorem tontinelaw16_RoutePlays.tab9 : rtab .any (opsOf Try.f3 9) = tontinelaw16_RoutePlays.T9 := by kernel_rfl
theorem tontinelaw16_RoutePlays.bits9 : waitsOk tontinelaw16_RoutePlays.T9.2 tontinelaw16_RoutePlays.B9 = true := by kernel_rfl
set_option maxHeartbeats 8000000 in
set_option maxRecDepth 100000 in
theorem tontinelaw16_RoutePlays.calls (k : Nat) (a0_0 : Int) (a0_1 : Int) (A0_2 : Option Addr) (c0_2 : Nat) (l0_2 : List (List Int)) (A0_3 : Option Addr) (c0_3 : Nat) (l0_3 : List (S44)) (A1 : Option Addr) (c1 : Nat) (l1 : List Int) (A2 : Option Addr) (c2 : Nat) (l2 : List Int) (A3 : Option Addr) (c3 : Nat) (l3 : List Bool) (r : Bool) (hrt : r = true) (w : World) (hr0_2 : Kd.C (Kd.slice 3 (Kd.int .i64)) w A0_2 l0_2.length l0_2) (hc0_2 : l0_2.length ≤ c0_2) (hr0_3 : Kd.C k44 w A0_3 l0_3.length l0_3) (hc0_3 : l0_3.length ≤ c0_3) (hr1 : Kd.C (Kd.int .i64) w A1 l1.length l1) (hc1 : l1.length ≤ c1) (hr2 : Kd.C (Kd.int .i64) w A2 l2.length l2) (hc2 : l2.length ≤ c2) (hr3 : Kd.C Kd.bool w A3 l3.length l3) (hc3 : l3.length ≤ c3) (h : tontinelaw16_RoutePlays.f k a0_0 a0_1 l0_2 l0_3 l1 l2 l3 = some r) :
    Calls Try.prog 3 #[.agg #[.int .i64 a0_0, .int .i64 a0_1, .slice A0_2 l0_2.length c0_2, .slice A0_3 l0_3.length c0_3], .slice A1 l1.length c1, .slice A2 l2.length c2, .slice A3 l3.length c3] w fun e w' => e = .returned (.bool r) ∧ Below w.heap.size w w' := by
 have hu25 := Try.underlying25
 have HR0_2 := Goto.m0 hr0_2
 have HC0_2 := Goto.m0 hc0_2
 clear hr0_2 hc0_2
 have HR0_3 := Goto.m0 hr0_3
 have HC0_3 := Goto.m0 hc0_3
 clear hr0_3 hc0_3
 have HR1 := Goto.m0 hr1
 have HC1 := Goto.m0 hc1
 clear hr1 hc1
 have HR2 := Goto.m0 hr2
 have HC2 := Goto.m0 hc2
 clear hr2 hc2
 have HR3 := Goto.m0 hr3
 have HC3 := Goto.m0 hc3
 clear hr3 hc3
 have HB := Goto.m0 (Below.refl w.heap.size w)
 have HRT := Goto.m0 hrt
 clear hrt
 have H : ((tontinelaw16_known.f k).bind fun t350 => (if t350 = true then ((tontinehelp_WideConf.f k a0_0 a0_1 l0_2 l0_3).bind fun t351 => (if t351 = true then (tontinelaw16_RoutePlays.j0 k l1 l2 l3 true a0_0 a0_1 l0_2 l0_3) else ((tontineref1_IsConf.f k a0_0 a0_1 l0_2 l0_3).bind fun t352 => (if t352 = 0 then (if (l1.length : Int) > 60 then (tontinelaw16_RoutePlays.j0 k l1 l2 l3 true a0_0 a0_1 l0_2 l0_3) else (if (l2.length : Int) > 20 then (tontinelaw16_RoutePlays.j0 k l1 l2 l3 true a0_0 a0_1 l0_2 l0_3) else (tontinelaw16_RoutePlays.j0 k l1 l2 l3 (decide ((l3.length : Int) > 20)) a0_0 a0_1 l0_2 l0_3))) else (tontinelaw16_RoutePlays.j0 k l1 l2 l3 true a0_0 a0_1 l0_2 l0_3))))) else (some false))) = some r := h
 clear h
 replace H := Option.bind_eq_some_iff.mp H
 obtain ⟨t350, A50, H⟩ := H
 have A5 := Goto.m0 A50
 clear A50
 by_cases c6 : t350 = true
 ·
  subst c6
  rw [if_pos rfl] at H
  have HC7 := Goto.m0 H
  clear H
  go_enter Try.func3, Try.ntmps3
  go_upto_region 3 with (first | ((with_reducible refine gate_dst (N := 4) rfl ?_); (try (refine gate_guard (by rfl) ?_; dsimp only)); refine box_event ?hg (N := 4) ?hd (cs := #[.int .i64 a0_0, .int .i64 a0_1, .slice A0_2 l0_2.length c0_2, .slice A0_3 l0_3.length c0_3]) (t := 25) ?hr ?_; (case hd => rfl); (case hg => rfl); (case hr => first | (go_simp; done) | (go_simp; rfl)); intro gb349 hg w8 hbox hb; have BK349 := Goto.m0 (hbox); have GW349 := Goto.gs HB hg; have GE349 := Goto.gs HB hg; replace HB := Goto.hs HB hb; clear hb hbox hg) | ((with_reducible refine gate_callee (f := 12) rfl ?_); refine goesL_ (some 13) rfl rfl Try.func12 (by kernel_rfl) rfl #[] rfl (by (try simp only [List.map_toArray, List.map_cons, List.map_nil]); first | done | rfl | (simp only [List.length_drop, List.length_take]; rfl)) ?_; (with_reducible refine (tontinelaw16_known.calls k  true (by first | rfl | assumption | (simp only [Bool.not_eq_true, Bool.not_eq_false] at *; assumption)) _ A5.out).mono ?_); rintro e w9 ⟨rfl, hb⟩; refine ⟨_, rfl, ?_⟩; replace BK349 := Goto.bb BK349 hb; replace HB := Goto.hs HB hb; (try clear hb); (try clear hb2); (try clear hk); (try clear hi)))
  (try simp only [Act.put, List.setIfInBounds_toArray, List.set_cons_zero, List.set_cons_succ])
  go_cut [36] (fun v36 wc => ∃ (kq : Nat) (x36_6 : Bool), v36 = .bool x36_6 ∧ Aside0 (tontinelaw16_RoutePlays.j0 kq l1 l2 l3 x36_6 a0_0 a0_1 l0_2 l0_3 = some r) ∧ Aside0 (kq ≤ k) ∧ Aside0 (wc.heap[gb349]? = some (.cells #[.int .i64 a0_0, .int .i64 a0_1, (.slice A0_2 l0_2.length c0_2), (.slice A0_3 l0_3.length c0_3)] 25 (0, 0))) ∧ Aside0 (Below w.heap.size w wc))
  case first =>
   have H := HC7.out; clear HC7
   replace H := Option.bind_eq_some_iff.mp H
   obtain ⟨t351, A100, H⟩ := H
   have A10 := Goto.m0 A100
   clear A100
   by_cases c11 : t351 = true
   ·
    subst c11
    rw [if_pos rfl] at H
    have H' := Goto.m0 H
    clear H; have hcz12_0 := Goto.bc0 BK349; have hcz12_1 := Goto.bc1 BK349; have hcz12_2 := Goto.bc2 BK349; have hcz12_3 := Goto.bc3 BK349; have hfz12_0 := Goto.bf BK349 0; have hfz12_1 := Goto.bf BK349 1; have hfz12_2 := Goto.bf BK349 2; have hfz12_3 := Goto.bf BK349 3
    go_wp2_with (first | ((with_reducible refine gate_callee (f := 13) rfl ?_); refine goesL_ (some 16) rfl rfl Try.func13 (by kernel_rfl) rfl #[.agg #[.int .i64 a0_0, .int .i64 a0_1, .slice A0_2 l0_2.length c0_2, .slice A0_3 l0_3.length c0_3]] rfl (by (try simp only [List.map_toArray, List.map_cons, List.map_nil]); first | done | rfl | (simp only [List.length_drop, List.length_take]; rfl)) ?_; (with_reducible refine (tontinehelp_WideConf.calls k a0_0 a0_1 _ _ l0_2 _ _ l0_3 true _ ?side1 ?side2 ?side3 ?side4 A10.out).mono ?_); (case side1 => repeat (first | exact (Kd.C_below HR0_2.out HB.out) | (with_reducible refine Kd.C_alloc ?_ _) | (with_reducible refine Kd.C_drewN ?_ _) | (with_reducible refine Kd.C_drew ?_))); (case side2 => exact HC0_2.out); (case side3 => repeat (first | exact (Kd.C_below HR0_3.out HB.out) | (with_reducible refine Kd.C_alloc ?_ _) | (with_reducible refine Kd.C_drewN ?_ _) | (with_reducible refine Kd.C_drew ?_))); (case side4 => exact HC0_3.out); rintro e w13 ⟨rfl, hb⟩; refine ⟨_, rfl, ?_⟩; replace BK349 := Goto.bb BK349 hb; replace HB := Goto.hs HB hb; (try clear hb); (try clear hb2); (try clear hk); (try clear hi)))
    go_meet
    case rel => exact ⟨_, (true), (by first | rfl | (simp; done) | (simp [*]; done)), H', ⟨by first | omega | exact Nat.le_refl _⟩, ⟨Goto.bx BK349⟩, ⟨Goto.hx HB⟩⟩
   ·
    replace c11 := Bool.eq_false_iff.mpr c11
    subst c11
    rw [if_neg (show ¬ (false = true) by decide)] at H
    replace H := Option.bind_eq_some_iff.mp H
    obtain ⟨t352, A140, H⟩ := H
    have A14 := Goto.m0 A140
    clear A140
    by_cases c15 : t352 = 0
    ·
     rw [if_pos c15] at H
     have c15b0 : (t352 == 0) = true := beq_iff_eq.mpr c15
     have c15b1 : (t352 != 0) = false := bne_eq_false_iff_eq.mpr c15
     clear c15
     (first | rw [c15b0] | (simp only [i64_w, i32_w]; rw [c15b0]) | skip)
     by_cases c16 : (l1.length : Int) > 60
     ·
      rw [if_pos c16] at H
      have c16b0 : decide (60 < (l1.length : Int)) = true := decide_eq_true c16
      have c16b1 : decide (60 < l1.length) = true := decide_eq_true (by omega)
      clear c16
      have H' := Goto.m0 H
      clear H; have hcz17_0 := Goto.bc0 BK349; have hcz17_1 := Goto.bc1 BK349; have hcz17_2 := Goto.bc2 BK349; have hcz17_3 := Goto.bc3 BK349; have hfz17_0 := Goto.bf BK349 0; have hfz17_1 := Goto.bf BK349 1; have hfz17_2 := Goto.bf BK349 2; have hfz17_3 := Goto.bf BK349 3
      go_wp2_with (first | ((with_reducible refine gate_callee (f := 13) rfl ?_); refine goesL_ (some 16) rfl rfl Try.func13 (by kernel_rfl) rfl #[.agg #[.int .i64 a0_0, .int .i64 a0_1, .slice A0_2 l0_2.length c0_2, .slice A0_3 l0_3.length c0_3]] rfl (by (try simp only [List.map_toArray, List.map_cons, List.map_nil]); first | done | rfl | (simp only [List.length_drop, List.length_take]; rfl)) ?_; (with_reducible refine (tontinehelp_WideConf.calls k a0_0 a0_1 _ _ l0_2 _ _ l0_3 false _ ?side1 ?side2 ?side3 ?side4 A10.out).mono ?_); (case side1 => repeat (first | exact (Kd.C_below HR0_2.out HB.out) | (with_reducible refine Kd.C_alloc ?_ _) | (with_reducible refine Kd.C_drewN ?_ _) | (with_reducible refine Kd.C_drew ?_))); (case side2 => exact HC0_2.out); (case side3 => repeat (first | exact (Kd.C_below HR0_3.out HB.out) | (with_reducible refine Kd.C_alloc ?_ _) | (with_reducible refine Kd.C_drewN ?_ _) | (with_reducible refine Kd.C_drew ?_))); (case side4 => exact HC0_3.out); rintro e w18 ⟨rfl, hb⟩; refine ⟨_, rfl, ?_⟩; replace BK349 := Goto.bb BK349 hb; replace HB := Goto.hs HB hb; (try clear hb); (try clear hb2); (try clear hk); (try clear hi); have hcz19_0 := Goto.bc0 BK349; have hcz19_1 := Goto.bc1 BK349; have hcz19_2 := Goto.bc2 BK349; have hcz19_3 := Goto.bc3 BK349; have hfz19_0 := Goto.bf BK349 0; have hfz19_1 := Goto.bf BK349 1; have hfz19_2 := Goto.bf BK349 2; have hfz19_3 := Goto.bf BK349 3) | (go_at_call 14; (with_reducible refine (tontineref1_IsConf.calls k a0_0 a0_1 _ _ l0_2 _ _ l0_3 t352 _ ?side1 ?side2 ?side3 ?side4 A14.out).mono ?_); (case side1 => repeat (first | exact (Kd.C_below HR0_2.out HB.out) | (with_reducible refine Kd.C_alloc ?_ _) | (with_reducible refine Kd.C_drewN ?_ _) | (with_reducible refine Kd.C_drew ?_))); (case side2 => exact HC0_2.out); (case side3 => repeat (first | exact (Kd.C_below HR0_3.out HB.out) | (with_reducible refine Kd.C_alloc ?_ _) | (with_reducible refine Kd.C_drewN ?_ _) | (with_reducible refine Kd.C_drew ?_))); (case side4 => exact HC0_3.out); rintro e w20 ⟨rfl, hb⟩; replace BK349 := Goto.bb BK349 hb; replace HB := Goto.hs HB hb; (try clear hb); (try clear hb2); (try clear hk); (try clear hi)))
      go_meet
      case rel => exact ⟨_, (true), (by first | rfl | (simp; done) | (simp [*]; done)), H', ⟨by first | omega | exact Nat.le_refl _⟩, ⟨Goto.bx BK349⟩, ⟨Goto.hx HB⟩⟩
     ·
      rw [if_neg c16] at H
      have c16b0 : decide (60 < (l1.length : Int)) = false := decide_eq_false c16
      have c16b1 : decide (60 < l1.length) = false := decide_eq_false (by omega)
      clear c16
      by_cases c21 : (l2.length : Int) > 20
      ·
       rw [if_pos c21] at H
       have c21b0 : decide (20 < (l2.length : Int)) = true := decide_eq_true c21
       have c21b1 : decide (20 < l2.length) = true := decide_eq_true (by omega)
       clear c21
       have H' := Goto.m0 H
       clear H; have hcz22_0 := Goto.bc0 BK349; have hcz22_1 := Goto.bc1 BK349; have hcz22_2 := Goto.bc2 BK349; have hcz22_3 := Goto.bc3 BK349; have hfz22_0 := Goto.bf BK349 0; have hfz22_1 := Goto.bf BK349 1; have hfz22_2 := Goto.bf BK349 2; have hfz22_3 := Goto.bf BK349 3
       go_wp2_with (first | ((with_reducible refine gate_callee (f := 13) rfl ?_); refine goesL_ (some 16) rfl rfl Try.func13 (by kernel_rfl) rfl #[.agg #[.int .i64 a0_0, .int .i64 a0_1, .slice A0_2 l0_2.length c0_2, .slice A0_3 l0_3.length c0_3]] rfl (by (try simp only [List.map_toArray, List.map_cons, List.map_nil]); first | done | rfl | (simp only [List.length_drop, List.length_take]; rfl)) ?_; (with_reducible refine (tontinehelp_WideConf.calls k a0_0 a0_1 _ _ l0_2 _ _ l0_3 false _ ?side1 ?side2 ?side3 ?side4 A10.out).mono ?_); (case side1 => repeat (first | exact (Kd.C_below HR0_2.out HB.out) | (with_reducible refine Kd.C_alloc ?_ _) | (with_reducible refine Kd.C_drewN ?_ _) | (with_reducible refine Kd.C_drew ?_))); (case side2 => exact HC0_2.out); (case side3 => repeat (first | exact (Kd.C_below HR0_3.out HB.out) | (with_reducible refine Kd.C_alloc ?_ _) | (with_reducible refine Kd.C_drewN ?_ _) | (with_reducible refine Kd.C_drew ?_))); (case side4 => exact HC0_3.out); rintro e w23 ⟨rfl, hb⟩; refine ⟨_, rfl, ?_⟩; replace BK349 := Goto.bb BK349 hb; replace HB := Goto.hs HB hb; (try clear hb); (try clear hb2); (try clear hk); (try clear hi); have hcz24_0 := Goto.bc0 BK349; have hcz24_1 := Goto.bc1 BK349; have hcz24_2 := Goto.bc2 BK349; have hcz24_3 := Goto.bc3 BK349; have hfz24_0 := Goto.bf BK349 0; have hfz24_1 := Goto.bf BK349 1; have hfz24_2 := Goto.bf BK349 2; have hfz24_3 := Goto.bf BK349 3) | (go_at_call 14; (with_reducible refine (tontineref1_IsConf.calls k a0_0 a0_1 _ _ l0_2 _ _ l0_3 t352 _ ?side1 ?side2 ?side3 ?side4 A14.out).mono ?_); (case side1 => repeat (first | exact (Kd.C_below HR0_2.out HB.out) | (with_reducible refine Kd.C_alloc ?_ _) | (with_reducible refine Kd.C_drewN ?_ _) | (with_reducible refine Kd.C_drew ?_))); (case side2 => exact HC0_2.out); (case side3 => repeat (first | exact (Kd.C_below HR0_3.out HB.out) | (with_reducible refine Kd.C_alloc ?_ _) | (with_reducible refine Kd.C_drewN ?_ _) | (with_reducible refine Kd.C_drew ?_))); (case side4 => exact HC0_3.out); rintro e w25 ⟨rfl, hb⟩; replace BK349 := Goto.bb BK349 hb; replace HB := Goto.hs HB hb; (try clear hb); (try clear hb2); (try clear hk); (try clear hi)))
       go_meet
       case rel => exact ⟨_, (true), (by first | rfl | (simp; done) | (simp [*]; done)), H', ⟨by first | omega | exact Nat.le_refl _⟩, ⟨Goto.bx BK349⟩, ⟨Goto.hx HB⟩⟩
      ·
       rw [if_neg c21] at H
       have c21b0 : decide (20 < (l2.length : Int)) = false := decide_eq_false c21
       have c21b1 : decide (20 < l2.length) = false := decide_eq_false (by omega)
       clear c21
       have H' := Goto.m0 H
       clear H; have hcz26_0 := Goto.bc0 BK349; have hcz26_1 := Goto.bc1 BK349; have hcz26_2 := Goto.bc2 BK349; have hcz26_3 := Goto.bc3 BK349; have hfz26_0 := Goto.bf BK349 0; have hfz26_1 := Goto.bf BK349 1; have hfz26_2 := Goto.bf BK349 2; have hfz26_3 := Goto.bf BK349 3
       go_wp2_with (first | ((with_reducible refine gate_callee (f := 13) rfl ?_); refine goesL_ (some 16) rfl rfl Try.func13 (by kernel_rfl) rfl #[.agg #[.int .i64 a0_0, .int .i64 a0_1, .slice A0_2 l0_2.length c0_2, .slice A0_3 l0_3.length c0_3]] rfl (by (try simp only [List.map_toArray, List.map_cons, List.map_nil]); first | done | rfl | (simp only [List.length_drop, List.length_take]; rfl)) ?_; (with_reducible refine (tontinehelp_WideConf.calls k a0_0 a0_1 _ _ l0_2 _ _ l0_3 false _ ?side1 ?side2 ?side3 ?side4 A10.out).mono ?_); (case side1 => repeat (first | exact (Kd.C_below HR0_2.out HB.out) | (with_reducible refine Kd.C_alloc ?_ _) | (with_reducible refine Kd.C_drewN ?_ _) | (with_reducible refine Kd.C_drew ?_))); (case side2 => exact HC0_2.out); (case side3 => repeat (first | exact (Kd.C_below HR0_3.out HB.out) | (with_reducible refine Kd.C_alloc ?_ _) | (with_reducible refine Kd.C_drewN ?_ _) | (with_reducible refine Kd.C_drew ?_))); (case side4 => exact HC0_3.out); rintro e w27 ⟨rfl, hb⟩; refine ⟨_, rfl, ?_⟩; replace BK349 := Goto.bb BK349 hb; replace HB := Goto.hs HB hb; (try clear hb); (try clear hb2); (try clear hk); (try clear hi); have hcz28_0 := Goto.bc0 BK349; have hcz28_1 := Goto.bc1 BK349; have hcz28_2 := Goto.bc2 BK349; have hcz28_3 := Goto.bc3 BK349; have hfz28_0 := Goto.bf BK349 0; have hfz28_1 := Goto.bf BK349 1; have hfz28_2 := Goto.bf BK349 2; have hfz28_3 := Goto.bf BK349 3) | (go_at_call 14; (with_reducible refine (tontineref1_IsConf.calls k a0_0 a0_1 _ _ l0_2 _ _ l0_3 t352 _ ?side1 ?side2 ?side3 ?side4 A14.out).mono ?_); (case side1 => repeat (first | exact (Kd.C_below HR0_2.out HB.out) | (with_reducible refine Kd.C_alloc ?_ _) | (with_reducible refine Kd.C_drewN ?_ _) | (with_reducible refine Kd.C_drew ?_))); (case side2 => exact HC0_2.out); (case side3 => repeat (first | exact (Kd.C_below HR0_3.out HB.out) | (with_reducible refine Kd.C_alloc ?_ _) | (with_reducible refine Kd.C_drewN ?_ _) | (with_reducible refine Kd.C_drew ?_))); (case side4 => exact HC0_3.out); rintro e w29 ⟨rfl, hb⟩; replace BK349 := Goto.bb BK349 hb; replace HB := Goto.hs HB hb; (try clear hb); (try clear hb2); (try clear hk); (try clear hi)))
       go_meet
       case rel => exact ⟨_, (decide ((l3.length : Int) > 20)), (by first | rfl | (simp; done) | (simp [*]; done)), H', ⟨by first | omega | exact Nat.le_refl _⟩, ⟨Goto.bx BK349⟩, ⟨Goto.hx HB⟩⟩
    ·
     rw [if_neg c15] at H
     have c15b0 : (t352 == 0) = false := beq_eq_false_iff_ne.mpr c15
     have c15b1 : (t352 != 0) = true := bne_iff_ne.mpr c15
     (first | rw [c15b0] | (simp only [i64_w, i32_w]; rw [c15b0]) | skip)
     have H' := Goto.m0 H
     clear H; have hcz30_0 := Goto.bc0 BK349; have hcz30_1 := Goto.bc1 BK349; have hcz30_2 := Goto.bc2 BK349; have hcz30_3 := Goto.bc3 BK349; have hfz30_0 := Goto.bf BK349 0; have hfz30_1 := Goto.bf BK349 1; have hfz30_2 := Goto.bf BK349 2; have hfz30_3 := Goto.bf BK349 3
     go_wp2_with (first | ((with_reducible refine gate_callee (f := 13) rfl ?_); refine goesL_ (some 16) rfl rfl Try.func13 (by kernel_rfl) rfl #[.agg #[.int .i64 a0_0, .int .i64 a0_1, .slice A0_2 l0_2.length c0_2, .slice A0_3 l0_3.length c0_3]] rfl (by (try simp only [List.map_toArray, List.map_cons, List.map_nil]); first | done | rfl | (simp only [List.length_drop, List.length_take]; rfl)) ?_; (with_reducible refine (tontinehelp_WideConf.calls k a0_0 a0_1 _ _ l0_2 _ _ l0_3 false _ ?side1 ?side2 ?side3 ?side4 A10.out).mono ?_); (case side1 => repeat (first | exact (Kd.C_below HR0_2.out HB.out) | (with_reducible refine Kd.C_alloc ?_ _) | (with_reducible refine Kd.C_drewN ?_ _) | (with_reducible refine Kd.C_drew ?_))); (case side2 => exact HC0_2.out); (case side3 => repeat (first | exact (Kd.C_below HR0_3.out HB.out) | (with_reducible refine Kd.C_alloc ?_ _) | (with_reducible refine Kd.C_drewN ?_ _) | (with_reducible refine Kd.C_drew ?_))); (case side4 => exact HC0_3.out); rintro e w31 ⟨rfl, hb⟩; refine ⟨_, rfl, ?_⟩; replace BK349 := Goto.bb BK349 hb; replace HB := Goto.hs HB hb; (try clear hb); (try clear hb2); (try clear hk); (try clear hi); have hcz32_0 := Goto.bc0 BK349; have hcz32_1 := Goto.bc1 BK349; have hcz32_2 := Goto.bc2 BK349; have hcz32_3 := Goto.bc3 BK349; have hfz32_0 := Goto.bf BK349 0; have hfz32_1 := Goto.bf BK349 1; have hfz32_2 := Goto.bf BK349 2; have hfz32_3 := Goto.bf BK349 3) | (go_at_call 14; (with_reducible refine (tontineref1_IsConf.calls k a0_0 a0_1 _ _ l0_2 _ _ l0_3 t352 _ ?side1 ?side2 ?side3 ?side4 A14.out).mono ?_); (case side1 => repeat (first | exact (Kd.C_below HR0_2.out HB.out) | (with_reducible refine Kd.C_alloc ?_ _) | (with_reducible refine Kd.C_drewN ?_ _) | (with_reducible refine Kd.C_drew ?_))); (case side2 => exact HC0_2.out); (case side3 => repeat (first | exact (Kd.C_below HR0_3.out HB.out) | (with_reducible refine Kd.C_alloc ?_ _) | (with_reducible refine Kd.C_drewN ?_ _) | (with_reducible refine Kd.C_drew ?_))); (case side4 => exact HC0_3.out); rintro e w33 ⟨rfl, hb⟩; replace BK349 := Goto.bb BK349 hb; replace HB := Goto.hs HB hb; (try clear hb); (try clear hb2); (try clear hk); (try clear hi)))
     go_meet
     case rel => exact ⟨_, (true), (by first | rfl | (simp; done) | (simp [*]; done)), H', ⟨by first | omega | exact Nat.le_refl _⟩, ⟨Goto.bx BK349⟩, ⟨Goto.hx HB⟩⟩
  case rest =>
   clear HC7; try clear c1; try clear c2; try clear p2; try clear c3; try clear c6; try clear c11; try clear c12; try clear c13; try clear c15; try clear c15b0; try clear c15b1; try clear c16; try clear c16b0; try clear c16b1; try clear c21; try clear c21b0; try clear c21b1; try clear hcz12_0; try clear hcz12_1; try clear hcz12_2; try clear hcz12_3; try clear hcz17_0; try clear hcz17_1; try clear hcz17_2; try clear hcz17_3; try clear hcz19_0; try clear hcz19_1; try clear hcz19_2; try clear hcz19_3; try clear hcz22_0; try clear hcz22_1; try clear hcz22_2; try clear hcz22_3; try clear hcz24_0; try clear hcz24_1; try clear hcz24_2; try clear hcz24_3; try clear hcz26_0; try clear hcz26_1; try clear hcz26_2; try clear hcz26_3; try clear hcz28_0; try clear hcz28_1; try clear hcz28_2; try clear hcz28_3; try clear hcz30_0; try clear hcz30_1; try clear hcz30_2; try clear hcz30_3; try clear hcz32_0; try clear hcz32_1; try clear hcz32_2; try clear hcz32_3; try clear hfz12_0; try clear hfz12_1; try clear hfz12_2; try clear hfz12_3; try clear hfz17_0; try clear hfz17_1; try clear hfz17_2; try clear hfz17_3; try clear hfz19_0; try clear hfz19_1; try clear hfz19_2; try clear hfz19_3; try clear hfz22_0; try clear hfz22_1; try clear hfz22_2; try clear hfz22_3; try clear hfz24_0; try clear hfz24_1; try clear hfz24_2; try clear hfz24_3; try clear hfz26_0; try clear hfz26_1; try clear hfz26_2; try clear hfz26_3; try clear hfz28_0; try clear hfz28_1; try clear hfz28_2; try clear hfz28_3; try clear hfz30_0; try clear hfz30_1; try clear hfz30_2; try clear hfz30_3; try clear hfz32_0; try clear hfz32_1; try clear hfz32_2; try clear hfz32_3
   obtain ⟨kq, x36_6, rfl, HA, HJ6, BK349, HB⟩ := hcut
   cases kq with
   | zero => exact absurd HA.out (by simp [tontinelaw16_RoutePlays.j0])
   | succ kj6 =>
    have H := HA.out; clear HA
    simp only [tontinelaw16_RoutePlays.j0] at H
    by_cases c34 : x36_6 = true
    ·
     subst c34
     rw [if_pos rfl] at H
     obtain rfl := Option.some.inj H
     go_wp2
     go_ret
     exact ⟨Goto.er, by repeat (first | (with_reducible first | exact HB.out | apply below_alloc | apply pw_below_drewN | apply below_drew1 | refine below_set ?_ GE349.out) | exact HB.out)⟩
    ·
     replace c34 := Bool.eq_false_iff.mpr c34
     subst c34
     rw [if_neg (show ¬ (false = true) by decide)] at H
     replace H := Option.bind_eq_some_iff.mp H
     obtain ⟨⟨t354, t355, t356⟩, A350, H⟩ := H
     replace H : ((tontineref15_NewRoutes.f a0_0 a0_1 l0_2 l0_3).bind fun bt360 => (tontinelaw16_RoutePlays.l0 kj6 l1 l2 l3 0 a0_0 a0_1 l0_2 l0_3 t354 t355 l0_2 l0_3 t356 bt360.1 bt360.2.1 l0_2 l0_3 bt360.2.2)) = some r := H
     have A35 := Goto.m0 A350
     clear A350
     replace H := Option.bind_eq_some_iff.mp H
     obtain ⟨⟨t360, t361, t362⟩, A360, H⟩ := H
     replace H : (tontinelaw16_RoutePlays.l0 kj6 l1 l2 l3 0 a0_0 a0_1 l0_2 l0_3 t354 t355 l0_2 l0_3 t356 t360 t361 l0_2 l0_3 t362) = some r := H
     have A36 := Goto.m0 A360
     clear A360
     have H' := Goto.m0 H
     clear H
     try go_wp2
     replace BK349 := Goto.m0 (blk_drew BK349.out); replace HB := Goto.m0 (below_drew1 HB.out)
     refine start_ (n := 6) (S := fun w' => w'.cell? ⟨gb349, 0, none⟩ = some (.int .i64 a0_0) ∧ w'.cell? ⟨gb349, 1, none⟩ = some (.int .i64 a0_1) ∧ w'.cell? ⟨gb349, 2, none⟩ = some (.slice A0_2 l0_2.length c0_2) ∧ w'.cell? ⟨gb349, 3, none⟩ = some (.slice A0_3 l0_3.length c0_3)) (ds := []) #[false, false, false, false, false, false] (by kernel_rfl) rfl rfl ⟨(blk_cell BK349.out 0).trans rfl, (blk_cell BK349.out 1).trans rfl, (blk_cell BK349.out 2).trans rfl, (blk_cell BK349.out 3).trans rfl⟩ (fun hHeld => ?_)
     generalize wc.drew = w37 at BK349 HB hHeld ⊢
     refine take_ (i := 0) (N := some 37) (v := ?_) (a' := ?_) #[true, false, false, false, false, false] rfl rfl (by kernel_rfl) (fun _ _ _ h => h) (Or.inl ⟨by rfl, ?_⟩) hHeld ?_ ?_
     rotate_left
     ·
      rintro w' ⟨s0, s1, s2, s3⟩
      go_simp
      with_reducible rfl
     rotate_left
     ·
      exact Goto.ap
     refine take_ (i := 2) (N := some 39) (v := ?_) (a' := ?_) #[true, false, true, false, false, false] rfl rfl (by kernel_rfl) (fun _ _ _ h => h) (Or.inl ⟨by rfl, ?_⟩) hHeld ?_ ?_
     rotate_left
     ·
      rintro w' ⟨s0, s1, s2, s3⟩
      go_simp
      with_reducible rfl
     rotate_left
     ·
      exact Goto.ap
     refine one_ (i := 1) (N := some 38) #[true, true, true, false, false, false] rfl rfl (by kernel_rfl) (by decide) (fun K hK => ?_)
     refine goes_ Try.func15 (by kernel_rfl) rfl #[.agg #[.int .i64 a0_0, .int .i64 a0_1, .slice A0_2 l0_2.length c0_2, .slice A0_3 l0_3.length c0_3]] (by rfl) rfl rfl (by (try simp only [List.map_toArray, List.map_cons, List.map_nil]); first | done | rfl | (simp only [List.length_drop, List.length_take]; rfl)) ?_
     with_reducible refine (route_New.calls a0_0 a0_1 _ _ l0_2 _ _ l0_3 t354 t355 t356 _ ?side1 ?side2 ?side3 ?side4 A35.out).mono ?_
     (case side1 => repeat (first | exact (Kd.C_below HR0_2.out HB.out) | (with_reducible refine Kd.C_alloc ?_ _) | (with_reducible refine Kd.C_drewN ?_ _) | (with_reducible refine Kd.C_drew ?_)))
     (case side2 => exact HC0_2.out)
     (case side3 => repeat (first | exact (Kd.C_below HR0_3.out HB.out) | (with_reducible refine Kd.C_alloc ?_ _) | (with_reducible refine Kd.C_drewN ?_ _) | (with_reducible refine Kd.C_drew ?_)))
     (case side4 => exact HC0_3.out)
     rintro e w38 ⟨v357, gb353, rfl, ho0, hi, hge, hb⟩
     refine ⟨_, rfl, ?_⟩
     have HO358 := Goto.m0 (Kd.R_lower ho0 (below_size (Goto.hx HB))); have BK353 := Goto.m0 (hi); have GW353 := Goto.m0 ((Nat.le_trans (below_size (Goto.hx HB)) hge : w.heap.size ≤ gb353)); have GE353 := Goto.m0 ((Nat.le_trans (below_size (Goto.hx HB)) hge : w.heap.size ≤ gb353)); have NB349_353 := Goto.m0 ((Nat.ne_of_lt (Nat.lt_of_lt_of_le (blk_lt (g := gb349) (o := .cells #[.int .i64 a0_0, .int .i64 a0_1, .slice A0_2 l0_2.length c0_2, .slice A0_3 l0_3.length c0_3] 25 (0, 0)) (Goto.bx BK349)) hge) : gb349 ≠ gb353)); have NB353_349 := Goto.m0 ((Nat.ne_of_gt (Nat.lt_of_lt_of_le (blk_lt (g := gb349) (o := .cells #[.int .i64 a0_0, .int .i64 a0_1, .slice A0_2 l0_2.length c0_2, .slice A0_3 l0_3.length c0_3] 25 (0, 0)) (Goto.bx BK349)) hge) : gb353 ≠ gb349)); replace BK349 := Goto.bb BK349 hb; replace HB := Goto.hs HB hb
     (try clear hb)
     (try clear hi)
     (try clear hge)
     (try clear ho0)
     refine hK.out _ _ ⟨(blk_cell BK349.out 0).trans rfl, (blk_cell BK349.out 1).trans rfl, (blk_cell BK349.out 2).trans rfl, (blk_cell BK349.out 3).trans rfl⟩ (fun hHeld => ?_)
     clear hK K
     refine norm_ (a' := ?_) ?_ ?_
     rotate_left
     ·
      show Act.put _ (some 38) _ = _
      exact Goto.ap
     refine one_ (i := 3) (N := some 40) #[true, true, true, true, false, false] rfl rfl (by kernel_rfl) (by decide) (fun K hK => ?_)
     refine goes_ Try.func16 (by kernel_rfl) rfl #[.agg #[.int .i64 a0_0, .int .i64 a0_1, .slice A0_2 l0_2.length c0_2, .slice A0_3 l0_3.length c0_3]] (by rfl) rfl rfl (by (try simp only [List.map_toArray, List.map_cons, List.map_nil]); first | done | rfl | (simp only [List.length_drop, List.length_take]; rfl)) ?_
     with_reducible refine (tontineref15_NewRoutes.calls a0_0 a0_1 _ _ l0_2 _ _ l0_3 t360 t361 t362 _ ?side1 ?side2 ?side3 ?side4 A36.out).mono ?_
     (case side1 => repeat (first | exact (Kd.C_below HR0_2.out HB.out) | (with_reducible refine Kd.C_alloc ?_ _) | (with_reducible refine Kd.C_drewN ?_ _) | (with_reducible refine Kd.C_drew ?_)))
     (case side2 => exact HC0_2.out)
     (case side3 => repeat (first | exact (Kd.C_below HR0_3.out HB.out) | (with_reducible refine Kd.C_alloc ?_ _) | (with_reducible refine Kd.C_drewN ?_ _) | (with_reducible refine Kd.C_drew ?_)))
     (case side4 => exact HC0_3.out)
     rintro e w39 ⟨v363, gb359, rfl, ho0, hi, hge, hb⟩
     refine ⟨_, rfl, ?_⟩
     have HO364 := Goto.m0 (Kd.R_lower (Kd.R_new' ho0 (Kd.R_lt (Goto.rk HO358))) (below_size (Goto.hx HB))); have BK359 := Goto.m0 (hi); have GW359 := Goto.m0 ((Nat.le_trans (below_size (Goto.hx HB)) hge : w.heap.size ≤ gb359)); have GE359 := Goto.m0 ((Nat.le_trans (below_size (Goto.hx HB)) hge : w.heap.size ≤ gb359)); have NB349_359 := Goto.m0 ((Nat.ne_of_lt (Nat.lt_of_lt_of_le (blk_lt (g := gb349) (o := .cells #[.int .i64 a0_0, .int .i64 a0_1, .slice A0_2 l0_2.length c0_2, .slice A0_3 l0_3.length c0_3] 25 (0, 0)) (Goto.bx BK349)) hge) : gb349 ≠ gb359)); have NB359_349 := Goto.m0 ((Nat.ne_of_gt (Nat.lt_of_lt_of_le (blk_lt (g := gb349) (o := .cells #[.int .i64 a0_0, .int .i64 a0_1, .slice A0_2 l0_2.length c0_2, .slice A0_3 l0_3.length c0_3] 25 (0, 0)) (Goto.bx BK349)) hge) : gb359 ≠ gb349)); have NB353_359 := Goto.m0 ((Nat.ne_of_lt (Nat.lt_of_lt_of_le (blk_lt (g := gb353) (o := .cells #[.int .i64 t354, .int .i64 t355, .slice A0_2 l0_2.length c0_2, .slice A0_3 l0_3.length c0_3, v357] 74 (0, 0)) (Goto.bx BK353)) hge) : gb353 ≠ gb359)); have NB359_353 := Goto.m0 ((Nat.ne_of_gt (Nat.lt_of_lt_of_le (blk_lt (g := gb353) (o := .cells #[.int .i64 t354, .int .i64 t355, .slice A0_2 l0_2.length c0_2, .slice A0_3 l0_3.length c0_3, v357] 74 (0, 0)) (Goto.bx BK353)) hge) : gb359 ≠ gb353)); replace HO358 := Goto.m0 (Kd.R_elder' (Goto.rk HO358) (Kd.R_base ho0) hb); replace BK349 := Goto.bb BK349 hb; replace BK353 := Goto.bb BK353 hb; replace HB := Goto.hs HB hb
     (try clear hb)
     (try clear hi)
     (try clear hge)
     (try clear ho0)
     refine hK.out _ _ ⟨(blk_cell BK349.out 0).trans rfl, (blk_cell BK349.out 1).trans rfl, (blk_cell BK349.out 2).trans rfl, (blk_cell BK349.out 3).trans rfl⟩ (fun hHeld => ?_)
     clear hK K
     refine norm_ (a' := ?_) ?_ ?_
     rotate_left
     ·
      show Act.put _ (some 40) _ = _
      exact Goto.ap
     refine pure_ (i := 4) (N := some 9) (v := ?_) (a' := ?_) #[true, true, true, true, true, false] rfl rfl (by kernel_rfl) (fun _ _ _ h => h) (Or.inl ⟨by rfl, ?_⟩) ?_ ?_
     rotate_left
     ·
      intro w'
      go_simp
      with_reducible rfl
     rotate_left
     ·
      exact Goto.ap
     refine pure_ (i := 5) (N := some 10) (v := ?_) (a' := ?_) #[true, true, true, true, true, true] rfl rfl (by kernel_rfl) (fun _ _ _ h => h) (Or.inl ⟨by rfl, ?_⟩) ?_ ?_
     rotate_left
     ·
      intro w'
      go_simp
      with_reducible rfl
     rotate_left
     ·
      exact Goto.ap
     refine done_ (by kernel_rfl) ?_
     try go_wp2
     go_loopg [11] kj6 (fun kq v11 w' => ∃ (x11_2 : Int) (x354004_2 : List Int) (x360004_2 : List Int) (u354004 : Value) (u360004 : Value), v11 = .int .i64 x11_2 ∧ Aside0 (tontinelaw16_RoutePlays.l0 kq l1 l2 l3 x11_2 a0_0 a0_1 l0_2 l0_3 t354 t355 l0_2 l0_3 x354004_2 t360 t361 l0_2 l0_3 x360004_2 = some r) ∧ Aside0 (kq ≤ kj6) ∧ Aside0 (Kd.R (Kd.int .i64) 3 w' w.heap.size (fun k_ => some k_ ≠ (u360004 : Value).ownBlock) u354004 x354004_2) ∧ Aside0 (Kd.R (Kd.int .i64) 3 w' w.heap.size (fun k_ => some k_ ≠ (u354004 : Value).ownBlock) u360004 x360004_2) ∧ Aside0 (w'.heap[gb349]? = some (.cells #[.int .i64 a0_0, .int .i64 a0_1, (.slice A0_2 l0_2.length c0_2), (.slice A0_3 l0_3.length c0_3)] 25 (0, 0))) ∧ Aside0 (w'.heap[gb353]? = some (.cells #[.int .i64 t354, .int .i64 t355, (.slice A0_2 l0_2.length c0_2), (.slice A0_3 l0_3.length c0_3), u354004] 74 (0, 0))) ∧ Aside0 (w'.heap[gb359]? = some (.cells #[.int .i64 t360, .int .i64 t361, (.slice A0_2 l0_2.length c0_2), (.slice A0_3 l0_3.length c0_3), u360004] 76 (0, 0))) ∧ Aside0 (Below w.heap.size w w'))
     case atStart => exact ⟨(0), (t356), (t362), (v357), (v363), (by first | rfl | (simp; done) | (simp [*]; done)), H', ⟨Nat.le_refl _⟩, ⟨by (with_reducible repeat (first | apply Kd.R_alloc | apply Kd.R_drewN | apply Kd.R_drew)); exact Kd.R_mono HO358.out (fun _ hk => hk.2)⟩, ⟨by (with_reducible repeat (first | apply Kd.R_alloc | apply Kd.R_drewN | apply Kd.R_drew)); exact Kd.R_mono HO364.out (fun _ hk => hk.2)⟩, ⟨Goto.bx BK349⟩, ⟨Goto.bx BK353⟩, ⟨Goto.bx BK359⟩, ⟨Goto.hx HB⟩⟩
     case round =>
      clear H'
      try clear c1; try clear c2; try clear p2; try clear c3; try clear c6; try clear c11; try clear c12; try clear c13; try clear c15; try clear c15b0; try clear c15b1; try clear c16; try clear c16b0; try clear c16b1; try clear c21; try clear c21b0; try clear c21b1; try clear c34; try clear hcz12_0; try clear hcz12_1; try clear hcz12_2; try clear hcz12_3; try clear hcz17_0; try clear hcz17_1; try clear hcz17_2; try clear hcz17_3; try clear hcz19_0; try clear hcz19_1; try clear hcz19_2; try clear hcz19_3; try clear hcz22_0; try clear hcz22_1; try clear hcz22_2; try clear hcz22_3; try clear hcz24_0; try clear hcz24_1; try clear hcz24_2; try clear hcz24_3; try clear hcz26_0; try clear hcz26_1; try clear hcz26_2; try clear hcz26_3; try clear hcz28_0; try clear hcz28_1; try clear hcz28_2; try clear hcz28_3; try clear hcz30_0; try clear hcz30_1; try clear hcz30_2; try clear hcz30_3; try clear hcz32_0; try clear hcz32_1; try clear hcz32_2; try clear hcz32_3; try clear hfz12_0; try clear hfz12_1; try clear hfz12_2; try clear hfz12_3; try clear hfz17_0; try clear hfz17_1; try clear hfz17_2; try clear hfz17_3; try clear hfz19_0; try clear hfz19_1; try clear hfz19_2; try clear hfz19_3; try clear hfz22_0; try clear hfz22_1; try clear hfz22_2; try clear hfz22_3; try clear hfz24_0; try clear hfz24_1; try clear hfz24_2; try clear hfz24_3; try clear hfz26_0; try clear hfz26_1; try clear hfz26_2; try clear hfz26_3; try clear hfz28_0; try clear hfz28_1; try clear hfz28_2; try clear hfz28_3; try clear hfz30_0; try clear hfz30_1; try clear hfz30_2; try clear hfz30_3; try clear hfz32_0; try clear hfz32_1; try clear hfz32_2; try clear hfz32_3; try clear p2
      obtain ⟨x11_2, x354004_2, x360004_2, u354004, u360004, rfl, HA, HK2, HO_354004, HO_360004, BK349, BK353, BK359, HB⟩ := hrel
      cases gk with
      | zero => exact absurd HA.out (by simp [tontinelaw16_RoutePlays.l0])
      | succ k2 =>
       have H := HA.out; clear HA
       simp only [tontinelaw16_RoutePlays.l0] at H
       by_cases c40 : x11_2 < (l1.length : Int)
       ·
        rw [if_pos c40] at H
        have c40b0 : decide (x11_2 < (l1.length : Int)) = true := decide_eq_true c40
        clear c40
        have HC41 := Goto.m0 H
        clear H
        go_upto_region 9 with (fail)
        go_cut [76] (fun v76 wc => ∃ (kq : Nat) (x76_40 : Bool) (x354004_40 : List Int) (x360004_40 : List Int) (u354004 : Value) (u360004 : Value), v76 = .bool x76_40 ∧ Aside0 (tontinelaw16_RoutePlays.j2 kq l1 l2 l3 x11_2 x76_40 a0_0 a0_1 l0_2 l0_3 t354 t355 l0_2 l0_3 x354004_40 t360 t361 l0_2 l0_3 x360004_40 = some r) ∧ Aside0 (kq ≤ k2) ∧ Aside0 (Kd.R (Kd.int .i64) 3 wc w.heap.size (fun k_ => some k_ ≠ (u360004 : Value).ownBlock) u354004 x354004_40) ∧ Aside0 (Kd.R (Kd.int .i64) 3 wc w.heap.size (fun k_ => some k_ ≠ (u354004 : Value).ownBlock) u360004 x360004_40) ∧ Aside0 (wc.heap[gb349]? = some (.cells #[.int .i64 a0_0, .int .i64 a0_1, (.slice A0_2 l0_2.length c0_2), (.slice A0_3 l0_3.length c0_3)] 25 (0, 0))) ∧ Aside0 (wc.heap[gb353]? = some (.cells #[.int .i64 t354, .int .i64 t355, (.slice A0_2 l0_2.length c0_2), (.slice A0_3 l0_3.length c0_3), u354004] 74 (0, 0))) ∧ Aside0 (wc.heap[gb359]? = some (.cells #[.int .i64 t360, .int .i64 t361, (.slice A0_2 l0_2.length c0_2), (.slice A0_3 l0_3.length c0_3), u360004] 76 (0, 0))) ∧ Aside0 (Below w.heap.size w wc))
        case first =>
         have H := HC41.out; clear HC41
         by_cases c42 : 0 ≤ x11_2
         ·
          rw [if_pos c42] at H
          have c42b0 : decide (0 ≤ x11_2) = true := decide_eq_true c42
          clear c42
          (first | rw [c42b0] | (simp only [i64_w, i32_w]; rw [c42b0]) | skip)
          replace H := Option.bind_eq_some_iff.mp H
          obtain ⟨⟨t366, t369⟩, A430, H⟩ := H
          replace H : ((tontineref15_Routes_Now.f k2 t360 t361 l0_2 l0_3 x360004_2 (rd l1 x11_2)).bind fun bt373 => ((tontineref1_SameInts.f k2 t366 bt373.1).bind fun t379 => (if t379 = true then ((route_Routes_Offer.f t354 t355 l0_2 l0_3 t369 (rd l1 x11_2)).bind fun bt381 => ((tontineref15_Routes_Offer.f k2 t360 t361 l0_2 l0_3 bt373.2 (rd l1 x11_2)).bind fun bt388 => ((tontineref1_SameInts.f k2 bt381.1 bt388.1).bind fun t394 => (tontinelaw16_RoutePlays.j2 k2 l1 l2 l3 x11_2 (!t394) a0_0 a0_1 l0_2 l0_3 t354 t355 l0_2 l0_3 bt381.2 t360 t361 l0_2 l0_3 bt388.2)))) else (tontinelaw16_RoutePlays.j2 k2 l1 l2 l3 x11_2 true a0_0 a0_1 l0_2 l0_3 t354 t355 l0_2 l0_3 t369 t360 t361 l0_2 l0_3 bt373.2)))) = some r := H
          have A43 := Goto.m0 A430
          clear A430
          replace H := Option.bind_eq_some_iff.mp H
          obtain ⟨⟨t373, t376⟩, A440, H⟩ := H
          replace H : ((tontineref1_SameInts.f k2 t366 t373).bind fun t379 => (if t379 = true then ((route_Routes_Offer.f t354 t355 l0_2 l0_3 t369 (rd l1 x11_2)).bind fun bt381 => ((tontineref15_Routes_Offer.f k2 t360 t361 l0_2 l0_3 t376 (rd l1 x11_2)).bind fun bt388 => ((tontineref1_SameInts.f k2 bt381.1 bt388.1).bind fun t394 => (tontinelaw16_RoutePlays.j2 k2 l1 l2 l3 x11_2 (!t394) a0_0 a0_1 l0_2 l0_3 t354 t355 l0_2 l0_3 bt381.2 t360 t361 l0_2 l0_3 bt388.2)))) else (tontinelaw16_RoutePlays.j2 k2 l1 l2 l3 x11_2 true a0_0 a0_1 l0_2 l0_3 t354 t355 l0_2 l0_3 t369 t360 t361 l0_2 l0_3 t376))) = some r := H
          have A44 := Goto.m0 A440
          clear A440
          replace H := Option.bind_eq_some_iff.mp H
          obtain ⟨t379, A450, H⟩ := H
          have A45 := Goto.m0 A450
          clear A450
          by_cases c46 : t379 = true
          ·
           subst c46
           rw [if_pos rfl] at H
           replace H := Option.bind_eq_some_iff.mp H
           obtain ⟨⟨t381, t384⟩, A470, H⟩ := H
           replace H : ((tontineref15_Routes_Offer.f k2 t360 t361 l0_2 l0_3 t376 (rd l1 x11_2)).bind fun bt388 => ((tontineref1_SameInts.f k2 t381 bt388.1).bind fun t394 => (tontinelaw16_RoutePlays.j2 k2 l1 l2 l3 x11_2 (!t394) a0_0 a0_1 l0_2 l0_3 t354 t355 l0_2 l0_3 t384 t360 t361 l0_2 l0_3 bt388.2))) = some r := H
           have A47 := Goto.m0 A470
           clear A470
           replace H := Option.bind_eq_some_iff.mp H
           obtain ⟨⟨t388, t391⟩, A480, H⟩ := H
           replace H : ((tontineref1_SameInts.f k2 t381 t388).bind fun t394 => (tontinelaw16_RoutePlays.j2 k2 l1 l2 l3 x11_2 (!t394) a0_0 a0_1 l0_2 l0_3 t354 t355 l0_2 l0_3 t384 t360 t361 l0_2 l0_3 t391)) = some r := H
           have A48 := Goto.m0 A480
           clear A480
           replace H := Option.bind_eq_some_iff.mp H
           obtain ⟨t394, A490, H⟩ := H
           have A49 := Goto.m0 A490
           clear A490
           have H' := Goto.m0 H
           clear H
           try go_wp2
           replace HO_354004 := Goto.m0 (Kd.R_drew HO_354004.out); replace HO_360004 := Goto.m0 (Kd.R_drew HO_360004.out); replace BK349 := Goto.m0 (blk_drew BK349.out); replace BK353 := Goto.m0 (blk_drew BK353.out); replace BK359 := Goto.m0 (blk_drew BK359.out); replace HB := Goto.m0 (below_drew1 HB.out)
           have p365 : 0 ≤ (x11_2 : Int) := Goto.od
           have q365 : x11_2 < (l1.length : Int) := Goto.od
           obtain ⟨ad365, e365, hx365_0⟩ := Kd.at_int HR1.out x11_2 p365 q365
           have hw365_0 := hx365_0
           cases e365
           replace hx365_0 := Goto.kc HB.out hx365_0
           replace p365 := eq_true p365; replace q365 := eq_true q365
           have p372 : 0 ≤ (x11_2 : Int) := Goto.od
           have q372 : x11_2 < (l1.length : Int) := Goto.od
           obtain ⟨ad372, e372, hx372_0⟩ := Kd.at_int HR1.out x11_2 p372 q372
           have hw372_0 := hx372_0
           obtain rfl : ad365 = ad372 := (by injection e372)
           replace hx372_0 := Goto.kc HB.out hx372_0
           replace p372 := eq_true p372; replace q372 := eq_true q372
           have p380 : 0 ≤ (x11_2 : Int) := Goto.od
           have q380 : x11_2 < (l1.length : Int) := Goto.od
           obtain ⟨ad380, e380, hx380_0⟩ := Kd.at_int HR1.out x11_2 p380 q380
           have hw380_0 := hx380_0
           obtain rfl : ad365 = ad380 := (by injection e380)
           replace hx380_0 := Goto.kc HB.out hx380_0
           replace p380 := eq_true p380; replace q380 := eq_true q380
           have p387 : 0 ≤ (x11_2 : Int) := Goto.od
           have q387 : x11_2 < (l1.length : Int) := Goto.od
           obtain ⟨ad387, e387, hx387_0⟩ := Kd.at_int HR1.out x11_2 p387 q387
           have hw387_0 := hx387_0
           obtain rfl : ad365 = ad387 := (by injection e387)
           replace hx387_0 := Goto.kc HB.out hx387_0
           replace p387 := eq_true p387; replace q387 := eq_true q387
           refine start_ (n := 30) (S := fun w' => w'.cell? (ad365.add (x11_2).toNat) = some (.int .i64 (rd l1 x11_2)) ∧ w'.cell? (ad365.add (x11_2).toNat) = some (.int .i64 (rd l1 x11_2)) ∧ w'.cell? (ad365.add (x11_2).toNat) = some (.int .i64 (rd l1 x11_2)) ∧ w'.cell? (ad365.add (x11_2).toNat) = some (.int .i64 (rd l1 x11_2))) (ds := []) (.replicate 30 false) (by kernel_rfl) rfl rfl ⟨(Goto.kc HB.out hw365_0), (Goto.kc HB.out hw372_0), (Goto.kc HB.out hw380_0), (Goto.kc HB.out hw387_0)⟩ (fun hHeld => ?_); refine with_tabW tontinelaw16_RoutePlays.tab9 tontinelaw16_RoutePlays.bits9 (fun HT_ HW_ => ?_)
           generalize wr.drew = w50 at HO_354004 HO_360004 BK349 BK353 BK359 HB hx365_0 hx372_0 hx380_0 hx387_0 hHeld ⊢
           refine Goto.pu 0 47 30 1 ?_
           refine Goto.pu 1 48 30 3 ?_
           refine Goto.pu 2 49 30 7 ?_
           refine Goto.pu 3 50 30 15 ?_
           refine Goto.pu 6 53 30 79 ?_
           refine Goto.pu 7 54 30 207 ?_
           refine Goto.pu 8 55 30 463 ?_
           refine Goto.pu 9 56 30 975 ?_
           refine take_ (i := 4) (N := some 51) (v := ?_) (a' := ?_) (Goto.bs 30 991) rfl rfl (take_ofW HT_.out HW_.out (by kernel_rfl)) (fun _ _ _ h => h) (Or.inl ⟨by rfl, ?_⟩) hHeld ?_ ?_
           rotate_left
           ·
            rintro w' ⟨s0, s1, s2, s3⟩
            go_simp
            with_reducible rfl
           rotate_left
           ·
            exact Goto.ap
           refine take_ (i := 10) (N := some 57) (v := ?_) (a' := ?_) (Goto.bs 30 2015) rfl rfl (take_ofW HT_.out HW_.out (by kernel_rfl)) (fun _ _ _ h => h) (Or.inl ⟨by rfl, ?_⟩) hHeld ?_ ?_
           rotate_left
           ·
            rintro w' ⟨s0, s1, s2, s3⟩
            go_simp
            with_reducible rfl
           rotate_left
           ·
            exact Goto.ap
           refine one_ (i := 5) (N := some 52) (Goto.bs 30 2047) rfl rfl (one_of HT_.out (by kernel_rfl)) (by decide) (fun K hK => ?_)
           refine goes_ Try.func18 (by kernel_rfl) rfl #[.pointer (some ⟨gb353, 0, none⟩), .int .i64 (rd l1 x11_2)] (by rfl) rfl rfl (by (try simp only [List.map_toArray, List.map_cons, List.map_nil]); first | done | rfl | (simp only [List.length_drop, List.length_take]; rfl)) ?_
           with_reducible refine (route_Routes_Now.calls gb353 t354 t355 A0_2 c0_2 l0_2 A0_3 c0_3 l0_3 (fun k_ => some k_ = (u354004 : Value).ownBlock) u354004 x354004_2 (rd l1 x11_2) t366 t369 w _ ?side1 ?side2 ?side3 ?side4 ?side5 ?side6 ?side7 ?side8 A43.out).mono ?_
           (case side1 => exact by (with_reducible repeat first | refine blk_drewN ?_ _ | refine blk_drew ?_ | refine blk_alloc ?_ _); exact BK353.out)
           (case side2 => exact GE353.out)
           (case side3 => repeat (first | (with_reducible first | exact HB.out | apply below_alloc | apply pw_below_drewN | apply below_drew1 | refine below_set ?_ GE349.out | refine below_set ?_ GE353.out | refine below_set ?_ GE359.out) | exact HB.out))
           (case side4 => exact Kd.C_kept_came (Kd.heap_slice 3 (Kd.heap_int .i64)) HR0_2.out (Goto.hx HB) (fun k_ hs_ => Or.elim hs_ (fun hs_ => (fun e_ => Kd.R_base HO_354004.out k_ e_.symm) hs_) (fun e_ => (by rw [e_]; exact GE353.out))))
           (case side5 => exact HC0_2.out)
           (case side6 => exact Kd.C_kept_came k44_heap HR0_3.out (Goto.hx HB) (fun k_ hs_ => Or.elim hs_ (fun hs_ => (fun e_ => Kd.R_base HO_354004.out k_ e_.symm) hs_) (fun e_ => (by rw [e_]; exact GE353.out))))
           (case side7 => exact HC0_3.out)
           (case side8 => exact Kd.R_tight rfl HO_354004.out)
           rintro e w51 ⟨v367, v370, rfl, ho0, ho1, hi, hb, hkp⟩
           refine ⟨_, rfl, ?_⟩
           have n0_ := Goto.m0 (Kd.R_mono (ok' := fun k_ => some k_ ≠ (v367 : Value).ownBlock ∧ some k_ ≠ (v370 : Value).ownBlock) (Kd.R_keptB ((Kd.R_types HO_360004.out BK353.out (by decide))) hkp (fun k_ hk_ hs_ => Or.elim hs_ (fun hs_ => (hk_.1) hs_) (fun e_ => (hk_.2) e_))) (fun k_ hk_ => ⟨fun e_ => Or.elim (ho0.1 k_ e_.symm).1 (fun hs_ => hk_.2.1 (.inl hs_)) (fun hn_ => Nat.not_le.2 hk_.2.2 hn_), fun e_ => Or.elim (ho1.1 k_ e_.symm).1 (fun hs_ => hk_.2.1 (.inl hs_)) (fun hn_ => Nat.not_le.2 hk_.2.2 hn_)⟩))
           have n1_ := Goto.m0 (blk_kept (Goto.bx BK349) hkp (fun hs_ => Or.elim hs_ (fun hs_ => (fun e_ => (Kd.R_ne HO_354004.out BK349.out (by decide)) e_) hs_) (fun e_ => NB349_353.out e_)))
           have n2_ := Goto.m0 (hi)
           have n3_ := Goto.m0 (blk_kept (Goto.bx BK359) hkp (fun hs_ => Or.elim hs_ (fun hs_ => (fun e_ => (Kd.R_ne HO_354004.out BK359.out (by decide)) e_) hs_) (fun e_ => NB359_353.out e_)))
           have n4_ := Goto.m0 (Kd.R_mono (ok' := fun k_ => some k_ ≠ (v370 : Value).ownBlock ∧ some k_ ≠ (u360004 : Value).ownBlock) ho0 (fun k_ hk_ => ⟨hk_.2, Or.elim hk_.1 (fun hs_ => fun e_ => ((((Kd.R_types HO_360004.out BK353.out (by decide))).1 k_ e_.symm).1) hs_) (fun hn_ => (Kd.fresh' (Kd.R_lt (Goto.rk HO_360004)) k_ hn_))⟩))
           have n5_ := Goto.m0 (Kd.R_mono (ok' := fun k_ => some k_ ≠ (v367 : Value).ownBlock ∧ some k_ ≠ (u360004 : Value).ownBlock) ho1 (fun k_ hk_ => ⟨hk_.2, Or.elim hk_.1 (fun hs_ => fun e_ => ((((Kd.R_types HO_360004.out BK353.out (by decide))).1 k_ e_.symm).1) hs_) (fun hn_ => (Kd.fresh' (Kd.R_lt (Goto.rk HO_360004)) k_ hn_))⟩))
           have n6_ := Goto.m0 (hb)
           clear HO_360004; clear BK349; clear BK353; clear BK359; clear HB; clear HO_354004; have HO_360004 := n0_; have BK349 := n1_; have BK353 := n2_; have BK359 := n3_; have HO368 := n4_; have HO371 := n5_; have HB := n6_; clear n0_ n1_ n2_ n3_ n4_ n5_ n6_
           (try clear hb)
           (try clear hkp)
           (try clear ho0)
           (try clear ho1)
           refine hK.out _ _ ⟨(Goto.kc HB.out hw365_0), (Goto.kc HB.out hw372_0), (Goto.kc HB.out hw380_0), (Goto.kc HB.out hw387_0)⟩ (fun hHeld => ?_)
           clear hK K
           refine norm_ (a' := ?_) ?_ ?_
           rotate_left
           ·
            show Act.put _ (some 52) _ = _
            exact Goto.ap
           refine one_ (i := 11) (N := some 58) (Goto.bs 30 4095) rfl rfl (one_of HT_.out (by kernel_rfl)) (by decide) (fun K hK => ?_)
           refine goes_ Try.func19 (by kernel_rfl) rfl #[.pointer (some ⟨gb359, 0, none⟩), .int .i64 (rd l1 x11_2)] (by rfl) rfl rfl (by (try simp only [List.map_toArray, List.map_cons, List.map_nil]); first | done | rfl | (simp only [List.length_drop, List.length_take]; rfl)) ?_
           with_reducible refine (tontineref15_Routes_Now.calls k2 gb359 t360 t361 A0_2 c0_2 l0_2 (fun k_ => k_ < w.heap.size) A0_3 c0_3 l0_3 (fun k_ => some k_ = (u360004 : Value).ownBlock) u360004 x360004_2 (rd l1 x11_2) t373 t376 w _ ?side1 ?side2 ?side3 ?side4 ?side5 ?side6 ?side7 A44.out).mono ?_
           (case side1 => exact by (with_reducible repeat first | refine blk_drewN ?_ _ | refine blk_drew ?_ | refine blk_alloc ?_ _); exact BK359.out)
           (case side2 => exact GE359.out)
           (case side3 => repeat (first | (with_reducible first | exact HB.out | apply below_alloc | apply pw_below_drewN | apply below_drew1 | refine below_set ?_ GE349.out | refine below_set ?_ GE353.out | refine below_set ?_ GE359.out) | exact HB.out))
           (case side4 => exact Kd.C_kept_came (Kd.heap_slice 3 (Kd.heap_int .i64)) HR0_2.out (Goto.hx HB) (fun k_ hs_ => Or.elim hs_ (fun hs_ => (fun e_ => Kd.R_base HO_360004.out k_ e_.symm) hs_) (fun e_ => (by rw [e_]; exact GE359.out))))
           (case side5 => exact HC0_2.out)
           (case side6 => exact Kd.V_mono (Kd.V_mk HC0_3.out (Kd.F_below (Kd.C_F k44_heap HR0_3.out) (Goto.hx HB))) (fun k_ hk_ => ⟨hk_, fun e_ => Nat.not_le.2 hk_ (Kd.R_base HO_360004.out k_ e_.symm), fun e_ => Nat.not_le.2 hk_ (by rw [e_]; exact GW359.out)⟩))
           (case side7 => exact Kd.R_tight rfl HO_360004.out)
           rintro e w52 ⟨v374, v377, rfl, ho0, ho1, hi, hb, hkp⟩
           refine ⟨_, rfl, ?_⟩
           have n0_ := Goto.m0 (blk_kept (Goto.bx BK349) hkp (fun hs_ => Or.elim hs_ (fun hs_ => (fun e_ => (Kd.R_ne HO_360004.out BK349.out (by decide)) e_) hs_) (fun e_ => NB349_359.out e_)))
           have n1_ := Goto.m0 (blk_kept (Goto.bx BK353) hkp (fun hs_ => Or.elim hs_ (fun hs_ => (fun e_ => (Kd.R_ne HO_360004.out BK353.out (by decide)) e_) hs_) (fun e_ => NB353_359.out e_)))
           have n2_ := Goto.m0 (hi)
           have n3_ := Goto.m0 (Kd.R_mono (ok' := fun k_ => some k_ ≠ (v370 : Value).ownBlock ∧ some k_ ≠ (v377 : Value).ownBlock) (Kd.R_keptB ((Kd.R_types HO368.out BK359.out (by decide))) hkp (fun k_ hk_ hs_ => Or.elim hs_ (fun hs_ => (hk_.1.2) hs_) (fun e_ => (hk_.2) e_))) (fun k_ hk_ => ⟨hk_.1.1.1, fun e_ => Or.elim (ho1.1 k_ e_.symm) (fun hs_ => hk_.2.1 (.inl hs_)) (fun hn_ => Nat.not_le.2 hk_.2.2 hn_)⟩))
           have n4_ := Goto.m0 (Kd.R_mono (ok' := fun k_ => some k_ ≠ (v367 : Value).ownBlock ∧ some k_ ≠ (v377 : Value).ownBlock) (Kd.R_keptB ((Kd.R_types HO371.out BK359.out (by decide))) hkp (fun k_ hk_ hs_ => Or.elim hs_ (fun hs_ => (hk_.1.2) hs_) (fun e_ => (hk_.2) e_))) (fun k_ hk_ => ⟨hk_.1.1.1, fun e_ => Or.elim (ho1.1 k_ e_.symm) (fun hs_ => hk_.2.1 (.inl hs_)) (fun hn_ => Nat.not_le.2 hk_.2.2 hn_)⟩))
           have n5_ := Goto.m0 (Kd.V_mono (ok' := fun k_ => some k_ ≠ (v377 : Value).ownBlock ∧ some k_ ≠ (v367 : Value).ownBlock ∧ some k_ ≠ (v370 : Value).ownBlock ∧ k_ ≠ gb349 ∧ k_ ≠ gb353 ∧ k_ ≠ gb359) ho0 (fun k_ hk_ => ⟨hk_.2, Or.elim hk_.1 (fun hs_ => Or.elim hs_ (fun hs_ => fun e_ => ((((Kd.R_types HO368.out BK359.out (by decide))).1 k_ e_.symm).1.2) hs_) (fun hs_ => fun e_ => Nat.not_le.2 hs_ (Kd.R_base HO368.out k_ e_.symm))) (fun hn_ => (Kd.fresh' (Kd.R_lt (Goto.rk HO368)) k_ hn_)), Or.elim hk_.1 (fun hs_ => Or.elim hs_ (fun hs_ => fun e_ => ((((Kd.R_types HO371.out BK359.out (by decide))).1 k_ e_.symm).1.2) hs_) (fun hs_ => fun e_ => Nat.not_le.2 hs_ (Kd.R_base HO371.out k_ e_.symm))) (fun hn_ => (Kd.fresh' (Kd.R_lt (Goto.rk HO371)) k_ hn_)), Or.elim hk_.1 (fun hs_ => Or.elim hs_ (fun hs_ => fun e_ => (Kd.R_ne HO_360004.out BK349.out (by decide)) (by rw [← e_]; exact hs_)) (fun hs_ => fun e_ => Nat.not_le.2 hs_ (by rw [e_]; exact GW349.out))) (fun hn_ => (Kd.freshB (g := gb349) (o := .cells #[.int .i64 a0_0, .int .i64 a0_1, .slice A0_2 l0_2.length c0_2, .slice A0_3 l0_3.length c0_3] 25 (0, 0)) (Goto.bx BK349) k_ hn_)), Or.elim hk_.1 (fun hs_ => Or.elim hs_ (fun hs_ => fun e_ => (Kd.R_ne HO_360004.out BK353.out (by decide)) (by rw [← e_]; exact hs_)) (fun hs_ => fun e_ => Nat.not_le.2 hs_ (by rw [e_]; exact GW353.out))) (fun hn_ => (Kd.freshB (g := gb353) (o := .cells #[.int .i64 t354, .int .i64 t355, .slice A0_2 l0_2.length c0_2, .slice A0_3 l0_3.length c0_3, v370] 74 (0, 0)) (Goto.bx BK353) k_ hn_)), Or.elim hk_.1 (fun hs_ => Or.elim hs_ (fun hs_ => fun e_ => (Kd.R_ne HO_360004.out BK359.out (by decide)) (by rw [← e_]; exact hs_)) (fun hs_ => fun e_ => Nat.not_le.2 hs_ (by rw [e_]; exact GW359.out))) (fun hn_ => (Kd.freshB (g := gb359) (o := .cells #[.int .i64 t360, .int .i64 t361, .slice A0_2 l0_2.length c0_2, .slice A0_3 l0_3.length c0_3, u360004] 76 (0, 0)) (Goto.bx BK359) k_ hn_))⟩))
           have n6_ := Goto.m0 (Kd.R_mono (ok' := fun k_ => some k_ ≠ (v367 : Value).ownBlock ∧ some k_ ≠ (v370 : Value).ownBlock) ho1 (fun k_ hk_ => ⟨Or.elim hk_ (fun hs_ => fun e_ => ((((Kd.R_types HO368.out BK359.out (by decide))).1 k_ e_.symm).1.2) hs_) (fun hn_ => (Kd.fresh' (Kd.R_lt (Goto.rk HO368)) k_ hn_)), Or.elim hk_ (fun hs_ => fun e_ => ((((Kd.R_types HO371.out BK359.out (by decide))).1 k_ e_.symm).1.2) hs_) (fun hn_ => (Kd.fresh' (Kd.R_lt (Goto.rk HO371)) k_ hn_))⟩))
           have n7_ := Goto.m0 (hb)
           clear BK349; clear BK353; clear BK359; clear HO368; clear HO371; clear HB; clear HO_360004; have BK349 := n0_; have BK353 := n1_; have BK359 := n2_; have HO368 := n3_; have HO371 := n4_; have HO375 := n5_; have HO378 := n6_; have HB := n7_; clear n0_ n1_ n2_ n3_ n4_ n5_ n6_ n7_
           (try clear hb)
           (try clear hkp)
           (try clear ho0)
           (try clear ho1)
           obtain ⟨Ao53, co53, eo53⟩ := Kd.R_slice HO368.out
           (first | subst eo53 | (injection eo53 with f1_ f2_ f3_; have f4_ := f1_.symm; have f5_ := f3_.symm; clear f1_ f2_ f3_; subst f4_; subst f5_))
           obtain ⟨Ao54, co54, eo54⟩ := Kd.V_slice HO375.out
           (first | subst eo54 | (injection eo54 with f1_ f2_ f3_; have f4_ := f1_.symm; have f5_ := f3_.symm; clear f1_ f2_ f3_; subst f4_; subst f5_))
           refine hK.out _ _ ⟨(Goto.kc HB.out hw365_0), (Goto.kc HB.out hw372_0), (Goto.kc HB.out hw380_0), (Goto.kc HB.out hw387_0)⟩ (fun hHeld => ?_)
           clear hK K
           refine norm_ (a' := ?_) ?_ ?_
           rotate_left
           ·
            show Act.put _ (some 58) _ = _
            exact Goto.ap
           refine one_ (i := 12) (N := some 59) (Goto.bs 30 8191) rfl rfl (one_of HT_.out (by kernel_rfl)) (by decide) (fun K hK => ?_)
           refine goes_ Try.func17 (by kernel_rfl) rfl #[.slice Ao53 t366.length co53, .slice Ao54 t373.length co54] (by rfl) rfl rfl (by (try simp only [List.map_toArray, List.map_cons, List.map_nil]); first | done | rfl | (simp only [List.length_drop, List.length_take]; rfl)) ?_
           with_reducible refine (tontineref1_SameInts.calls k2 _ _ t366 _ _ t373 true _ ?side1 ?side2 ?side3 ?side4 A45.out).mono ?_
           (case side1 => repeat (first | exact (Kd.R_reads' HO368.out).2.2 | (with_reducible refine Kd.C_alloc ?_ _) | (with_reducible refine Kd.C_drewN ?_ _) | (with_reducible refine Kd.C_drew ?_)))
           (case side2 => exact (Kd.R_reads' HO368.out).2.1)
           (case side3 => repeat (first | exact (Kd.V_reads' HO375.out).2.2 | (with_reducible refine Kd.C_alloc ?_ _) | (with_reducible refine Kd.C_drewN ?_ _) | (with_reducible refine Kd.C_drew ?_)))
           (case side4 => exact (Kd.V_reads' HO375.out).2.1)
           rintro e w' ⟨rfl, ⟨nd, rfl⟩⟩
           refine ⟨_, rfl, ?_⟩
           refine hK.out _ _ ⟨(Goto.kc HB.out hw365_0), (Goto.kc HB.out hw372_0), (Goto.kc HB.out hw380_0), (Goto.kc HB.out hw387_0)⟩ (fun hHeld => ?_)
           clear hK K
           refine norm_ (a' := ?_) ?_ ?_
           rotate_left
           ·
            show Act.put _ (some 59) _ = _
            exact Goto.ap
           refine Goto.pu 13 60 30 16383 ?_
           refine Goto.pu 14 61 30 32767 ?_
           refine Goto.pu 15 62 30 65535 ?_
           refine Goto.pu 16 63 30 131071 ?_
           refine Goto.pu 17 64 30 262143 ?_
           refine Goto.pu 18 65 30 524287 ?_
           refine Goto.pu 21 68 30 2621439 ?_
           refine Goto.pu 22 69 30 6815743 ?_
           refine Goto.pu 23 70 30 15204351 ?_
           refine Goto.pu 24 71 30 31981567 ?_
           refine take_ (i := 19) (N := some 66) (v := ?_) (a' := ?_) (Goto.bs 30 32505855) rfl rfl (take_ofW HT_.out HW_.out (by kernel_rfl)) (fun _ _ _ h => h) (Or.inl ⟨by rfl, ?_⟩) hHeld ?_ ?_
           rotate_left
           ·
            rintro w' ⟨s0, s1, s2, s3⟩
            go_simp
            with_reducible rfl
           rotate_left
           ·
            exact Goto.ap
           refine take_ (i := 25) (N := some 72) (v := ?_) (a' := ?_) (Goto.bs 30 66060287) rfl rfl (take_ofW HT_.out HW_.out (by kernel_rfl)) (fun _ _ _ h => h) (Or.inl ⟨by rfl, ?_⟩) hHeld ?_ ?_
           rotate_left
           ·
            rintro w' ⟨s0, s1, s2, s3⟩
            go_simp
            with_reducible rfl
           rotate_left
           ·
            exact Goto.ap
           refine one_ (i := 20) (N := some 67) (Goto.bs 30 67108863) rfl rfl (one_of HT_.out (by kernel_rfl)) (by decide) (fun K hK => ?_)
           refine goes_ Try.func20 (by kernel_rfl) rfl #[.pointer (some ⟨gb353, 0, none⟩), .int .i64 (rd l1 x11_2)] (by rfl) rfl rfl (by (try simp only [List.map_toArray, List.map_cons, List.map_nil]); first | done | rfl | (simp only [List.length_drop, List.length_take]; rfl)) ?_
           with_reducible refine (route_Routes_Offer.calls gb353 t354 t355 A0_2 c0_2 l0_2 A0_3 c0_3 l0_3 (fun k_ => some k_ = (v370 : Value).ownBlock) v370 t369 (rd l1 x11_2) t381 t384 w _ ?side1 ?side2 ?side3 ?side4 ?side5 ?side6 ?side7 ?side8 A47.out).mono ?_
           (case side1 => exact by (with_reducible repeat first | refine blk_drewN ?_ _ | refine blk_drew ?_ | refine blk_alloc ?_ _); exact BK353.out)
           (case side2 => exact GE353.out)
           (case side3 => repeat (first | (with_reducible first | exact HB.out | apply below_alloc | apply pw_below_drewN | apply below_drew1 | refine below_set ?_ GE349.out | refine below_set ?_ GE353.out | refine below_set ?_ GE359.out) | exact HB.out))
           (case side4 => exact Kd.C_kept_came (Kd.heap_slice 3 (Kd.heap_int .i64)) HR0_2.out (Goto.hx HB) (fun k_ hs_ => Or.elim hs_ (fun hs_ => (fun e_ => Kd.R_base HO371.out k_ e_.symm) hs_) (fun e_ => (by rw [e_]; exact GE353.out))))
           (case side5 => exact HC0_2.out)
           (case side6 => exact Kd.C_kept_came k44_heap HR0_3.out (Goto.hx HB) (fun k_ hs_ => Or.elim hs_ (fun hs_ => (fun e_ => Kd.R_base HO371.out k_ e_.symm) hs_) (fun e_ => (by rw [e_]; exact GE353.out))))
           (case side7 => exact HC0_3.out)
           (case side8 => exact Kd.R_tight rfl HO371.out)
           rintro e w55 ⟨v382, v385, rfl, ho0, ho1, hi, hb, hkp⟩
           refine ⟨_, rfl, ?_⟩
           have n0_ := Goto.m0 (blk_kept (Goto.bx BK349) hkp (fun hs_ => Or.elim hs_ (fun hs_ => (fun e_ => (Kd.R_ne HO371.out BK349.out (by decide)) e_) hs_) (fun e_ => NB349_353.out e_)))
           have n1_ := Goto.m0 (hi)
           have n2_ := Goto.m0 (blk_kept (Goto.bx BK359) hkp (fun hs_ => Or.elim hs_ (fun hs_ => (fun e_ => (Kd.R_ne HO371.out BK359.out (by decide)) e_) hs_) (fun e_ => NB359_353.out e_)))
           have n3_ := Goto.m0 (Kd.R_mono (ok' := fun k_ => some k_ ≠ (v377 : Value).ownBlock ∧ some k_ ≠ (v382 : Value).ownBlock ∧ some k_ ≠ (v385 : Value).ownBlock) (Kd.R_keptB ((Kd.R_types HO368.out BK353.out (by decide))) hkp (fun k_ hk_ hs_ => Or.elim hs_ (fun hs_ => (hk_.1.1) hs_) (fun e_ => (hk_.2) e_))) (fun k_ hk_ => ⟨hk_.1.1.2, fun e_ => Or.elim (ho0.1 k_ e_.symm).1 (fun hs_ => hk_.2.1 (.inl hs_)) (fun hn_ => Nat.not_le.2 hk_.2.2 hn_), fun e_ => Or.elim (ho1.1 k_ e_.symm).1 (fun hs_ => hk_.2.1 (.inl hs_)) (fun hn_ => Nat.not_le.2 hk_.2.2 hn_)⟩))
           have n4_ := Goto.m0 (Kd.V_mono (ok' := fun k_ => some k_ ≠ (.slice Ao53 t366.length co53 : Value).ownBlock ∧ some k_ ≠ (v377 : Value).ownBlock ∧ k_ ≠ gb349 ∧ k_ ≠ gb353 ∧ k_ ≠ gb359 ∧ some k_ ≠ (v382 : Value).ownBlock ∧ some k_ ≠ (v385 : Value).ownBlock) (Kd.V_keptB (HO375.out) hkp (fun k_ hk_ hs_ => Or.elim hs_ (fun hs_ => (hk_.2.2.1) hs_) (fun e_ => (hk_.2.2.2.2.1) e_))) (fun k_ hk_ => ⟨hk_.1.2.1, hk_.1.1, hk_.1.2.2.2.1, hk_.1.2.2.2.2.1, hk_.1.2.2.2.2.2, fun e_ => Or.elim (ho0.1 k_ e_.symm).1 (fun hs_ => hk_.2.1 (.inl hs_)) (fun hn_ => Nat.not_le.2 hk_.2.2 hn_), fun e_ => Or.elim (ho1.1 k_ e_.symm).1 (fun hs_ => hk_.2.1 (.inl hs_)) (fun hn_ => Nat.not_le.2 hk_.2.2 hn_)⟩))
           have n5_ := Goto.m0 (Kd.R_mono (ok' := fun k_ => some k_ ≠ (.slice Ao53 t366.length co53 : Value).ownBlock ∧ some k_ ≠ (v382 : Value).ownBlock ∧ some k_ ≠ (v385 : Value).ownBlock) (Kd.R_keptB ((Kd.R_types HO378.out BK353.out (by decide))) hkp (fun k_ hk_ hs_ => Or.elim hs_ (fun hs_ => (hk_.1.2) hs_) (fun e_ => (hk_.2) e_))) (fun k_ hk_ => ⟨hk_.1.1.1, fun e_ => Or.elim (ho0.1 k_ e_.symm).1 (fun hs_ => hk_.2.1 (.inl hs_)) (fun hn_ => Nat.not_le.2 hk_.2.2 hn_), fun e_ => Or.elim (ho1.1 k_ e_.symm).1 (fun hs_ => hk_.2.1 (.inl hs_)) (fun hn_ => Nat.not_le.2 hk_.2.2 hn_)⟩))
           have n6_ := Goto.m0 (Kd.R_mono (ok' := fun k_ => some k_ ≠ (v385 : Value).ownBlock ∧ some k_ ≠ (.slice Ao53 t366.length co53 : Value).ownBlock ∧ some k_ ≠ (v377 : Value).ownBlock) ho0 (fun k_ hk_ => ⟨hk_.2, Or.elim hk_.1 (fun hs_ => fun e_ => ((((Kd.R_types HO368.out BK353.out (by decide))).1 k_ e_.symm).1.1) hs_) (fun hn_ => (Kd.fresh' (Kd.R_lt (Goto.rk HO368)) k_ hn_)), Or.elim hk_.1 (fun hs_ => fun e_ => ((((Kd.R_types HO378.out BK353.out (by decide))).1 k_ e_.symm).1.2) hs_) (fun hn_ => (Kd.fresh' (Kd.R_lt (Goto.rk HO378)) k_ hn_))⟩))
           have n7_ := Goto.m0 (Kd.R_mono (ok' := fun k_ => some k_ ≠ (v382 : Value).ownBlock ∧ some k_ ≠ (.slice Ao53 t366.length co53 : Value).ownBlock ∧ some k_ ≠ (v377 : Value).ownBlock) ho1 (fun k_ hk_ => ⟨hk_.2, Or.elim hk_.1 (fun hs_ => fun e_ => ((((Kd.R_types HO368.out BK353.out (by decide))).1 k_ e_.symm).1.1) hs_) (fun hn_ => (Kd.fresh' (Kd.R_lt (Goto.rk HO368)) k_ hn_)), Or.elim hk_.1 (fun hs_ => fun e_ => ((((Kd.R_types HO378.out BK353.out (by decide))).1 k_ e_.symm).1.2) hs_) (fun hn_ => (Kd.fresh' (Kd.R_lt (Goto.rk HO378)) k_ hn_))⟩))
           have n8_ := Goto.m0 (hb)
           clear BK349; clear BK353; clear BK359; clear HO368; clear HO375; clear HO378; clear HB; clear HO371; have BK349 := n0_; have BK353 := n1_; have BK359 := n2_; have HO368 := n3_; have HO375 := n4_; have HO378 := n5_; have HO383 := n6_; have HO386 := n7_; have HB := n8_; clear n0_ n1_ n2_ n3_ n4_ n5_ n6_ n7_ n8_
           (try clear hb)
           (try clear hkp)
           (try clear ho0)
           (try clear ho1)
           refine hK.out _ _ ⟨(Goto.kc HB.out hw365_0), (Goto.kc HB.out hw372_0), (Goto.kc HB.out hw380_0), (Goto.kc HB.out hw387_0)⟩ (fun hHeld => ?_)
           clear hK K
           refine norm_ (a' := ?_) ?_ ?_
           rotate_left
           ·
            show Act.put _ (some 67) _ = _
            exact Goto.ap
           refine one_ (i := 26) (N := some 73) (Goto.bs 30 134217727) rfl rfl (one_of HT_.out (by kernel_rfl)) (by decide) (fun K hK => ?_)
           refine goes_ Try.func21 (by kernel_rfl) rfl #[.pointer (some ⟨gb359, 0, none⟩), .int .i64 (rd l1 x11_2)] (by rfl) rfl rfl (by (try simp only [List.map_toArray, List.map_cons, List.map_nil]); first | done | rfl | (simp only [List.length_drop, List.length_take]; rfl)) ?_
           with_reducible refine (tontineref15_Routes_Offer.calls k2 gb359 t360 t361 A0_2 c0_2 l0_2 (fun k_ => k_ < w.heap.size) A0_3 c0_3 l0_3 (fun k_ => some k_ = (v377 : Value).ownBlock) v377 t376 (rd l1 x11_2) t388 t391 w _ ?side1 ?side2 ?side3 ?side4 ?side5 ?side6 ?side7 A48.out).mono ?_
           (case side1 => exact by (with_reducible repeat first | refine blk_drewN ?_ _ | refine blk_drew ?_ | refine blk_alloc ?_ _); exact BK359.out)
           (case side2 => exact GE359.out)
           (case side3 => repeat (first | (with_reducible first | exact HB.out | apply below_alloc | apply pw_below_drewN | apply below_drew1 | refine below_set ?_ GE349.out | refine below_set ?_ GE353.out | refine below_set ?_ GE359.out) | exact HB.out))
           (case side4 => exact Kd.C_kept_came (Kd.heap_slice 3 (Kd.heap_int .i64)) HR0_2.out (Goto.hx HB) (fun k_ hs_ => Or.elim hs_ (fun hs_ => (fun e_ => Kd.R_base HO378.out k_ e_.symm) hs_) (fun e_ => (by rw [e_]; exact GE359.out))))
           (case side5 => exact HC0_2.out)
           (case side6 => exact Kd.V_mono (Kd.V_mk HC0_3.out (Kd.F_below (Kd.C_F k44_heap HR0_3.out) (Goto.hx HB))) (fun k_ hk_ => ⟨hk_, fun e_ => Nat.not_le.2 hk_ (Kd.R_base HO378.out k_ e_.symm), fun e_ => Nat.not_le.2 hk_ (by rw [e_]; exact GW359.out)⟩))
           (case side7 => exact Kd.R_tight rfl HO378.out)
           rintro e w56 ⟨v389, v392, rfl, ho0, ho1, hi, hb, hkp⟩
           refine ⟨_, rfl, ?_⟩
           have n0_ := Goto.m0 (blk_kept (Goto.bx BK349) hkp (fun hs_ => Or.elim hs_ (fun hs_ => (fun e_ => (Kd.R_ne HO378.out BK349.out (by decide)) e_) hs_) (fun e_ => NB349_359.out e_)))
           have n1_ := Goto.m0 (blk_kept (Goto.bx BK353) hkp (fun hs_ => Or.elim hs_ (fun hs_ => (fun e_ => (Kd.R_ne HO378.out BK353.out (by decide)) e_) hs_) (fun e_ => NB353_359.out e_)))
           have n2_ := Goto.m0 (hi)
           have n3_ := Goto.m0 (Kd.R_mono (ok' := fun k_ => some k_ ≠ (v382 : Value).ownBlock ∧ some k_ ≠ (v385 : Value).ownBlock ∧ some k_ ≠ (v392 : Value).ownBlock) (Kd.R_keptB ((Kd.R_types HO368.out BK359.out (by decide))) hkp (fun k_ hk_ hs_ => Or.elim hs_ (fun hs_ => (hk_.1.1) hs_) (fun e_ => (hk_.2) e_))) (fun k_ hk_ => ⟨hk_.1.1.2.1, hk_.1.1.2.2, fun e_ => Or.elim (ho1.1 k_ e_.symm) (fun hs_ => hk_.2.1 (.inl hs_)) (fun hn_ => Nat.not_le.2 hk_.2.2 hn_)⟩))
           have n4_ := Goto.m0 (Kd.V_mono (ok' := fun k_ => some k_ ≠ (.slice Ao53 t366.length co53 : Value).ownBlock ∧ some k_ ≠ (v382 : Value).ownBlock ∧ some k_ ≠ (v385 : Value).ownBlock ∧ k_ ≠ gb349 ∧ k_ ≠ gb353 ∧ k_ ≠ gb359 ∧ some k_ ≠ (v392 : Value).ownBlock) (Kd.V_keptB (HO375.out) hkp (fun k_ hk_ hs_ => Or.elim hs_ (fun hs_ => (hk_.2.1) hs_) (fun e_ => (hk_.2.2.2.2.1) e_))) (fun k_ hk_ => ⟨hk_.1.1, hk_.1.2.2.2.2.2.1, hk_.1.2.2.2.2.2.2, hk_.1.2.2.1, hk_.1.2.2.2.1, hk_.1.2.2.2.2.1, fun e_ => Or.elim (ho1.1 k_ e_.symm) (fun hs_ => hk_.2.1 (.inl hs_)) (fun hn_ => Nat.not_le.2 hk_.2.2 hn_)⟩))
           have n5_ := Goto.m0 (Kd.R_mono (ok' := fun k_ => some k_ ≠ (.slice Ao53 t366.length co53 : Value).ownBlock ∧ some k_ ≠ (v385 : Value).ownBlock ∧ some k_ ≠ (v392 : Value).ownBlock) (Kd.R_keptB ((Kd.R_types HO383.out BK359.out (by decide))) hkp (fun k_ hk_ hs_ => Or.elim hs_ (fun hs_ => (hk_.1.2.2) hs_) (fun e_ => (hk_.2) e_))) (fun k_ hk_ => ⟨hk_.1.1.2.1, hk_.1.1.1, fun e_ => Or.elim (ho1.1 k_ e_.symm) (fun hs_ => hk_.2.1 (.inl hs_)) (fun hn_ => Nat.not_le.2 hk_.2.2 hn_)⟩))
           have n6_ := Goto.m0 (Kd.R_mono (ok' := fun k_ => some k_ ≠ (.slice Ao53 t366.length co53 : Value).ownBlock ∧ some k_ ≠ (v382 : Value).ownBlock ∧ some k_ ≠ (v392 : Value).ownBlock) (Kd.R_keptB ((Kd.R_types HO386.out BK359.out (by decide))) hkp (fun k_ hk_ hs_ => Or.elim hs_ (fun hs_ => (hk_.1.2.2) hs_) (fun e_ => (hk_.2) e_))) (fun k_ hk_ => ⟨hk_.1.1.2.1, hk_.1.1.1, fun e_ => Or.elim (ho1.1 k_ e_.symm) (fun hs_ => hk_.2.1 (.inl hs_)) (fun hn_ => Nat.not_le.2 hk_.2.2 hn_)⟩))
           have n7_ := Goto.m0 (Kd.V_mono (ok' := fun k_ => some k_ ≠ (v392 : Value).ownBlock ∧ some k_ ≠ (.slice Ao53 t366.length co53 : Value).ownBlock ∧ some k_ ≠ (v382 : Value).ownBlock ∧ some k_ ≠ (v385 : Value).ownBlock ∧ k_ ≠ gb349 ∧ k_ ≠ gb353 ∧ k_ ≠ gb359) ho0 (fun k_ hk_ => ⟨hk_.2, Or.elim hk_.1 (fun hs_ => Or.elim hs_ (fun hs_ => fun e_ => ((((Kd.R_types HO368.out BK359.out (by decide))).1 k_ e_.symm).1.1) hs_) (fun hs_ => fun e_ => Nat.not_le.2 hs_ (Kd.R_base HO368.out k_ e_.symm))) (fun hn_ => (Kd.fresh' (Kd.R_lt (Goto.rk HO368)) k_ hn_)), Or.elim hk_.1 (fun hs_ => Or.elim hs_ (fun hs_ => fun e_ => ((((Kd.R_types HO383.out BK359.out (by decide))).1 k_ e_.symm).1.2.2) hs_) (fun hs_ => fun e_ => Nat.not_le.2 hs_ (Kd.R_base HO383.out k_ e_.symm))) (fun hn_ => (Kd.fresh' (Kd.R_lt (Goto.rk HO383)) k_ hn_)), Or.elim hk_.1 (fun hs_ => Or.elim hs_ (fun hs_ => fun e_ => ((((Kd.R_types HO386.out BK359.out (by decide))).1 k_ e_.symm).1.2.2) hs_) (fun hs_ => fun e_ => Nat.not_le.2 hs_ (Kd.R_base HO386.out k_ e_.symm))) (fun hn_ => (Kd.fresh' (Kd.R_lt (Goto.rk HO386)) k_ hn_)), Or.elim hk_.1 (fun hs_ => Or.elim hs_ (fun hs_ => fun e_ => (Kd.R_ne HO378.out BK349.out (by decide)) (by rw [← e_]; exact hs_)) (fun hs_ => fun e_ => Nat.not_le.2 hs_ (by rw [e_]; exact GW349.out))) (fun hn_ => (Kd.freshB (g := gb349) (o := .cells #[.int .i64 a0_0, .int .i64 a0_1, .slice A0_2 l0_2.length c0_2, .slice A0_3 l0_3.length c0_3] 25 (0, 0)) (Goto.bx BK349) k_ hn_)), Or.elim hk_.1 (fun hs_ => Or.elim hs_ (fun hs_ => fun e_ => (Kd.R_ne HO378.out BK353.out (by decide)) (by rw [← e_]; exact hs_)) (fun hs_ => fun e_ => Nat.not_le.2 hs_ (by rw [e_]; exact GW353.out))) (fun hn_ => (Kd.freshB (g := gb353) (o := .cells #[.int .i64 t354, .int .i64 t355, .slice A0_2 l0_2.length c0_2, .slice A0_3 l0_3.length c0_3, v385] 74 (0, 0)) (Goto.bx BK353) k_ hn_)), Or.elim hk_.1 (fun hs_ => Or.elim hs_ (fun hs_ => fun e_ => (Kd.R_ne HO378.out BK359.out (by decide)) (by rw [← e_]; exact hs_)) (fun hs_ => fun e_ => Nat.not_le.2 hs_ (by rw [e_]; exact GW359.out))) (fun hn_ => (Kd.freshB (g := gb359) (o := .cells #[.int .i64 t360, .int .i64 t361, .slice A0_2 l0_2.length c0_2, .slice A0_3 l0_3.length c0_3, v377] 76 (0, 0)) (Goto.bx BK359) k_ hn_))⟩))
           have n8_ := Goto.m0 (Kd.R_mono (ok' := fun k_ => some k_ ≠ (.slice Ao53 t366.length co53 : Value).ownBlock ∧ some k_ ≠ (v382 : Value).ownBlock ∧ some k_ ≠ (v385 : Value).ownBlock) ho1 (fun k_ hk_ => ⟨Or.elim hk_ (fun hs_ => fun e_ => ((((Kd.R_types HO368.out BK359.out (by decide))).1 k_ e_.symm).1.1) hs_) (fun hn_ => (Kd.fresh' (Kd.R_lt (Goto.rk HO368)) k_ hn_)), Or.elim hk_ (fun hs_ => fun e_ => ((((Kd.R_types HO383.out BK359.out (by decide))).1 k_ e_.symm).1.2.2) hs_) (fun hn_ => (Kd.fresh' (Kd.R_lt (Goto.rk HO383)) k_ hn_)), Or.elim hk_ (fun hs_ => fun e_ => ((((Kd.R_types HO386.out BK359.out (by decide))).1 k_ e_.symm).1.2.2) hs_) (fun hn_ => (Kd.fresh' (Kd.R_lt (Goto.rk HO386)) k_ hn_))⟩))
           have n9_ := Goto.m0 (hb)
           clear BK349; clear BK353; clear BK359; clear HO368; clear HO375; clear HO383; clear HO386; clear HB; clear HO378; have BK349 := n0_; have BK353 := n1_; have BK359 := n2_; have HO368 := n3_; have HO375 := n4_; have HO383 := n5_; have HO386 := n6_; have HO390 := n7_; have HO393 := n8_; have HB := n9_; clear n0_ n1_ n2_ n3_ n4_ n5_ n6_ n7_ n8_ n9_
           (try clear hb)
           (try clear hkp)
           (try clear ho0)
           (try clear ho1)
           obtain ⟨Ao57, co57, eo57⟩ := Kd.R_slice HO383.out
           (first | subst eo57 | (injection eo57 with f1_ f2_ f3_; have f4_ := f1_.symm; have f5_ := f3_.symm; clear f1_ f2_ f3_; subst f4_; subst f5_))
           obtain ⟨Ao58, co58, eo58⟩ := Kd.V_slice HO390.out
           (first | subst eo58 | (injection eo58 with f1_ f2_ f3_; have f4_ := f1_.symm; have f5_ := f3_.symm; clear f1_ f2_ f3_; subst f4_; subst f5_))
           refine hK.out _ _ ⟨(Goto.kc HB.out hw365_0), (Goto.kc HB.out hw372_0), (Goto.kc HB.out hw380_0), (Goto.kc HB.out hw387_0)⟩ (fun hHeld => ?_)
           clear hK K
           refine norm_ (a' := ?_) ?_ ?_
           rotate_left
           ·
            show Act.put _ (some 73) _ = _
            exact Goto.ap
           refine one_ (i := 27) (N := some 74) (Goto.bs 30 268435455) rfl rfl (one_of HT_.out (by kernel_rfl)) (by decide) (fun K hK => ?_)
           refine goes_ Try.func17 (by kernel_rfl) rfl #[.slice Ao57 t381.length co57, .slice Ao58 t388.length co58] (by rfl) rfl rfl (by (try simp only [List.map_toArray, List.map_cons, List.map_nil]); first | done | rfl | (simp only [List.length_drop, List.length_take]; rfl)) ?_
           with_reducible refine (tontineref1_SameInts.calls k2 _ _ t381 _ _ t388 t394 _ ?side1 ?side2 ?side3 ?side4 A49.out).mono ?_
           (case side1 => repeat (first | exact (Kd.R_reads' HO383.out).2.2 | (with_reducible refine Kd.C_alloc ?_ _) | (with_reducible refine Kd.C_drewN ?_ _) | (with_reducible refine Kd.C_drew ?_)))
           (case side2 => exact (Kd.R_reads' HO383.out).2.1)
           (case side3 => repeat (first | exact (Kd.V_reads' HO390.out).2.2 | (with_reducible refine Kd.C_alloc ?_ _) | (with_reducible refine Kd.C_drewN ?_ _) | (with_reducible refine Kd.C_drew ?_)))
           (case side4 => exact (Kd.V_reads' HO390.out).2.1)
           rintro e w' ⟨rfl, ⟨nd, rfl⟩⟩
           refine ⟨_, rfl, ?_⟩
           refine hK.out _ _ ⟨(Goto.kc HB.out hw365_0), (Goto.kc HB.out hw372_0), (Goto.kc HB.out hw380_0), (Goto.kc HB.out hw387_0)⟩ (fun hHeld => ?_)
           clear hK K
           refine norm_ (a' := ?_) ?_ ?_
           rotate_left
           ·
            show Act.put _ (some 74) _ = _
            exact Goto.ap
           refine Goto.pu 28 75 30 536870911 ?_
           refine Goto.pu 29 76 30 1073741823 ?_
           refine done_ (done_of HT_.out (by kernel_rfl)) ?_
           try go_wp2
           go_meet
           case rel => exact ⟨_, (!t394), (t384), (t391), (v385), (v392), (by first | rfl | (simp; done) | (simp [*]; done)), H', ⟨by have := HJ6.out; have := HK2.out; first | omega | exact Nat.le_refl _⟩, ⟨by (with_reducible repeat (first | apply Kd.R_alloc | apply Kd.R_drewN | apply Kd.R_drew)); exact Kd.R_mono HO386.out (fun _ hk => hk.2.2)⟩, ⟨by (with_reducible repeat (first | apply Kd.R_alloc | apply Kd.R_drewN | apply Kd.R_drew)); exact Kd.R_mono HO393.out (fun _ hk => hk.2.2)⟩, ⟨Goto.bx BK349⟩, ⟨Goto.bx BK353⟩, ⟨Goto.bx BK359⟩, ⟨Goto.hx HB⟩⟩
          ·
           replace c46 := Bool.eq_false_iff.mpr c46
           subst c46
           rw [if_neg (show ¬ (false = true) by decide)] at H
           have H' := Goto.m0 H
           clear H
           try go_wp2
           replace HO_354004 := Goto.m0 (Kd.R_drew HO_354004.out); replace HO_360004 := Goto.m0 (Kd.R_drew HO_360004.out); replace BK349 := Goto.m0 (blk_drew BK349.out); replace BK353 := Goto.m0 (blk_drew BK353.out); replace BK359 := Goto.m0 (blk_drew BK359.out); replace HB := Goto.m0 (below_drew1 HB.out)
           have p365 : 0 ≤ (x11_2 : Int) := Goto.od
           have q365 : x11_2 < (l1.length : Int) := Goto.od
           obtain ⟨ad365, e365, hx365_0⟩ := Kd.at_int HR1.out x11_2 p365 q365
           have hw365_0 := hx365_0
           cases e365
           replace hx365_0 := Goto.kc HB.out hx365_0
           replace p365 := eq_true p365; replace q365 := eq_true q365
           have p372 : 0 ≤ (x11_2 : Int) := Goto.od
           have q372 : x11_2 < (l1.length : Int) := Goto.od
           obtain ⟨ad372, e372, hx372_0⟩ := Kd.at_int HR1.out x11_2 p372 q372
           have hw372_0 := hx372_0
           obtain rfl : ad365 = ad372 := (by injection e372)
           replace hx372_0 := Goto.kc HB.out hx372_0
           replace p372 := eq_true p372; replace q372 := eq_true q372
           refine start_ (n := 30) (S := fun w' => w'.cell? (ad365.add (x11_2).toNat) = some (.int .i64 (rd l1 x11_2)) ∧ w'.cell? (ad365.add (x11_2).toNat) = some (.int .i64 (rd l1 x11_2))) (ds := []) (.replicate 30 false) (by kernel_rfl) rfl rfl ⟨(Goto.kc HB.out hw365_0), (Goto.kc HB.out hw372_0)⟩ (fun hHeld => ?_); refine with_tabW tontinelaw16_RoutePlays.tab9 tontinelaw16_RoutePlays.bits9 (fun HT_ HW_ => ?_)
           generalize wr.drew = w59 at HO_354004 HO_360004 BK349 BK353 BK359 HB hx365_0 hx372_0 hHeld ⊢
           refine Goto.pu 0 47 30 1 ?_
           refine Goto.pu 1 48 30 3 ?_
           refine Goto.pu 2 49 30 7 ?_
           refine Goto.pu 3 50 30 15 ?_
           refine Goto.pu 6 53 30 79 ?_
           refine Goto.pu 7 54 30 207 ?_
           refine Goto.pu 8 55 30 463 ?_
           refine Goto.pu 9 56 30 975 ?_
           refine take_ (i := 4) (N := some 51) (v := ?_) (a' := ?_) (Goto.bs 30 991) rfl rfl (take_ofW HT_.out HW_.out (by kernel_rfl)) (fun _ _ _ h => h) (Or.inl ⟨by rfl, ?_⟩) hHeld ?_ ?_
           rotate_left
           ·
            rintro w' ⟨s0, s1⟩
            go_simp
            with_reducible rfl
           rotate_left
           ·
            exact Goto.ap
           refine take_ (i := 10) (N := some 57) (v := ?_) (a' := ?_) (Goto.bs 30 2015) rfl rfl (take_ofW HT_.out HW_.out (by kernel_rfl)) (fun _ _ _ h => h) (Or.inl ⟨by rfl, ?_⟩) hHeld ?_ ?_
           rotate_left
           ·
            rintro w' ⟨s0, s1⟩
            go_simp
            with_reducible rfl
           rotate_left
           ·
            exact Goto.ap
           refine one_ (i := 5) (N := some 52) (Goto.bs 30 2047) rfl rfl (one_of HT_.out (by kernel_rfl)) (by decide) (fun K hK => ?_)
           refine goes_ Try.func18 (by kernel_rfl) rfl #[.pointer (some ⟨gb353, 0, none⟩), .int .i64 (rd l1 x11_2)] (by rfl) rfl rfl (by (try simp only [List.map_toArray, List.map_cons, List.map_nil]); first | done | rfl | (simp only [List.length_drop, List.length_take]; rfl)) ?_
           with_reducible refine (route_Routes_Now.calls gb353 t354 t355 A0_2 c0_2 l0_2 A0_3 c0_3 l0_3 (fun k_ => some k_ = (u354004 : Value).ownBlock) u354004 x354004_2 (rd l1 x11_2) t366 t369 w _ ?side1 ?side2 ?side3 ?side4 ?side5 ?side6 ?side7 ?side8 A43.out).mono ?_
           (case side1 => exact by (with_reducible repeat first | refine blk_drewN ?_ _ | refine blk_drew ?_ | refine blk_alloc ?_ _); exact BK353.out)
           (case side2 => exact GE353.out)
           (case side3 => repeat (first | (with_reducible first | exact HB.out | apply below_alloc | apply pw_below_drewN | apply below_drew1 | refine below_set ?_ GE349.out | refine below_set ?_ GE353.out | refine below_set ?_ GE359.out) | exact HB.out))
           (case side4 => exact Kd.C_kept_came (Kd.heap_slice 3 (Kd.heap_int .i64)) HR0_2.out (Goto.hx HB) (fun k_ hs_ => Or.elim hs_ (fun hs_ => (fun e_ => Kd.R_base HO_354004.out k_ e_.symm) hs_) (fun e_ => (by rw [e_]; exact GE353.out))))
           (case side5 => exact HC0_2.out)
           (case side6 => exact Kd.C_kept_came k44_heap HR0_3.out (Goto.hx HB) (fun k_ hs_ => Or.elim hs_ (fun hs_ => (fun e_ => Kd.R_base HO_354004.out k_ e_.symm) hs_) (fun e_ => (by rw [e_]; exact GE353.out))))
           (case side7 => exact HC0_3.out)
           (case side8 => exact Kd.R_tight rfl HO_354004.out)
           rintro e w60 ⟨v367, v370, rfl, ho0, ho1, hi, hb, hkp⟩
           refine ⟨_, rfl, ?_⟩
           have n0_ := Goto.m0 (Kd.R_mono (ok' := fun k_ => some k_ ≠ (v367 : Value).ownBlock ∧ some k_ ≠ (v370 : Value).ownBlock) (Kd.R_keptB ((Kd.R_types HO_360004.out BK353.out (by decide))) hkp (fun k_ hk_ hs_ => Or.elim hs_ (fun hs_ => (hk_.1) hs_) (fun e_ => (hk_.2) e_))) (fun k_ hk_ => ⟨fun e_ => Or.elim (ho0.1 k_ e_.symm).1 (fun hs_ => hk_.2.1 (.inl hs_)) (fun hn_ => Nat.not_le.2 hk_.2.2 hn_), fun e_ => Or.elim (ho1.1 k_ e_.symm).1 (fun hs_ => hk_.2.1 (.inl hs_)) (fun hn_ => Nat.not_le.2 hk_.2.2 hn_)⟩))
           have n1_ := Goto.m0 (blk_kept (Goto.bx BK349) hkp (fun hs_ => Or.elim hs_ (fun hs_ => (fun e_ => (Kd.R_ne HO_354004.out BK349.out (by decide)) e_) hs_) (fun e_ => NB349_353.out e_)))
           have n2_ := Goto.m0 (hi)
           have n3_ := Goto.m0 (blk_kept (Goto.bx BK359) hkp (fun hs_ => Or.elim hs_ (fun hs_ => (fun e_ => (Kd.R_ne HO_354004.out BK359.out (by decide)) e_) hs_) (fun e_ => NB359_353.out e_)))
           have n4_ := Goto.m0 (Kd.R_mono (ok' := fun k_ => some k_ ≠ (v370 : Value).ownBlock ∧ some k_ ≠ (u360004 : Value).ownBlock) ho0 (fun k_ hk_ => ⟨hk_.2, Or.elim hk_.1 (fun hs_ => fun e_ => ((((Kd.R_types HO_360004.out BK353.out (by decide))).1 k_ e_.symm).1) hs_) (fun hn_ => (Kd.fresh' (Kd.R_lt (Goto.rk HO_360004)) k_ hn_))⟩))
           have n5_ := Goto.m0 (Kd.R_mono (ok' := fun k_ => some k_ ≠ (v367 : Value).ownBlock ∧ some k_ ≠ (u360004 : Value).ownBlock) ho1 (fun k_ hk_ => ⟨hk_.2, Or.elim hk_.1 (fun hs_ => fun e_ => ((((Kd.R_types HO_360004.out BK353.out (by decide))).1 k_ e_.symm).1) hs_) (fun hn_ => (Kd.fresh' (Kd.R_lt (Goto.rk HO_360004)) k_ hn_))⟩))
           have n6_ := Goto.m0 (hb)
           clear HO_360004; clear BK349; clear BK353; clear BK359; clear HB; clear HO_354004; have HO_360004 := n0_; have BK349 := n1_; have BK353 := n2_; have BK359 := n3_; have HO368 := n4_; have HO371 := n5_; have HB := n6_; clear n0_ n1_ n2_ n3_ n4_ n5_ n6_
           (try clear hb)
           (try clear hkp)
           (try clear ho0)
           (try clear ho1)
           refine hK.out _ _ ⟨(Goto.kc HB.out hw365_0), (Goto.kc HB.out hw372_0)⟩ (fun hHeld => ?_)
           clear hK K
           refine norm_ (a' := ?_) ?_ ?_
           rotate_left
           ·
            show Act.put _ (some 52) _ = _
            exact Goto.ap
           refine one_ (i := 11) (N := some 58) (Goto.bs 30 4095) rfl rfl (one_of HT_.out (by kernel_rfl)) (by decide) (fun K hK => ?_)
           refine goes_ Try.func19 (by kernel_rfl) rfl #[.pointer (some ⟨gb359, 0, none⟩), .int .i64 (rd l1 x11_2)] (by rfl) rfl rfl (by (try simp only [List.map_toArray, List.map_cons, List.map_nil]); first | done | rfl | (simp only [List.length_drop, List.length_take]; rfl)) ?_
           with_reducible refine (tontineref15_Routes_Now.calls k2 gb359 t360 t361 A0_2 c0_2 l0_2 (fun k_ => k_ < w.heap.size) A0_3 c0_3 l0_3 (fun k_ => some k_ = (u360004 : Value).ownBlock) u360004 x360004_2 (rd l1 x11_2) t373 t376 w _ ?side1 ?side2 ?side3 ?side4 ?side5 ?side6 ?side7 A44.out).mono ?_
           (case side1 => exact by (with_reducible repeat first | refine blk_drewN ?_ _ | refine blk_drew ?_ | refine blk_alloc ?_ _); exact BK359.out)
           (case side2 => exact GE359.out)
           (case side3 => repeat (first | (with_reducible first | exact HB.out | apply below_alloc | apply pw_below_drewN | apply below_drew1 | refine below_set ?_ GE349.out | refine below_set ?_ GE353.out | refine below_set ?_ GE359.out) | exact HB.out))
           (case side4 => exact Kd.C_kept_came (Kd.heap_slice 3 (Kd.heap_int .i64)) HR0_2.out (Goto.hx HB) (fun k_ hs_ => Or.elim hs_ (fun hs_ => (fun e_ => Kd.R_base HO_360004.out k_ e_.symm) hs_) (fun e_ => (by rw [e_]; exact GE359.out))))
           (case side5 => exact HC0_2.out)
           (case side6 => exact Kd.V_mono (Kd.V_mk HC0_3.out (Kd.F_below (Kd.C_F k44_heap HR0_3.out) (Goto.hx HB))) (fun k_ hk_ => ⟨hk_, fun e_ => Nat.not_le.2 hk_ (Kd.R_base HO_360004.out k_ e_.symm), fun e_ => Nat.not_le.2 hk_ (by rw [e_]; exact GW359.out)⟩))
           (case side7 => exact Kd.R_tight rfl HO_360004.out)
           rintro e w61 ⟨v374, v377, rfl, ho0, ho1, hi, hb, hkp⟩
           refine ⟨_, rfl, ?_⟩
           have n0_ := Goto.m0 (blk_kept (Goto.bx BK349) hkp (fun hs_ => Or.elim hs_ (fun hs_ => (fun e_ => (Kd.R_ne HO_360004.out BK349.out (by decide)) e_) hs_) (fun e_ => NB349_359.out e_)))
           have n1_ := Goto.m0 (blk_kept (Goto.bx BK353) hkp (fun hs_ => Or.elim hs_ (fun hs_ => (fun e_ => (Kd.R_ne HO_360004.out BK353.out (by decide)) e_) hs_) (fun e_ => NB353_359.out e_)))
           have n2_ := Goto.m0 (hi)
           have n3_ := Goto.m0 (Kd.R_mono (ok' := fun k_ => some k_ ≠ (v370 : Value).ownBlock ∧ some k_ ≠ (v377 : Value).ownBlock) (Kd.R_keptB ((Kd.R_types HO368.out BK359.out (by decide))) hkp (fun k_ hk_ hs_ => Or.elim hs_ (fun hs_ => (hk_.1.2) hs_) (fun e_ => (hk_.2) e_))) (fun k_ hk_ => ⟨hk_.1.1.1, fun e_ => Or.elim (ho1.1 k_ e_.symm) (fun hs_ => hk_.2.1 (.inl hs_)) (fun hn_ => Nat.not_le.2 hk_.2.2 hn_)⟩))
           have n4_ := Goto.m0 (Kd.R_mono (ok' := fun k_ => some k_ ≠ (v367 : Value).ownBlock ∧ some k_ ≠ (v377 : Value).ownBlock) (Kd.R_keptB ((Kd.R_types HO371.out BK359.out (by decide))) hkp (fun k_ hk_ hs_ => Or.elim hs_ (fun hs_ => (hk_.1.2) hs_) (fun e_ => (hk_.2) e_))) (fun k_ hk_ => ⟨hk_.1.1.1, fun e_ => Or.elim (ho1.1 k_ e_.symm) (fun hs_ => hk_.2.1 (.inl hs_)) (fun hn_ => Nat.not_le.2 hk_.2.2 hn_)⟩))
           have n5_ := Goto.m0 (Kd.V_mono (ok' := fun k_ => some k_ ≠ (v377 : Value).ownBlock ∧ some k_ ≠ (v367 : Value).ownBlock ∧ some k_ ≠ (v370 : Value).ownBlock ∧ k_ ≠ gb349 ∧ k_ ≠ gb353 ∧ k_ ≠ gb359) ho0 (fun k_ hk_ => ⟨hk_.2, Or.elim hk_.1 (fun hs_ => Or.elim hs_ (fun hs_ => fun e_ => ((((Kd.R_types HO368.out BK359.out (by decide))).1 k_ e_.symm).1.2) hs_) (fun hs_ => fun e_ => Nat.not_le.2 hs_ (Kd.R_base HO368.out k_ e_.symm))) (fun hn_ => (Kd.fresh' (Kd.R_lt (Goto.rk HO368)) k_ hn_)), Or.elim hk_.1 (fun hs_ => Or.elim hs_ (fun hs_ => fun e_ => ((((Kd.R_types HO371.out BK359.out (by decide))).1 k_ e_.symm).1.2) hs_) (fun hs_ => fun e_ => Nat.not_le.2 hs_ (Kd.R_base HO371.out k_ e_.symm))) (fun hn_ => (Kd.fresh' (Kd.R_lt (Goto.rk HO371)) k_ hn_)), Or.elim hk_.1 (fun hs_ => Or.elim hs_ (fun hs_ => fun e_ => (Kd.R_ne HO_360004.out BK349.out (by decide)) (by rw [← e_]; exact hs_)) (fun hs_ => fun e_ => Nat.not_le.2 hs_ (by rw [e_]; exact GW349.out))) (fun hn_ => (Kd.freshB (g := gb349) (o := .cells #[.int .i64 a0_0, .int .i64 a0_1, .slice A0_2 l0_2.length c0_2, .slice A0_3 l0_3.length c0_3] 25 (0, 0)) (Goto.bx BK349) k_ hn_)), Or.elim hk_.1 (fun hs_ => Or.elim hs_ (fun hs_ => fun e_ => (Kd.R_ne HO_360004.out BK353.out (by decide)) (by rw [← e_]; exact hs_)) (fun hs_ => fun e_ => Nat.not_le.2 hs_ (by rw [e_]; exact GW353.out))) (fun hn_ => (Kd.freshB (g := gb353) (o := .cells #[.int .i64 t354, .int .i64 t355, .slice A0_2 l0_2.length c0_2, .slice A0_3 l0_3.length c0_3, v370] 74 (0, 0)) (Goto.bx BK353) k_ hn_)), Or.elim hk_.1 (fun hs_ => Or.elim hs_ (fun hs_ => fun e_ => (Kd.R_ne HO_360004.out BK359.out (by decide)) (by rw [← e_]; exact hs_)) (fun hs_ => fun e_ => Nat.not_le.2 hs_ (by rw [e_]; exact GW359.out))) (fun hn_ => (Kd.freshB (g := gb359) (o := .cells #[.int .i64 t360, .int .i64 t361, .slice A0_2 l0_2.length c0_2, .slice A0_3 l0_3.length c0_3, u360004] 76 (0, 0)) (Goto.bx BK359) k_ hn_))⟩))
           have n6_ := Goto.m0 (Kd.R_mono (ok' := fun k_ => some k_ ≠ (v367 : Value).ownBlock ∧ some k_ ≠ (v370 : Value).ownBlock) ho1 (fun k_ hk_ => ⟨Or.elim hk_ (fun hs_ => fun e_ => ((((Kd.R_types HO368.out BK359.out (by decide))).1 k_ e_.symm).1.2) hs_) (fun hn_ => (Kd.fresh' (Kd.R_lt (Goto.rk HO368)) k_ hn_)), Or.elim hk_ (fun hs_ => fun e_ => ((((Kd.R_types HO371.out BK359.out (by decide))).1 k_ e_.symm).1.2) hs_) (fun hn_ => (Kd.fresh' (Kd.R_lt (Goto.rk HO371)) k_ hn_))⟩))
           have n7_ := Goto.m0 (hb)
           clear BK349; clear BK353; clear BK359; clear HO368; clear HO371; clear HB; clear HO_360004; have BK349 := n0_; have BK353 := n1_; have BK359 := n2_; have HO368 := n3_; have HO371 := n4_; have HO375 := n5_; have HO378 := n6_; have HB := n7_; clear n0_ n1_ n2_ n3_ n4_ n5_ n6_ n7_
           (try clear hb)
           (try clear hkp)
           (try clear ho0)
           (try clear ho1)
           obtain ⟨Ao62, co62, eo62⟩ := Kd.R_slice HO368.out
           (first | subst eo62 | (injection eo62 with f1_ f2_ f3_; have f4_ := f1_.symm; have f5_ := f3_.symm; clear f1_ f2_ f3_; subst f4_; subst f5_))
           obtain ⟨Ao63, co63, eo63⟩ := Kd.V_slice HO375.out
           (first | subst eo63 | (injection eo63 with f1_ f2_ f3_; have f4_ := f1_.symm; have f5_ := f3_.symm; clear f1_ f2_ f3_; subst f4_; subst f5_))
           refine hK.out _ _ ⟨(Goto.kc HB.out hw365_0), (Goto.kc HB.out hw372_0)⟩ (fun hHeld => ?_)
           clear hK K
           refine norm_ (a' := ?_) ?_ ?_
           rotate_left
           ·
            show Act.put _ (some 58) _ = _
            exact Goto.ap
           refine one_ (i := 12) (N := some 59) (Goto.bs 30 8191) rfl rfl (one_of HT_.out (by kernel_rfl)) (by decide) (fun K hK => ?_)
           refine goes_ Try.func17 (by kernel_rfl) rfl #[.slice Ao62 t366.length co62, .slice Ao63 t373.length co63] (by rfl) rfl rfl (by (try simp only [List.map_toArray, List.map_cons, List.map_nil]); first | done | rfl | (simp only [List.length_drop, List.length_take]; rfl)) ?_
           with_reducible refine (tontineref1_SameInts.calls k2 _ _ t366 _ _ t373 false _ ?side1 ?side2 ?side3 ?side4 A45.out).mono ?_
           (case side1 => repeat (first | exact (Kd.R_reads' HO368.out).2.2 | (with_reducible refine Kd.C_alloc ?_ _) | (with_reducible refine Kd.C_drewN ?_ _) | (with_reducible refine Kd.C_drew ?_)))
           (case side2 => exact (Kd.R_reads' HO368.out).2.1)
           (case side3 => repeat (first | exact (Kd.V_reads' HO375.out).2.2 | (with_reducible refine Kd.C_alloc ?_ _) | (with_reducible refine Kd.C_drewN ?_ _) | (with_reducible refine Kd.C_drew ?_)))
           (case side4 => exact (Kd.V_reads' HO375.out).2.1)
           rintro e w' ⟨rfl, ⟨nd, rfl⟩⟩
           refine ⟨_, rfl, ?_⟩
           refine hK.out _ _ ⟨(Goto.kc HB.out hw365_0), (Goto.kc HB.out hw372_0)⟩ (fun hHeld => ?_)
           clear hK K
           refine norm_ (a' := ?_) ?_ ?_
           rotate_left
           ·
            show Act.put _ (some 59) _ = _
            exact Goto.ap
           refine Goto.pu 13 60 30 16383 ?_
           refine Goto.pu 14 61 30 32767 ?_
           refine pure_ (i := 15) (N := some 62) (v := undef) (a' := ?_) (Goto.bs 30 65535) rfl rfl (any_of HT_.out (by kernel_rfl)) (fun _ _ _ h => h) (Or.inr ⟨by rfl, rfl⟩) ?_ ?_
           rotate_left
           ·
            exact Goto.ap
           refine pure_ (i := 16) (N := some 63) (v := undef) (a' := ?_) (Goto.bs 30 131071) rfl rfl (any_of HT_.out (by kernel_rfl)) (fun _ _ _ h => h) (Or.inr ⟨by rfl, rfl⟩) ?_ ?_
           rotate_left
           ·
            exact Goto.ap
           refine pure_ (i := 17) (N := some 64) (v := undef) (a' := ?_) (Goto.bs 30 262143) rfl rfl (any_of HT_.out (by kernel_rfl)) (fun _ _ _ h => h) (Or.inr ⟨by rfl, rfl⟩) ?_ ?_
           rotate_left
           ·
            exact Goto.ap
           refine pure_ (i := 18) (N := some 65) (v := undef) (a' := ?_) (Goto.bs 30 524287) rfl rfl (any_of HT_.out (by kernel_rfl)) (fun _ _ _ h => h) (Or.inr ⟨by rfl, rfl⟩) ?_ ?_
           rotate_left
           ·
            exact Goto.ap
           refine pure_ (i := 19) (N := some 66) (v := undef) (a' := ?_) (Goto.bs 30 1048575) rfl rfl (any_of HT_.out (by kernel_rfl)) (fun _ _ _ h => h) (Or.inr ⟨by rfl, rfl⟩) ?_ ?_
           rotate_left
           ·
            exact Goto.ap
           refine pure_ (i := 20) (N := some 67) (v := undef) (a' := ?_) (Goto.bs 30 2097151) rfl rfl (any_of HT_.out (by kernel_rfl)) (fun _ _ _ h => h) (Or.inr ⟨by rfl, rfl⟩) ?_ ?_
           rotate_left
           ·
            exact Goto.ap
           refine pure_ (i := 21) (N := some 68) (v := undef) (a' := ?_) (Goto.bs 30 4194303) rfl rfl (any_of HT_.out (by kernel_rfl)) (fun _ _ _ h => h) (Or.inr ⟨by rfl, rfl⟩) ?_ ?_
           rotate_left
           ·
            exact Goto.ap
           refine pure_ (i := 22) (N := some 69) (v := undef) (a' := ?_) (Goto.bs 30 8388607) rfl rfl (any_of HT_.out (by kernel_rfl)) (fun _ _ _ h => h) (Or.inr ⟨by rfl, rfl⟩) ?_ ?_
           rotate_left
           ·
            exact Goto.ap
           refine pure_ (i := 23) (N := some 70) (v := undef) (a' := ?_) (Goto.bs 30 16777215) rfl rfl (any_of HT_.out (by kernel_rfl)) (fun _ _ _ h => h) (Or.inr ⟨by rfl, rfl⟩) ?_ ?_
           rotate_left
           ·
            exact Goto.ap
           refine pure_ (i := 24) (N := some 71) (v := undef) (a' := ?_) (Goto.bs 30 33554431) rfl rfl (any_of HT_.out (by kernel_rfl)) (fun _ _ _ h => h) (Or.inr ⟨by rfl, rfl⟩) ?_ ?_
           rotate_left
           ·
            exact Goto.ap
           refine pure_ (i := 25) (N := some 72) (v := undef) (a' := ?_) (Goto.bs 30 67108863) rfl rfl (any_of HT_.out (by kernel_rfl)) (fun _ _ _ h => h) (Or.inr ⟨by rfl, rfl⟩) ?_ ?_
           rotate_left
           ·
            exact Goto.ap
           refine pure_ (i := 26) (N := some 73) (v := undef) (a' := ?_) (Goto.bs 30 134217727) rfl rfl (any_of HT_.out (by kernel_rfl)) (fun _ _ _ h => h) (Or.inr ⟨by rfl, rfl⟩) ?_ ?_
           rotate_left
           ·
            exact Goto.ap
           refine pure_ (i := 27) (N := some 74) (v := undef) (a' := ?_) (Goto.bs 30 268435455) rfl rfl (any_of HT_.out (by kernel_rfl)) (fun _ _ _ h => h) (Or.inr ⟨by rfl, rfl⟩) ?_ ?_
           rotate_left
           ·
            exact Goto.ap
           refine pure_ (i := 28) (N := some 75) (v := undef) (a' := ?_) (Goto.bs 30 536870911) rfl rfl (any_of HT_.out (by kernel_rfl)) (fun _ _ _ h => h) (Or.inr ⟨by rfl, rfl⟩) ?_ ?_
           rotate_left
           ·
            exact Goto.ap
           refine Goto.pu 29 76 30 1073741823 ?_
           refine done_ (done_of HT_.out (by kernel_rfl)) ?_
           try go_wp2
           go_meet
           case rel => exact ⟨_, (true), (t369), (t376), (v370), (v377), (by first | rfl | (simp; done) | (simp [*]; done)), H', ⟨by have := HJ6.out; have := HK2.out; first | omega | exact Nat.le_refl _⟩, ⟨by (with_reducible repeat (first | apply Kd.R_alloc | apply Kd.R_drewN | apply Kd.R_drew)); exact Kd.R_mono HO371.out (fun _ hk => hk.2)⟩, ⟨by (with_reducible repeat (first | apply Kd.R_alloc | apply Kd.R_drewN | apply Kd.R_drew)); exact Kd.R_mono HO378.out (fun _ hk => hk.2)⟩, ⟨Goto.bx BK349⟩, ⟨Goto.bx BK353⟩, ⟨Goto.bx BK359⟩, ⟨Goto.hx HB⟩⟩
         ·
          rw [if_neg c42] at H
          exact absurd H (by simp)
        case rest =>
         clear HC41; try clear c1; try clear c2; try clear p2; try clear p3; try clear q3; try clear hx3; try clear c4; try clear c17; try clear c18; try clear c19; try clear c20; try clear c21; try clear p36; try clear q36; try clear hx36; try clear p37; try clear q37; try clear hx37; try clear c42; try clear c46; try clear hx365_0; try clear hx372_0; try clear p365; try clear p372; try clear q365; try clear q372
         obtain ⟨kq, x76_40, x354004_40, x360004_40, u354004, u360004, rfl, HA, HJ40, HO_354004, HO_360004, BK349, BK353, BK359, HB⟩ := hcut
         cases kq with
         | zero => exact absurd HA.out (by simp [tontinelaw16_RoutePlays.j2])
         | succ kj40 =>
          have H := HA.out; clear HA
          simp only [tontinelaw16_RoutePlays.j2] at H
          by_cases c64 : x76_40 = true
          ·
           subst c64
           rw [if_pos rfl] at H
           exact absurd ((Option.some.inj H).trans HRT.out) (by decide)
          ·
           replace c64 := Bool.eq_false_iff.mpr c64
           subst c64
           rw [if_neg (show ¬ (false = true) by decide)] at H
           have H' := Goto.m0 H
           clear H
           go_wp2
           go_loopg [12] kj40 (fun kq v12 w' => ∃ (x12_4 : Int) (x354004_4 : List Int) (x360004_4 : List Int) (u354004 : Value) (u360004 : Value), v12 = .int .i64 x12_4 ∧ Aside0 (tontinelaw16_RoutePlays.l1 kq l1 l2 l3 x11_2 x12_4 a0_0 a0_1 l0_2 l0_3 t354 t355 l0_2 l0_3 x354004_4 t360 t361 l0_2 l0_3 x360004_4 = some r) ∧ Aside0 (kq ≤ kj40) ∧ Aside0 (Kd.R (Kd.int .i64) 3 w' w.heap.size (fun k_ => some k_ ≠ (u360004 : Value).ownBlock) u354004 x354004_4) ∧ Aside0 (Kd.R (Kd.int .i64) 3 w' w.heap.size (fun k_ => some k_ ≠ (u354004 : Value).ownBlock) u360004 x360004_4) ∧ Aside0 (w'.heap[gb349]? = some (.cells #[.int .i64 a0_0, .int .i64 a0_1, (.slice A0_2 l0_2.length c0_2), (.slice A0_3 l0_3.length c0_3)] 25 (0, 0))) ∧ Aside0 (w'.heap[gb353]? = some (.cells #[.int .i64 t354, .int .i64 t355, (.slice A0_2 l0_2.length c0_2), (.slice A0_3 l0_3.length c0_3), u354004] 74 (0, 0))) ∧ Aside0 (w'.heap[gb359]? = some (.cells #[.int .i64 t360, .int .i64 t361, (.slice A0_2 l0_2.length c0_2), (.slice A0_3 l0_3.length c0_3), u360004] 76 (0, 0))) ∧ Aside0 (Below w.heap.size w w'))
           case atStart => exact ⟨((-1)), (x354004_40), (x360004_40), (u354004), (u360004), (by first | rfl | (simp; done) | (simp [*]; done)), H', ⟨Nat.le_refl _⟩, ⟨Goto.rk HO_354004⟩, ⟨Goto.rk HO_360004⟩, ⟨Goto.bx BK349⟩, ⟨Goto.bx BK353⟩, ⟨Goto.bx BK359⟩, ⟨Goto.hx HB⟩⟩
           case round =>
            clear H'
            try clear c1; try clear c2; try clear p2; try clear p3; try clear q3; try clear hx3; try clear c4; try clear c6; try clear c17; try clear c18; try clear c19; try clear c20; try clear c21; try clear p36; try clear q36; try clear hx36; try clear p37; try clear q37; try clear hx37; try clear c42; try clear c46; try clear c64; try clear hx365_0; try clear hx372_0; try clear p2; try clear p3; try clear p36; try clear p365; try clear p37; try clear p372; try clear q3; try clear q36; try clear q365; try clear q37; try clear q372
            obtain ⟨x12_4, x354004_4, x360004_4, u354004, u360004, rfl, HA, HK4, HO_354004, HO_360004, BK349, BK353, BK359, HB⟩ := hrel
            cases gk with
            | zero => exact absurd HA.out (by simp [tontinelaw16_RoutePlays.l1])
            | succ k4 =>
             have H := HA.out; clear HA
             simp only [tontinelaw16_RoutePlays.l1] at H
             by_cases c65 : x12_4 ≤ (l0_3.length : Int)
             ·
              rw [if_pos c65] at H
              have c65b0 : decide (x12_4 ≤ (l0_3.length : Int)) = true := decide_eq_true c65
              clear c65
              replace H := Option.bind_eq_some_iff.mp H
              obtain ⟨⟨t395, t396⟩, A660, H⟩ := H
              replace H : ((tontineref15_Routes_Turn.f t360 t361 l0_2 l0_3 x360004_4 x12_4).bind fun bt399 => (if t395 = bt399.1 then (tontinelaw16_RoutePlays.l1 k4 l1 l2 l3 x11_2 (wrap64 (x12_4 + 1)) a0_0 a0_1 l0_2 l0_3 t354 t355 l0_2 l0_3 t396 t360 t361 l0_2 l0_3 bt399.2) else (some false))) = some r := H
              have A66 := Goto.m0 A660
              clear A660
              replace H := Option.bind_eq_some_iff.mp H
              obtain ⟨⟨t399, t400⟩, A670, H⟩ := H
              replace H : (if t395 = t399 then (tontinelaw16_RoutePlays.l1 k4 l1 l2 l3 x11_2 (wrap64 (x12_4 + 1)) a0_0 a0_1 l0_2 l0_3 t354 t355 l0_2 l0_3 t396 t360 t361 l0_2 l0_3 t400) else (some false)) = some r := H
              have A67 := Goto.m0 A670
              clear A670
              by_cases c68 : t395 = t399
              ·
               rw [if_pos c68] at H
               have c68b0 : (t395 == t399) = true := beq_iff_eq.mpr c68
               have c68b1 : (t395 != t399) = false := bne_eq_false_iff_eq.mpr c68
               clear c68
               have H' := Goto.m0 H
               clear H; have hnb69 := NB349_353.out; have hnc69 := NB353_349.out; have hnb70 := NB349_359.out; have hnc70 := NB359_349.out; have hcz71_0 := Goto.bc0 BK349; have hcz71_1 := Goto.bc1 BK349; have hcz71_2 := Goto.bc2 BK349; have hcz71_3 := Goto.bc3 BK349; have hfz71_0 := Goto.bf BK349 0; have hfz71_1 := Goto.bf BK349 1; have hfz71_2 := Goto.bf BK349 2; have hfz71_3 := Goto.bf BK349 3
               go_wp2_with (first | ((with_reducible refine gate_callee (f := 22) rfl ?_); refine goesL_ (some 86) rfl rfl Try.func22 (by kernel_rfl) rfl #[.pointer (some ⟨gb353, 0, none⟩), .int .i64 x12_4] rfl (by (try simp only [List.map_toArray, List.map_cons, List.map_nil]); first | done | rfl | (simp only [List.length_drop, List.length_take]; rfl)) ?_; (with_reducible refine (route_Routes_Turn.calls gb353 t354 t355 A0_2 c0_2 l0_2 A0_3 c0_3 l0_3 (fun k_ => some k_ = (u354004 : Value).ownBlock) u354004 x354004_4 x12_4 t395 t396 w _ ?side1 ?side2 ?side3 ?side4 ?side5 ?side6 ?side7 ?side8 A66.out).mono ?_); (case side1 => exact by (with_reducible repeat first | refine blk_drewN ?_ _ | refine blk_drew ?_ | refine blk_alloc ?_ _); exact BK353.out); (case side2 => exact GE353.out); (case side3 => repeat (first | (with_reducible first | exact HB.out | apply below_alloc | apply pw_below_drewN | apply below_drew1 | refine below_set ?_ GE349.out | refine below_set ?_ GE353.out | refine below_set ?_ GE359.out) | exact HB.out)); (case side4 => exact Kd.C_kept_came (Kd.heap_slice 3 (Kd.heap_int .i64)) HR0_2.out (Goto.hx HB) (fun k_ hs_ => Or.elim hs_ (fun hs_ => (fun e_ => Kd.R_base HO_354004.out k_ e_.symm) hs_) (fun e_ => (by rw [e_]; exact GE353.out)))); (case side5 => exact HC0_2.out); (case side6 => exact Kd.C_kept_came k44_heap HR0_3.out (Goto.hx HB) (fun k_ hs_ => Or.elim hs_ (fun hs_ => (fun e_ => Kd.R_base HO_354004.out k_ e_.symm) hs_) (fun e_ => (by rw [e_]; exact GE353.out)))); (case side7 => exact HC0_3.out); (case side8 => exact Kd.R_tight rfl HO_354004.out); rintro e w72 ⟨v397, rfl, ho0, hi, hb, hkp⟩; refine ⟨_, rfl, ?_⟩; have n0_ := Goto.m0 (Kd.R_mono (ok' := fun k_ => some k_ ≠ (v397 : Value).ownBlock) (Kd.R_keptB ((Kd.R_types HO_360004.out BK353.out (by decide))) hkp (fun k_ hk_ hs_ => Or.elim hs_ (fun hs_ => (hk_.1) hs_) (fun e_ => (hk_.2) e_))) (fun k_ hk_ => fun e_ => Or.elim (ho0.1 k_ e_.symm) (fun hs_ => hk_.2.1 (.inl hs_)) (fun hn_ => Nat.not_le.2 hk_.2.2 hn_))); have n1_ := Goto.m0 (blk_kept (Goto.bx BK349) hkp (fun hs_ => Or.elim hs_ (fun hs_ => (fun e_ => (Kd.R_ne HO_354004.out BK349.out (by decide)) e_) hs_) (fun e_ => NB349_353.out e_))); have n2_ := Goto.m0 (hi); have n3_ := Goto.m0 (blk_kept (Goto.bx BK359) hkp (fun hs_ => Or.elim hs_ (fun hs_ => (fun e_ => (Kd.R_ne HO_354004.out BK359.out (by decide)) e_) hs_) (fun e_ => NB359_353.out e_))); have n4_ := Goto.m0 (Kd.R_mono (ok' := fun k_ => some k_ ≠ (u360004 : Value).ownBlock) ho0 (fun k_ hk_ => Or.elim hk_ (fun hs_ => fun e_ => ((((Kd.R_types HO_360004.out BK353.out (by decide))).1 k_ e_.symm).1) hs_) (fun hn_ => (Kd.fresh' (Kd.R_lt (Goto.rk HO_360004)) k_ hn_)))); have n5_ := Goto.m0 (hb); clear HO_360004; clear BK349; clear BK353; clear BK359; clear HB; clear HO_354004; have HO_360004 := n0_; have BK349 := n1_; have BK353 := n2_; have BK359 := n3_; have HO398 := n4_; have HB := n5_; clear n0_ n1_ n2_ n3_ n4_ n5_; (try clear hb); (try clear hkp); (try clear ho0)) | ((with_reducible refine gate_callee (f := 23) rfl ?_); refine goesL_ (some 89) rfl rfl Try.func23 (by kernel_rfl) rfl #[.pointer (some ⟨gb359, 0, none⟩), .int .i64 x12_4] rfl (by (try simp only [List.map_toArray, List.map_cons, List.map_nil]); first | done | rfl | (simp only [List.length_drop, List.length_take]; rfl)) ?_; (with_reducible refine (tontineref15_Routes_Turn.calls gb359 t360 t361 A0_2 c0_2 l0_2 A0_3 c0_3 l0_3 (fun k_ => some k_ = (u360004 : Value).ownBlock) u360004 x360004_4 x12_4 t399 t400 w _ ?side1 ?side2 ?side3 ?side4 ?side5 ?side6 ?side7 ?side8 A67.out).mono ?_); (case side1 => exact by (with_reducible repeat first | refine blk_drewN ?_ _ | refine blk_drew ?_ | refine blk_alloc ?_ _); exact BK359.out); (case side2 => exact GE359.out); (case side3 => repeat (first | (with_reducible first | exact HB.out | apply below_alloc | apply pw_below_drewN | apply below_drew1 | refine below_set ?_ GE349.out | refine below_set ?_ GE353.out | refine below_set ?_ GE359.out) | exact HB.out)); (case side4 => exact Kd.C_kept_came (Kd.heap_slice 3 (Kd.heap_int .i64)) HR0_2.out (Goto.hx HB) (fun k_ hs_ => Or.elim hs_ (fun hs_ => (fun e_ => Kd.R_base HO_360004.out k_ e_.symm) hs_) (fun e_ => (by rw [e_]; exact GE359.out)))); (case side5 => exact HC0_2.out); (case side6 => exact Kd.C_kept_came k44_heap HR0_3.out (Goto.hx HB) (fun k_ hs_ => Or.elim hs_ (fun hs_ => (fun e_ => Kd.R_base HO_360004.out k_ e_.symm) hs_) (fun e_ => (by rw [e_]; exact GE359.out)))); (case side7 => exact HC0_3.out); (case side8 => exact Kd.R_tight rfl HO_360004.out); rintro e w73 ⟨v401, rfl, ho0, hi, hb, hkp⟩; refine ⟨_, rfl, ?_⟩; have n0_ := Goto.m0 (blk_kept (Goto.bx BK349) hkp (fun hs_ => Or.elim hs_ (fun hs_ => (fun e_ => (Kd.R_ne HO_360004.out BK349.out (by decide)) e_) hs_) (fun e_ => NB349_359.out e_))); have n1_ := Goto.m0 (blk_kept (Goto.bx BK353) hkp (fun hs_ => Or.elim hs_ (fun hs_ => (fun e_ => (Kd.R_ne HO_360004.out BK353.out (by decide)) e_) hs_) (fun e_ => NB353_359.out e_))); have n2_ := Goto.m0 (hi); have n3_ := Goto.m0 (Kd.R_mono (ok' := fun k_ => some k_ ≠ (v401 : Value).ownBlock) (Kd.R_keptB ((Kd.R_types HO398.out BK359.out (by decide))) hkp (fun k_ hk_ hs_ => Or.elim hs_ (fun hs_ => (hk_.1) hs_) (fun e_ => (hk_.2) e_))) (fun k_ hk_ => fun e_ => Or.elim (ho0.1 k_ e_.symm) (fun hs_ => hk_.2.1 (.inl hs_)) (fun hn_ => Nat.not_le.2 hk_.2.2 hn_))); have n4_ := Goto.m0 (Kd.R_mono (ok' := fun k_ => some k_ ≠ (v397 : Value).ownBlock) ho0 (fun k_ hk_ => Or.elim hk_ (fun hs_ => fun e_ => ((((Kd.R_types HO398.out BK359.out (by decide))).1 k_ e_.symm).1) hs_) (fun hn_ => (Kd.fresh' (Kd.R_lt (Goto.rk HO398)) k_ hn_)))); have n5_ := Goto.m0 (hb); clear BK349; clear BK353; clear BK359; clear HO398; clear HB; clear HO_360004; have BK349 := n0_; have BK353 := n1_; have BK359 := n2_; have HO398 := n3_; have HO402 := n4_; have HB := n5_; clear n0_ n1_ n2_ n3_ n4_ n5_; (try clear hb); (try clear hkp); (try clear ho0)))
               go_roundg k4
               case measure => have := HJ6.out; have := HK2.out; have := HJ40.out; have := HK4.out; omega
               case rel => exact ⟨(wrap64 (x12_4 + 1)), (t396), (t400), (v397), (v401), (by first | rfl | (simp; done) | (simp [*]; done)), H', ⟨by have := HJ6.out; have := HK2.out; have := HJ40.out; have := HK4.out; omega⟩, ⟨Goto.rk HO398⟩, ⟨Goto.rk HO402⟩, ⟨Goto.bx BK349⟩, ⟨Goto.bx BK353⟩, ⟨Goto.bx BK359⟩, ⟨Goto.hx HB⟩⟩
              ·
               rw [if_neg c68] at H
               have c68b0 : (t395 == t399) = false := beq_eq_false_iff_ne.mpr c68
               have c68b1 : (t395 != t399) = true := bne_iff_ne.mpr c68
               exact absurd ((Option.some.inj H).trans HRT.out) (by decide)
             ·
              rw [if_neg c65] at H
              have c65b0 : decide (x12_4 ≤ (l0_3.length : Int)) = false := decide_eq_false c65
              clear c65
              have H' := Goto.m0 H
              clear H; have hnb74 := NB349_353.out; have hnc74 := NB353_349.out; have hnb75 := NB349_359.out; have hnc75 := NB359_349.out; have hcz76_0 := Goto.bc0 BK349; have hcz76_1 := Goto.bc1 BK349; have hcz76_2 := Goto.bc2 BK349; have hcz76_3 := Goto.bc3 BK349; have hfz76_0 := Goto.bf BK349 0; have hfz76_1 := Goto.bf BK349 1; have hfz76_2 := Goto.bf BK349 2; have hfz76_3 := Goto.bf BK349 3
              go_wp2
              go_roundg k4
              case measure => have := HJ6.out; have := HK2.out; have := HJ40.out; have := HK4.out; omega
              case rel => exact ⟨(wrap64 (x11_2 + 1)), (x354004_4), (x360004_4), (u354004), (u360004), (by first | rfl | (simp; done) | (simp [*]; done)), H', ⟨by have := HJ6.out; have := HK2.out; have := HJ40.out; have := HK4.out; omega⟩, ⟨Goto.rk HO_354004⟩, ⟨Goto.rk HO_360004⟩, ⟨Goto.bx BK349⟩, ⟨Goto.bx BK353⟩, ⟨Goto.bx BK359⟩, ⟨Goto.hx HB⟩⟩
       ·
        rw [if_neg c40] at H
        have c40b0 : decide (x11_2 < (l1.length : Int)) = false := decide_eq_false c40
        clear c40
        replace H := Option.bind_eq_some_iff.mp H
        obtain ⟨t403, A770, H⟩ := H
        have A77 := Goto.m0 A770
        clear A770
        replace H := Option.bind_eq_some_iff.mp H
        obtain ⟨t404, A780, H⟩ := H
        have A78 := Goto.m0 A780
        clear A780
        obtain rfl := Option.some.inj H
        go_wp2_with (first | ((with_reducible refine gate_callee (f := 24) rfl ?_); refine goesL_ (some 93) rfl rfl Try.func24 (by kernel_rfl) rfl #[.slice A2 l2.length c2, .slice A3 l3.length c3] rfl (by (try simp only [List.map_toArray, List.map_cons, List.map_nil]); first | done | rfl | (simp only [List.length_drop, List.length_take]; rfl)) ?_; (with_reducible refine (route_First.calls k2 (fun k_ => k_ < w.heap.size) _ _ l2 _ _ l3 t403 _ ?side1 ?side2 ?side3 A77.out).mono ?_); (case side1 => exact Kd.V_mk HC2.out (Kd.F_below (Kd.C_F (Kd.heap_int .i64) HR2.out) (Goto.hx HB))); (case side2 => repeat (first | exact (Kd.C_below HR3.out HB.out) | (with_reducible refine Kd.C_alloc ?_ _) | (with_reducible refine Kd.C_drewN ?_ _) | (with_reducible refine Kd.C_drew ?_))); (case side3 => exact HC3.out); rintro e w79 ⟨rfl, hb⟩; refine ⟨_, rfl, ?_⟩; replace HO_354004 := Goto.m0 (Kd.R_below (Goto.rk HO_354004) hb); replace HO_360004 := Goto.m0 (Kd.R_below (Goto.rk HO_360004) hb); replace BK349 := Goto.bb BK349 hb; replace BK353 := Goto.bb BK353 hb; replace BK359 := Goto.bb BK359 hb; replace HB := Goto.hs HB hb; (try clear hb); (try clear hb2); (try clear hk); (try clear hi)) | ((with_reducible refine gate_callee (f := 25) rfl ?_); refine goesL_ (some 96) rfl rfl Try.func25 (by kernel_rfl) rfl #[.slice A2 l2.length c2, .slice A3 l3.length c3] rfl (by (try simp only [List.map_toArray, List.map_cons, List.map_nil]); first | done | rfl | (simp only [List.length_drop, List.length_take]; rfl)) ?_; (with_reducible refine (tontineref15_First.calls k2 _ _ l2 _ _ l3 t404 _ ?side1 ?side2 ?side3 ?side4 A78.out).mono ?_); (case side1 => repeat (first | exact (Kd.C_below HR2.out HB.out) | (with_reducible refine Kd.C_alloc ?_ _) | (with_reducible refine Kd.C_drewN ?_ _) | (with_reducible refine Kd.C_drew ?_))); (case side2 => exact HC2.out); (case side3 => repeat (first | exact (Kd.C_below HR3.out HB.out) | (with_reducible refine Kd.C_alloc ?_ _) | (with_reducible refine Kd.C_drewN ?_ _) | (with_reducible refine Kd.C_drew ?_))); (case side4 => exact HC3.out); rintro e w' ⟨rfl, ⟨nd, rfl⟩⟩; refine ⟨_, rfl, ?_⟩))
        go_ret
        exact ⟨Goto.er, by repeat (first | (with_reducible first | exact HB.out | apply below_alloc | apply pw_below_drewN | apply below_drew1 | refine below_set ?_ GE349.out | refine below_set ?_ GE353.out | refine below_set ?_ GE359.out) | exact HB.out)⟩
 ·
  replace c6 := Bool.eq_false_iff.mpr c6
  subst c6
  rw [if_neg (show ¬ (false = true) by decide)] at H
  exact absurd ((Option.some.inj H).trans HRT.out) (by decide)

end Go.Proofs.Ytbhfkhcedjgpdaa.P
