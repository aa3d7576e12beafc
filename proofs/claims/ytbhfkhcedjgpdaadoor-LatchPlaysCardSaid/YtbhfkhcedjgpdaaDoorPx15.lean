/- Printed by a program of this workplace (a turned copy of the kit's optional print), out of the translation; not trusted: Lean checks it. -/
import Derived.Test.YtbhfkhcedjgpdaaDoorPx0
import Derived.Test.YtbhfkhcedjgpdaaDoorPx2
import Derived.Test.YtbhfkhcedjgpdaaDoorPx8
import Derived.Test.YtbhfkhcedjgpdaaDoorPx9
import Derived.Test.YtbhfkhcedjgpdaaDoorPx10
import Derived.Test.YtbhfkhcedjgpdaaDoorPx11
import Derived.Test.YtbhfkhcedjgpdaaDoorPx12
import Derived.Test.YtbhfkhcedjgpdaaDoorPx13
import Derived.Test.YtbhfkhcedjgpdaaDoorPx14
import Derived.Test.YtbhfkhcedjgpdaaDoorCode
namespace Go.Proofs.YtbhfkhcedjgpdaaDoor.P
open Go.RowKit Go.Proofs.YtbhfkhcedjgpdaaDoorW.PrintWords Go.Proofs.YtbhfkhcedjgpdaaDoorW.PrintLast Go.Proofs.YtbhfkhcedjgpdaaDoorW.PrintMore
attribute [local go_sem] max2_int min2_int max_two min_two max_three min_three max_four min_four   -- for this text's walks alone
set_option linter.unusedVariables false
set_option linter.unusedSimpArgs false

/-! ### tontinelaw15_LatchPlays: function 4 -/
mutual
def tontinelaw15_LatchPlays.j0 : Nat → List (S41) → Bool → Int → Int → List (List Int) → List (S60) → Option (Bool)
  | 0, _, _, _, _, _, _ => none
  | k + 1, x1, x24, x350000, x350001, x350002, x350003 => if x24 = true then (some true) else ((latch_New.f x350000 x350001 x350002 x350003).bind fun bt354 => ((tontineref15_NewLatch.f x350000 x350001 x350002 x350003).bind fun bt365 => (tontinelaw15_LatchPlays.l0 k x1 0 bt354.1 bt354.2.1 x350002 x350003 bt354.2.2.1 bt354.2.2.2.1 bt354.2.2.2.2.1 bt354.2.2.2.2.2 bt365.1 bt365.2.1 x350002 x350003 bt365.2.2.1 bt365.2.2.2.1 bt365.2.2.2.2.1 bt365.2.2.2.2.2)))
def tontinelaw15_LatchPlays.l0 : Nat → List (S41) → Int → Int → Int → List (List Int) → List (S60) → Int → List Int → Int → List Int → Int → Int → List (List Int) → List (S60) → Int → Int → List Int → List Int → Option (Bool)
  | 0, _, _, _, _, _, _, _, _, _, _, _, _, _, _, _, _, _, _ => none
  | k + 1, x1, x7, x354000, x354001, x354002, x354003, x354004, x354005, x354006, x354007, x365000, x365001, x365002, x365003, x365004, x365005, x365006, x365007 => if x7 < (x1.length : Int) then (if 0 ≤ x7 then (if ((rd_T41 x1 x7).f0) ≤ 1 then ((latch_Latch_AskPlan.f x354000 x354001 x354002 x354003 x354004 x354005 x354006 x354007 ((rd_T41 x1 x7).f2)).bind fun bt377 => ((ext_20.f bt377.1).bind fun t386 => ((tontineref15_Latch_AskPlan.f x365000 x365001 x365002 x365003 x365004 x365005 x365006 x365007 ((rd_T41 x1 x7).f2)).bind fun bt387 => (tontinelaw15_LatchPlays.j2 k x1 x7 t386 bt387.1 x354000 x354001 x354002 x354003 bt377.2.1 bt377.2.2.1 bt377.2.2.2.1 bt377.2.2.2.2 x365000 x365001 x365002 x365003 bt387.2.1 bt387.2.2.1 bt387.2.2.2.1 bt387.2.2.2.2)))) else (if ((rd_T41 x1 x7).f0) ≤ 4 then ((latch_Latch_AskLevel.f k x354000 x354001 x354002 x354003 x354004 x354005 x354006 x354007 ((rd_T41 x1 x7).f1) ((rd_T41 x1 x7).f2)).bind fun bt396 => ((ext_20.f bt396.1).bind fun t405 => ((tontineref15_Latch_AskLevel.f k x365000 x365001 x365002 x365003 x365004 x365005 x365006 x365007 ((rd_T41 x1 x7).f1) ((rd_T41 x1 x7).f2)).bind fun bt406 => (tontinelaw15_LatchPlays.j2 k x1 x7 t405 bt406.1 x354000 x354001 x354002 x354003 bt396.2.1 bt396.2.2.1 bt396.2.2.2.1 bt396.2.2.2.2 x365000 x365001 x365002 x365003 bt406.2.1 bt406.2.2.1 bt406.2.2.2.1 bt406.2.2.2.2)))) else ((latch_Latch_Turn.f k x354000 x354001 x354002 x354003 x354004 x354005 x354006 x354007).bind fun bt415 => ((tontineref15_Latch_Turn.f x365000 x365001 x365002 x365003 x365004 x365005 x365006 x365007).bind fun bt423 => (tontinelaw15_LatchPlays.j2 k x1 x7 0 0 x354000 x354001 x354002 x354003 bt415.1 bt415.2.1 bt415.2.2.1 bt415.2.2.2 x365000 x365001 x365002 x365003 bt423.1 bt423.2.1 bt423.2.2.1 bt423.2.2.2))))) else (none)) else (some true)
def tontinelaw15_LatchPlays.j2 : Nat → List (S41) → Int → Int → Int → Int → Int → List (List Int) → List (S60) → Int → List Int → Int → List Int → Int → Int → List (List Int) → List (S60) → Int → Int → List Int → List Int → Option (Bool)
  | 0, _, _, _, _, _, _, _, _, _, _, _, _, _, _, _, _, _, _, _, _ => none
  | k + 1, x1, x7, x9, x10, x354000, x354001, x354002, x354003, x354004, x354005, x354006, x354007, x365000, x365001, x365002, x365003, x365004, x365005, x365006, x365007 => if x9 = x10 then ((latch_Latch_Plan.f x354000 x354001 x354002 x354003 x354004 x354005 x354006 x354007).bind fun bt431 => (if bt431.1 = x365004 then ((latch_Latch_Levels.f x354000 x354001 x354002 x354003 bt431.2.1 bt431.2.2.1 bt431.2.2.2.1 bt431.2.2.2.2).bind fun bt440 => ((tontineref1_SameInts.f k bt440.1 x365006).bind fun t451 => (tontinelaw15_LatchPlays.j3 k x1 x7 (!t451) x354000 x354001 x354002 x354003 bt440.2.1 bt440.2.2.1 bt440.2.2.2.1 bt440.2.2.2.2 x365000 x365001 x365002 x365003 x365004 x365005 x365006 x365007))) else (tontinelaw15_LatchPlays.j3 k x1 x7 true x354000 x354001 x354002 x354003 bt431.2.1 bt431.2.2.1 bt431.2.2.2.1 bt431.2.2.2.2 x365000 x365001 x365002 x365003 x365004 x365005 x365006 x365007))) else (tontinelaw15_LatchPlays.j3 k x1 x7 true x354000 x354001 x354002 x354003 x354004 x354005 x354006 x354007 x365000 x365001 x365002 x365003 x365004 x365005 x365006 x365007)
def tontinelaw15_LatchPlays.j3 : Nat → List (S41) → Int → Bool → Int → Int → List (List Int) → List (S60) → Int → List Int → Int → List Int → Int → Int → List (List Int) → List (S60) → Int → Int → List Int → List Int → Option (Bool)
  | 0, _, _, _, _, _, _, _, _, _, _, _, _, _, _, _, _, _, _, _ => none
  | k + 1, x1, x7, x94, x354000, x354001, x354002, x354003, x354004, x354005, x354006, x354007, x365000, x365001, x365002, x365003, x365004, x365005, x365006, x365007 => if x94 = true then (some false) else (tontinelaw15_LatchPlays.l0 k x1 (wrap64 (x7 + 1)) x354000 x354001 x354002 x354003 x354004 x354005 x354006 x354007 x365000 x365001 x365002 x365003 x365004 x365005 x365006 x365007)
end
def tontinelaw15_LatchPlays.f (k : Nat) (a0_0 : Int) (a0_1 : Int) (l0_2 : List (List Int)) (l0_3 : List (S60)) (l1 : List (S41)) : Option (Bool) := (tontinelaw15_known.f k).bind fun t350 => (if t350 = true then ((tontinehelp_WideConf.f k a0_0 a0_1 l0_2 l0_3).bind fun t351 => (if t351 = true then (tontinelaw15_LatchPlays.j0 k l1 true a0_0 a0_1 l0_2 l0_3) else ((tontineref1_IsConf.f k a0_0 a0_1 l0_2 l0_3).bind fun t352 => (if t352 = 0 then (tontinelaw15_LatchPlays.j0 k l1 (decide ((l1.length : Int) > 60)) a0_0 a0_1 l0_2 l0_3) else (tontinelaw15_LatchPlays.j0 k l1 true a0_0 a0_1 l0_2 l0_3))))) else (some false))
theorem tontinelaw15_LatchPlays.mono_l : ∀ k, (∀ y0 y1 y2 y3 y4 y5, LeO (tontinelaw15_LatchPlays.j0 k y0 y1 y2 y3 y4 y5) (tontinelaw15_LatchPlays.j0 (k + 1) y0 y1 y2 y3 y4 y5)) ∧ (∀ y0 y1 y2 y3 y4 y5 y6 y7 y8 y9 y10 y11 y12 y13 y14 y15 y16 y17, LeO (tontinelaw15_LatchPlays.l0 k y0 y1 y2 y3 y4 y5 y6 y7 y8 y9 y10 y11 y12 y13 y14 y15 y16 y17) (tontinelaw15_LatchPlays.l0 (k + 1) y0 y1 y2 y3 y4 y5 y6 y7 y8 y9 y10 y11 y12 y13 y14 y15 y16 y17)) ∧ (∀ y0 y1 y2 y3 y4 y5 y6 y7 y8 y9 y10 y11 y12 y13 y14 y15 y16 y17 y18 y19, LeO (tontinelaw15_LatchPlays.j2 k y0 y1 y2 y3 y4 y5 y6 y7 y8 y9 y10 y11 y12 y13 y14 y15 y16 y17 y18 y19) (tontinelaw15_LatchPlays.j2 (k + 1) y0 y1 y2 y3 y4 y5 y6 y7 y8 y9 y10 y11 y12 y13 y14 y15 y16 y17 y18 y19)) ∧ (∀ y0 y1 y2 y3 y4 y5 y6 y7 y8 y9 y10 y11 y12 y13 y14 y15 y16 y17 y18, LeO (tontinelaw15_LatchPlays.j3 k y0 y1 y2 y3 y4 y5 y6 y7 y8 y9 y10 y11 y12 y13 y14 y15 y16 y17 y18) (tontinelaw15_LatchPlays.j3 (k + 1) y0 y1 y2 y3 y4 y5 y6 y7 y8 y9 y10 y11 y12 y13 y14 y15 y16 y17 y18))
  | 0 => ⟨fun _ _ _ _ _ _ r h => by simp [tontinelaw15_LatchPlays.j0] at h, fun _ _ _ _ _ _ _ _ _ _ _ _ _ _ _ _ _ _ r h => by simp [tontinelaw15_LatchPlays.l0] at h, fun _ _ _ _ _ _ _ _ _ _ _ _ _ _ _ _ _ _ _ _ r h => by simp [tontinelaw15_LatchPlays.j2] at h, fun _ _ _ _ _ _ _ _ _ _ _ _ _ _ _ _ _ _ _ r h => by simp [tontinelaw15_LatchPlays.j3] at h⟩
  | k + 1 => by
    obtain ⟨ih0, ih1, ih2, ih3⟩ := tontinelaw15_LatchPlays.mono_l k
    refine ⟨?_, ?_, ?_, ?_⟩
    · intro y0 y1 y2 y3 y4 y5
      unfold tontinelaw15_LatchPlays.j0
      repeat' first
      | (with_reducible exact ih0 _ _ _ _ _ _)
      | (with_reducible exact ih1 _ _ _ _ _ _ _ _ _ _ _ _ _ _ _ _ _ _)
      | (with_reducible exact ih2 _ _ _ _ _ _ _ _ _ _ _ _ _ _ _ _ _ _ _ _)
      | (with_reducible exact ih3 _ _ _ _ _ _ _ _ _ _ _ _ _ _ _ _ _ _ _)
      | (with_reducible exact latch_Latch_AskLevel.mono _ _ _ _ _ _ _ _ _ _ _)
      | (with_reducible exact latch_Latch_Turn.mono _ _ _ _ _ _ _ _ _)
      | (with_reducible exact tontinehelp_WideConf.mono _ _ _ _ _)
      | (with_reducible exact tontinelaw15_known.mono _)
      | (with_reducible exact tontineref15_Latch_AskLevel.mono _ _ _ _ _ _ _ _ _ _ _)
      | (with_reducible exact tontineref1_IsConf.mono _ _ _ _ _)
      | (with_reducible exact tontineref1_SameInts.mono _ _ _)
      | (with_reducible exact LeO.refl _)
      | (with_reducible exact LeO.none _)
      | (with_reducible refine LeO.ite ?_ ?_)
      | (with_reducible refine LeO.bind ?_ (fun _ => ?_))
      | exact ih0 _ _ _ _ _ _
      | exact ih1 _ _ _ _ _ _ _ _ _ _ _ _ _ _ _ _ _ _
      | exact ih2 _ _ _ _ _ _ _ _ _ _ _ _ _ _ _ _ _ _ _ _
      | exact ih3 _ _ _ _ _ _ _ _ _ _ _ _ _ _ _ _ _ _ _
      | exact latch_Latch_AskLevel.mono _ _ _ _ _ _ _ _ _ _ _
      | exact latch_Latch_Turn.mono _ _ _ _ _ _ _ _ _
      | exact tontinehelp_WideConf.mono _ _ _ _ _
      | exact tontinelaw15_known.mono _
      | exact tontineref15_Latch_AskLevel.mono _ _ _ _ _ _ _ _ _ _ _
      | exact tontineref1_IsConf.mono _ _ _ _ _
      | exact tontineref1_SameInts.mono _ _ _
      | exact LeO.none _
      | refine LeO.ite ?_ ?_
      | refine LeO.bind ?_ (fun _ => ?_)
    · intro y0 y1 y2 y3 y4 y5 y6 y7 y8 y9 y10 y11 y12 y13 y14 y15 y16 y17
      unfold tontinelaw15_LatchPlays.l0
      repeat' first
      | (with_reducible exact ih0 _ _ _ _ _ _)
      | (with_reducible exact ih1 _ _ _ _ _ _ _ _ _ _ _ _ _ _ _ _ _ _)
      | (with_reducible exact ih2 _ _ _ _ _ _ _ _ _ _ _ _ _ _ _ _ _ _ _ _)
      | (with_reducible exact ih3 _ _ _ _ _ _ _ _ _ _ _ _ _ _ _ _ _ _ _)
      | (with_reducible exact latch_Latch_AskLevel.mono _ _ _ _ _ _ _ _ _ _ _)
      | (with_reducible exact latch_Latch_Turn.mono _ _ _ _ _ _ _ _ _)
      | (with_reducible exact tontinehelp_WideConf.mono _ _ _ _ _)
      | (with_reducible exact tontinelaw15_known.mono _)
      | (with_reducible exact tontineref15_Latch_AskLevel.mono _ _ _ _ _ _ _ _ _ _ _)
      | (with_reducible exact tontineref1_IsConf.mono _ _ _ _ _)
      | (with_reducible exact tontineref1_SameInts.mono _ _ _)
      | (with_reducible exact LeO.refl _)
      | (with_reducible exact LeO.none _)
      | (with_reducible refine LeO.ite ?_ ?_)
      | (with_reducible refine LeO.bind ?_ (fun _ => ?_))
      | exact ih0 _ _ _ _ _ _
      | exact ih1 _ _ _ _ _ _ _ _ _ _ _ _ _ _ _ _ _ _
      | exact ih2 _ _ _ _ _ _ _ _ _ _ _ _ _ _ _ _ _ _ _ _
      | exact ih3 _ _ _ _ _ _ _ _ _ _ _ _ _ _ _ _ _ _ _
      | exact latch_Latch_AskLevel.mono _ _ _ _ _ _ _ _ _ _ _
      | exact latch_Latch_Turn.mono _ _ _ _ _ _ _ _ _
      | exact tontinehelp_WideConf.mono _ _ _ _ _
      | exact tontinelaw15_known.mono _
      | exact tontineref15_Latch_AskLevel.mono _ _ _ _ _ _ _ _ _ _ _
      | exact tontineref1_IsConf.mono _ _ _ _ _
      | exact tontineref1_SameInts.mono _ _ _
      | exact LeO.none _
      | refine LeO.ite ?_ ?_
      | refine LeO.bind ?_ (fun _ => ?_)
    · intro y0 y1 y2 y3 y4 y5 y6 y7 y8 y9 y10 y11 y12 y13 y14 y15 y16 y17 y18 y19
      unfold tontinelaw15_LatchPlays.j2
      repeat' first
      | (with_reducible exact ih0 _ _ _ _ _ _)
      | (with_reducible exact ih1 _ _ _ _ _ _ _ _ _ _ _ _ _ _ _ _ _ _)
      | (with_reducible exact ih2 _ _ _ _ _ _ _ _ _ _ _ _ _ _ _ _ _ _ _ _)
      | (with_reducible exact ih3 _ _ _ _ _ _ _ _ _ _ _ _ _ _ _ _ _ _ _)
      | (with_reducible exact latch_Latch_AskLevel.mono _ _ _ _ _ _ _ _ _ _ _)
      | (with_reducible exact latch_Latch_Turn.mono _ _ _ _ _ _ _ _ _)
      | (with_reducible exact tontinehelp_WideConf.mono _ _ _ _ _)
      | (with_reducible exact tontinelaw15_known.mono _)
      | (with_reducible exact tontineref15_Latch_AskLevel.mono _ _ _ _ _ _ _ _ _ _ _)
      | (with_reducible exact tontineref1_IsConf.mono _ _ _ _ _)
      | (with_reducible exact tontineref1_SameInts.mono _ _ _)
      | (with_reducible exact LeO.refl _)
      | (with_reducible exact LeO.none _)
      | (with_reducible refine LeO.ite ?_ ?_)
      | (with_reducible refine LeO.bind ?_ (fun _ => ?_))
      | exact ih0 _ _ _ _ _ _
      | exact ih1 _ _ _ _ _ _ _ _ _ _ _ _ _ _ _ _ _ _
      | exact ih2 _ _ _ _ _ _ _ _ _ _ _ _ _ _ _ _ _ _ _ _
      | exact ih3 _ _ _ _ _ _ _ _ _ _ _ _ _ _ _ _ _ _ _
      | exact latch_Latch_AskLevel.mono _ _ _ _ _ _ _ _ _ _ _
      | exact latch_Latch_Turn.mono _ _ _ _ _ _ _ _ _
      | exact tontinehelp_WideConf.mono _ _ _ _ _
      | exact tontinelaw15_known.mono _
      | exact tontineref15_Latch_AskLevel.mono _ _ _ _ _ _ _ _ _ _ _
      | exact tontineref1_IsConf.mono _ _ _ _ _
      | exact tontineref1_SameInts.mono _ _ _
      | exact LeO.none _
      | refine LeO.ite ?_ ?_
      | refine LeO.bind ?_ (fun _ => ?_)
    · intro y0 y1 y2 y3 y4 y5 y6 y7 y8 y9 y10 y11 y12 y13 y14 y15 y16 y17 y18
      unfold tontinelaw15_LatchPlays.j3
      repeat' first
      | (with_reducible exact ih0 _ _ _ _ _ _)
      | (with_reducible exact ih1 _ _ _ _ _ _ _ _ _ _ _ _ _ _ _ _ _ _)
      | (with_reducible exact ih2 _ _ _ _ _ _ _ _ _ _ _ _ _ _ _ _ _ _ _ _)
      | (with_reducible exact ih3 _ _ _ _ _ _ _ _ _ _ _ _ _ _ _ _ _ _ _)
      | (with_reducible exact latch_Latch_AskLevel.mono _ _ _ _ _ _ _ _ _ _ _)
      | (with_reducible exact latch_Latch_Turn.mono _ _ _ _ _ _ _ _ _)
      | (with_reducible exact tontinehelp_WideConf.mono _ _ _ _ _)
      | (with_reducible exact tontinelaw15_known.mono _)
      | (with_reducible exact tontineref15_Latch_AskLevel.mono _ _ _ _ _ _ _ _ _ _ _)
      | (with_reducible exact tontineref1_IsConf.mono _ _ _ _ _)
      | (with_reducible exact tontineref1_SameInts.mono _ _ _)
      | (with_reducible exact LeO.refl _)
      | (with_reducible exact LeO.none _)
      | (with_reducible refine LeO.ite ?_ ?_)
      | (with_reducible refine LeO.bind ?_ (fun _ => ?_))
      | exact ih0 _ _ _ _ _ _
      | exact ih1 _ _ _ _ _ _ _ _ _ _ _ _ _ _ _ _ _ _
      | exact ih2 _ _ _ _ _ _ _ _ _ _ _ _ _ _ _ _ _ _ _ _
      | exact ih3 _ _ _ _ _ _ _ _ _ _ _ _ _ _ _ _ _ _ _
      | exact latch_Latch_AskLevel.mono _ _ _ _ _ _ _ _ _ _ _
      | exact latch_Latch_Turn.mono _ _ _ _ _ _ _ _ _
      | exact tontinehelp_WideConf.mono _ _ _ _ _
      | exact tontinelaw15_known.mono _
      | exact tontineref15_Latch_AskLevel.mono _ _ _ _ _ _ _ _ _ _ _
      | exact tontineref1_IsConf.mono _ _ _ _ _
      | exact tontineref1_SameInts.mono _ _ _
      | exact LeO.none _
      | refine LeO.ite ?_ ?_
      | refine LeO.bind ?_ (fun _ => ?_)
theorem tontinelaw15_LatchPlays.mono : ∀ a0 a1 a2 a3 a4 k, LeO (tontinelaw15_LatchPlays.f k a0 a1 a2 a3 a4) (tontinelaw15_LatchPlays.f (k + 1) a0 a1 a2 a3 a4) := by
 intro a0 a1 a2 a3 a4 k
 obtain ⟨ih0, ih1, ih2, ih3⟩ := tontinelaw15_LatchPlays.mono_l k
 unfold tontinelaw15_LatchPlays.f
 repeat' first
   | (with_reducible exact ih0 _ _ _ _ _ _)
   | (with_reducible exact ih1 _ _ _ _ _ _ _ _ _ _ _ _ _ _ _ _ _ _)
   | (with_reducible exact ih2 _ _ _ _ _ _ _ _ _ _ _ _ _ _ _ _ _ _ _ _)
   | (with_reducible exact ih3 _ _ _ _ _ _ _ _ _ _ _ _ _ _ _ _ _ _ _)
   | (with_reducible exact latch_Latch_AskLevel.mono _ _ _ _ _ _ _ _ _ _ _)
   | (with_reducible exact latch_Latch_Turn.mono _ _ _ _ _ _ _ _ _)
   | (with_reducible exact tontinehelp_WideConf.mono _ _ _ _ _)
   | (with_reducible exact tontinelaw15_known.mono _)
   | (with_reducible exact tontineref15_Latch_AskLevel.mono _ _ _ _ _ _ _ _ _ _ _)
   | (with_reducible exact tontineref1_IsConf.mono _ _ _ _ _)
   | (with_reducible exact tontineref1_SameInts.mono _ _ _)
   | (with_reducible exact LeO.refl _)
   | (with_reducible exact LeO.none _)
   | (with_reducible refine LeO.ite ?_ ?_)
   | (with_reducible refine LeO.bind ?_ (fun _ => ?_))
   | exact ih0 _ _ _ _ _ _
   | exact ih1 _ _ _ _ _ _ _ _ _ _ _ _ _ _ _ _ _ _
   | exact ih2 _ _ _ _ _ _ _ _ _ _ _ _ _ _ _ _ _ _ _ _
   | exact ih3 _ _ _ _ _ _ _ _ _ _ _ _ _ _ _ _ _ _ _
   | exact latch_Latch_AskLevel.mono _ _ _ _ _ _ _ _ _ _ _
   | exact latch_Latch_Turn.mono _ _ _ _ _ _ _ _ _
   | exact tontinehelp_WideConf.mono _ _ _ _ _
   | exact tontinelaw15_known.mono _
   | exact tontineref15_Latch_AskLevel.mono _ _ _ _ _ _ _ _ _ _ _
   | exact tontineref1_IsConf.mono _ _ _ _ _
   | exact tontineref1_SameInts.mono _ _ _
   | exact LeO.none _
   | refine LeO.ite ?_ ?_
   | refine LeO.bind ?_ (fun _ => ?_)
def tontinelaw15_LatchPlays.T14 : Bool × List (List Nat × List Nat) := (true, [([], []), ([], []), ([1], [1]), ([0, 2], [0, 2]), ([3, 3], [3]), ([], []), ([], []), ([6], [6]), ([5, 7, 4], [5, 7]), ([4, 8, 0, 1, 2, 3, 4], [4]), ([8, 9, 0, 1, 2, 3, 4, 5, 6, 7, 8, 9], [8])])
def tontinelaw15_LatchPlays.B14 : List Nat := [0, 0, 2, 7, 15, 0, 0, 64, 255, 511, 1023]
theorem tontinelaw15_LatchPlays.tab14 : rtab .any (opsOf Tryd.f4 14) = tontinelaw15_LatchPlays.T14 := by kernel_rfl
theorem tontinelaw15_LatchPlays.bits14 : waitsOk tontinelaw15_LatchPlays.T14.2 tontinelaw15_LatchPlays.B14 = true := by kernel_rfl
def tontinelaw15_LatchPlays.T16 : Bool × List (List Nat × List Nat) := (true, [([], []), ([], []), ([1], [1]), ([], []), ([3], [3]), ([0, 2, 4], [0, 2, 4]), ([5, 5], [5]), ([], []), ([], []), ([8], [8]), ([], []), ([10], [10]), ([7, 9, 11, 6], [7, 9, 11]), ([6, 12, 0, 1, 2, 3, 4, 5, 6], [6]), ([12, 13, 0, 1, 2, 3, 4, 5, 6, 7, 8, 9, 10, 11, 12, 13], [12])])
def tontinelaw15_LatchPlays.B16 : List Nat := [0, 0, 2, 0, 8, 31, 63, 0, 0, 256, 0, 1024, 4095, 8191, 16383]
theorem tontinelaw15_LatchPlays.tab16 : rtab .any (opsOf Tryd.f4 16) = tontinelaw15_LatchPlays.T16 := by kernel_rfl
theorem tontinelaw15_LatchPlays.bits16 : waitsOk tontinelaw15_LatchPlays.T16.2 tontinelaw15_LatchPlays.B16 = true := by kernel_rfl
def tontinelaw15_LatchPlays.T17 : Bool × List (List Nat × List Nat) := (true, [([], []), ([], []), ([0, 1], [0, 1]), ([2], [2]), ([3], [3]), ([4, 3, 3], [3, 4]), ([3], [3]), ([6, 3], [3, 6]), ([7, 3], [3, 7]), ([8, 3], [3, 8]), ([5, 9, 3], [3, 5, 9]), ([3, 10], [3, 10]), ([11, 5], [11]), ([12], [12]), ([13, 12, 12], [12, 13]), ([12], [12]), ([15, 12], [12, 15]), ([16, 12], [12, 16]), ([17, 12], [12, 17]), ([14, 18, 14, 12], [12, 14, 18]), ([19, 12], [12, 19]), ([12, 20], [12, 20])])
def tontinelaw15_LatchPlays.B17 : List Nat := [0, 0, 3, 7, 15, 31, 15, 79, 207, 463, 1023, 2047, 4095, 8191, 16383, 8191, 40959, 106495, 237567, 524287, 1048575, 2097151]
theorem tontinelaw15_LatchPlays.tab17 : rtab .any (opsOf Tryd.f4 17) = tontinelaw15_LatchPlays.T17 := by kernel_rfl
theorem tontinelaw15_LatchPlays.bits17 : waitsOk tontinelaw15_LatchPlays.T17.2 tontinelaw15_LatchPlays.B17 = true := by kernel_rfl
set_option maxHeartbeats 8000000 in
set_option maxRecDepth 100000 in
theorem tontinelaw15_LatchPlays.calls (k : Nat) (a0_0 : Int) (a0_1 : Int) (A0_2 : Option Addr) (c0_2 : Nat) (l0_2 : List (List Int)) (A0_3 : Option Addr) (c0_3 : Nat) (l0_3 : List (S60)) (A1 : Option Addr) (c1 : Nat) (l1 : List (S41)) (r : Bool) (hrt : r = true) (w : World) (hld : w.cell? ⟨0, 0, none⟩ = some (.iface 89 (.agg #[.pointer (some ⟨1, 31, none⟩)]))) (hr0_2 : Kd.C (Kd.slice 3 (Kd.int .i64)) w A0_2 l0_2.length l0_2) (hc0_2 : l0_2.length ≤ c0_2) (hr0_3 : Kd.C k60 w A0_3 l0_3.length l0_3) (hc0_3 : l0_3.length ≤ c0_3) (hr1 : Kd.C k41 w A1 l1.length l1) (hc1 : l1.length ≤ c1) (h : tontinelaw15_LatchPlays.f k a0_0 a0_1 l0_2 l0_3 l1 = some r) :
    Calls Tryd.prog 4 #[.agg #[.int .i64 a0_0, .int .i64 a0_1, .slice A0_2 l0_2.length c0_2, .slice A0_3 l0_3.length c0_3], .slice A1 l1.length c1] w fun e w' => e = .returned (.bool r) ∧ Below w.heap.size w w' := by
 have hu25 := Tryd.underlying25; have hu41 := Tryd.underlying41
 have HR0_2 := Goto.m0 hr0_2
 have HC0_2 := Goto.m0 hc0_2
 clear hr0_2 hc0_2
 have HR0_3 := Goto.m0 hr0_3
 have HC0_3 := Goto.m0 hc0_3
 clear hr0_3 hc0_3
 have HR1 := Goto.m0 hr1
 have HC1 := Goto.m0 hc1
 clear hr1 hc1
 have HB := Goto.m0 (Below.refl w.heap.size w)
 have HRT := Goto.m0 hrt
 clear hrt
 have HLD := Goto.m0 hld
 clear hld
 have H : ((tontinelaw15_known.f k).bind fun t350 => (if t350 = true then ((tontinehelp_WideConf.f k a0_0 a0_1 l0_2 l0_3).bind fun t351 => (if t351 = true then (tontinelaw15_LatchPlays.j0 k l1 true a0_0 a0_1 l0_2 l0_3) else ((tontineref1_IsConf.f k a0_0 a0_1 l0_2 l0_3).bind fun t352 => (if t352 = 0 then (tontinelaw15_LatchPlays.j0 k l1 (decide ((l1.length : Int) > 60)) a0_0 a0_1 l0_2 l0_3) else (tontinelaw15_LatchPlays.j0 k l1 true a0_0 a0_1 l0_2 l0_3))))) else (some false))) = some r := h
 clear h
 replace H := Option.bind_eq_some_iff.mp H
 obtain ⟨t350, A30, H⟩ := H
 have A3 := Goto.m0 A30
 clear A30
 by_cases c4 : t350 = true
 ·
  subst c4
  rw [if_pos rfl] at H
  have HC5 := Goto.m0 H
  clear H
  go_enter Tryd.func4, Tryd.ntmps4
  go_upto_region 3 with (first | ((with_reducible refine gate_dst (N := 2) rfl ?_); (try (refine gate_guard (by rfl) ?_; dsimp only)); refine box_event ?hg (N := 2) ?hd (cs := #[.int .i64 a0_0, .int .i64 a0_1, .slice A0_2 l0_2.length c0_2, .slice A0_3 l0_3.length c0_3]) (t := 25) ?hr ?_; (case hd => rfl); (case hg => rfl); (case hr => first | (go_simp; done) | (go_simp; rfl)); intro gb349 hg w6 hbox hb; have BK349 := Goto.m0 (hbox); have GW349 := Goto.gs HB hg; have GE349 := Goto.gs HB hg; replace HB := Goto.hs HB hb; clear hb hbox hg) | ((with_reducible refine gate_callee (f := 17) rfl ?_); refine goesL_ (some 11) rfl rfl Tryd.func17 (by kernel_rfl) rfl #[] rfl (by (try simp only [List.map_toArray, List.map_cons, List.map_nil]); first | done | rfl | (simp only [List.length_drop, List.length_take]; rfl)) ?_; (with_reducible refine (tontinelaw15_known.calls k  true (by first | rfl | assumption | (simp only [Bool.not_eq_true, Bool.not_eq_false] at *; assumption)) _ A3.out).mono ?_); rintro e w7 ⟨rfl, hb⟩; refine ⟨_, rfl, ?_⟩; replace BK349 := Goto.bb BK349 hb; replace HB := Goto.hs HB hb; (try clear hb); (try clear hb2); (try clear hk); (try clear hi)))
  (try simp only [Act.put, List.setIfInBounds_toArray, List.set_cons_zero, List.set_cons_succ])
  go_cut [24] (fun v24 wc => ∃ (kq : Nat) (x24_4 : Bool), v24 = .bool x24_4 ∧ Aside0 (tontinelaw15_LatchPlays.j0 kq l1 x24_4 a0_0 a0_1 l0_2 l0_3 = some r) ∧ Aside0 (kq ≤ k) ∧ Aside0 (wc.heap[gb349]? = some (.cells #[.int .i64 a0_0, .int .i64 a0_1, (.slice A0_2 l0_2.length c0_2), (.slice A0_3 l0_3.length c0_3)] 25 (0, 0))) ∧ Aside0 (Below w.heap.size w wc))
  case first =>
   have H := HC5.out; clear HC5
   replace H := Option.bind_eq_some_iff.mp H
   obtain ⟨t351, A80, H⟩ := H
   have A8 := Goto.m0 A80
   clear A80
   by_cases c9 : t351 = true
   ·
    subst c9
    rw [if_pos rfl] at H
    have H' := Goto.m0 H
    clear H; have hcz10_0 := Goto.bc0 BK349; have hcz10_1 := Goto.bc1 BK349; have hcz10_2 := Goto.bc2 BK349; have hcz10_3 := Goto.bc3 BK349; have hfz10_0 := Goto.bf BK349 0; have hfz10_1 := Goto.bf BK349 1; have hfz10_2 := Goto.bf BK349 2; have hfz10_3 := Goto.bf BK349 3
    go_wp2_with (first | ((with_reducible refine gate_callee (f := 6) rfl ?_); refine goesL_ (some 14) rfl rfl Tryd.func6 (by kernel_rfl) rfl #[.agg #[.int .i64 a0_0, .int .i64 a0_1, .slice A0_2 l0_2.length c0_2, .slice A0_3 l0_3.length c0_3]] rfl (by (try simp only [List.map_toArray, List.map_cons, List.map_nil]); first | done | rfl | (simp only [List.length_drop, List.length_take]; rfl)) ?_; (with_reducible refine (tontinehelp_WideConf.calls k a0_0 a0_1 _ _ l0_2 _ _ l0_3 true _ ?side1 ?side2 ?side3 ?side4 A8.out).mono ?_); (case side1 => repeat (first | exact (Kd.C_below HR0_2.out HB.out) | (with_reducible refine Kd.C_alloc ?_ _) | (with_reducible refine Kd.C_drewN ?_ _) | (with_reducible refine Kd.C_drew ?_))); (case side2 => exact HC0_2.out); (case side3 => repeat (first | exact (Kd.C_below HR0_3.out HB.out) | (with_reducible refine Kd.C_alloc ?_ _) | (with_reducible refine Kd.C_drewN ?_ _) | (with_reducible refine Kd.C_drew ?_))); (case side4 => exact HC0_3.out); rintro e w11 ⟨rfl, hb⟩; refine ⟨_, rfl, ?_⟩; replace BK349 := Goto.bb BK349 hb; replace HB := Goto.hs HB hb; (try clear hb); (try clear hb2); (try clear hk); (try clear hi)))
    go_meet
    case rel => exact ⟨_, (true), (by first | rfl | (simp; done) | (simp [*]; done)), H', ⟨by first | omega | exact Nat.le_refl _⟩, ⟨Goto.bx BK349⟩, ⟨Goto.hx HB⟩⟩
   ·
    replace c9 := Bool.eq_false_iff.mpr c9
    subst c9
    rw [if_neg (show ¬ (false = true) by decide)] at H
    replace H := Option.bind_eq_some_iff.mp H
    obtain ⟨t352, A120, H⟩ := H
    have A12 := Goto.m0 A120
    clear A120
    by_cases c13 : t352 = 0
    ·
     rw [if_pos c13] at H
     have c13b0 : (t352 == 0) = true := beq_iff_eq.mpr c13
     have c13b1 : (t352 != 0) = false := bne_eq_false_iff_eq.mpr c13
     clear c13
     (first | rw [c13b0] | (simp only [i64_w, i32_w]; rw [c13b0]) | skip)
     have H' := Goto.m0 H
     clear H; have hcz14_0 := Goto.bc0 BK349; have hcz14_1 := Goto.bc1 BK349; have hcz14_2 := Goto.bc2 BK349; have hcz14_3 := Goto.bc3 BK349; have hfz14_0 := Goto.bf BK349 0; have hfz14_1 := Goto.bf BK349 1; have hfz14_2 := Goto.bf BK349 2; have hfz14_3 := Goto.bf BK349 3
     go_wp2_with (first | ((with_reducible refine gate_callee (f := 6) rfl ?_); refine goesL_ (some 14) rfl rfl Tryd.func6 (by kernel_rfl) rfl #[.agg #[.int .i64 a0_0, .int .i64 a0_1, .slice A0_2 l0_2.length c0_2, .slice A0_3 l0_3.length c0_3]] rfl (by (try simp only [List.map_toArray, List.map_cons, List.map_nil]); first | done | rfl | (simp only [List.length_drop, List.length_take]; rfl)) ?_; (with_reducible refine (tontinehelp_WideConf.calls k a0_0 a0_1 _ _ l0_2 _ _ l0_3 false _ ?side1 ?side2 ?side3 ?side4 A8.out).mono ?_); (case side1 => repeat (first | exact (Kd.C_below HR0_2.out HB.out) | (with_reducible refine Kd.C_alloc ?_ _) | (with_reducible refine Kd.C_drewN ?_ _) | (with_reducible refine Kd.C_drew ?_))); (case side2 => exact HC0_2.out); (case side3 => repeat (first | exact (Kd.C_below HR0_3.out HB.out) | (with_reducible refine Kd.C_alloc ?_ _) | (with_reducible refine Kd.C_drewN ?_ _) | (with_reducible refine Kd.C_drew ?_))); (case side4 => exact HC0_3.out); rintro e w15 ⟨rfl, hb⟩; refine ⟨_, rfl, ?_⟩; replace BK349 := Goto.bb BK349 hb; replace HB := Goto.hs HB hb; (try clear hb); (try clear hb2); (try clear hk); (try clear hi); have hcz16_0 := Goto.bc0 BK349; have hcz16_1 := Goto.bc1 BK349; have hcz16_2 := Goto.bc2 BK349; have hcz16_3 := Goto.bc3 BK349; have hfz16_0 := Goto.bf BK349 0; have hfz16_1 := Goto.bf BK349 1; have hfz16_2 := Goto.bf BK349 2; have hfz16_3 := Goto.bf BK349 3) | (go_at_call 7; (with_reducible refine (tontineref1_IsConf.calls k a0_0 a0_1 _ _ l0_2 _ _ l0_3 t352 _ ?side1 ?side2 ?side3 ?side4 A12.out).mono ?_); (case side1 => repeat (first | exact (Kd.C_below HR0_2.out HB.out) | (with_reducible refine Kd.C_alloc ?_ _) | (with_reducible refine Kd.C_drewN ?_ _) | (with_reducible refine Kd.C_drew ?_))); (case side2 => exact HC0_2.out); (case side3 => repeat (first | exact (Kd.C_below HR0_3.out HB.out) | (with_reducible refine Kd.C_alloc ?_ _) | (with_reducible refine Kd.C_drewN ?_ _) | (with_reducible refine Kd.C_drew ?_))); (case side4 => exact HC0_3.out); rintro e w17 ⟨rfl, hb⟩; replace BK349 := Goto.bb BK349 hb; replace HB := Goto.hs HB hb; (try clear hb); (try clear hb2); (try clear hk); (try clear hi)))
     go_meet
     case rel => exact ⟨_, (decide ((l1.length : Int) > 60)), (by first | rfl | (simp; done) | (simp [*]; done)), H', ⟨by first | omega | exact Nat.le_refl _⟩, ⟨Goto.bx BK349⟩, ⟨Goto.hx HB⟩⟩
    ·
     rw [if_neg c13] at H
     have c13b0 : (t352 == 0) = false := beq_eq_false_iff_ne.mpr c13
     have c13b1 : (t352 != 0) = true := bne_iff_ne.mpr c13
     (first | rw [c13b0] | (simp only [i64_w, i32_w]; rw [c13b0]) | skip)
     have H' := Goto.m0 H
     clear H; have hcz18_0 := Goto.bc0 BK349; have hcz18_1 := Goto.bc1 BK349; have hcz18_2 := Goto.bc2 BK349; have hcz18_3 := Goto.bc3 BK349; have hfz18_0 := Goto.bf BK349 0; have hfz18_1 := Goto.bf BK349 1; have hfz18_2 := Goto.bf BK349 2; have hfz18_3 := Goto.bf BK349 3
     go_wp2_with (first | ((with_reducible refine gate_callee (f := 6) rfl ?_); refine goesL_ (some 14) rfl rfl Tryd.func6 (by kernel_rfl) rfl #[.agg #[.int .i64 a0_0, .int .i64 a0_1, .slice A0_2 l0_2.length c0_2, .slice A0_3 l0_3.length c0_3]] rfl (by (try simp only [List.map_toArray, List.map_cons, List.map_nil]); first | done | rfl | (simp only [List.length_drop, List.length_take]; rfl)) ?_; (with_reducible refine (tontinehelp_WideConf.calls k a0_0 a0_1 _ _ l0_2 _ _ l0_3 false _ ?side1 ?side2 ?side3 ?side4 A8.out).mono ?_); (case side1 => repeat (first | exact (Kd.C_below HR0_2.out HB.out) | (with_reducible refine Kd.C_alloc ?_ _) | (with_reducible refine Kd.C_drewN ?_ _) | (with_reducible refine Kd.C_drew ?_))); (case side2 => exact HC0_2.out); (case side3 => repeat (first | exact (Kd.C_below HR0_3.out HB.out) | (with_reducible refine Kd.C_alloc ?_ _) | (with_reducible refine Kd.C_drewN ?_ _) | (with_reducible refine Kd.C_drew ?_))); (case side4 => exact HC0_3.out); rintro e w19 ⟨rfl, hb⟩; refine ⟨_, rfl, ?_⟩; replace BK349 := Goto.bb BK349 hb; replace HB := Goto.hs HB hb; (try clear hb); (try clear hb2); (try clear hk); (try clear hi); have hcz20_0 := Goto.bc0 BK349; have hcz20_1 := Goto.bc1 BK349; have hcz20_2 := Goto.bc2 BK349; have hcz20_3 := Goto.bc3 BK349; have hfz20_0 := Goto.bf BK349 0; have hfz20_1 := Goto.bf BK349 1; have hfz20_2 := Goto.bf BK349 2; have hfz20_3 := Goto.bf BK349 3) | (go_at_call 7; (with_reducible refine (tontineref1_IsConf.calls k a0_0 a0_1 _ _ l0_2 _ _ l0_3 t352 _ ?side1 ?side2 ?side3 ?side4 A12.out).mono ?_); (case side1 => repeat (first | exact (Kd.C_below HR0_2.out HB.out) | (with_reducible refine Kd.C_alloc ?_ _) | (with_reducible refine Kd.C_drewN ?_ _) | (with_reducible refine Kd.C_drew ?_))); (case side2 => exact HC0_2.out); (case side3 => repeat (first | exact (Kd.C_below HR0_3.out HB.out) | (with_reducible refine Kd.C_alloc ?_ _) | (with_reducible refine Kd.C_drewN ?_ _) | (with_reducible refine Kd.C_drew ?_))); (case side4 => exact HC0_3.out); rintro e w21 ⟨rfl, hb⟩; replace BK349 := Goto.bb BK349 hb; replace HB := Goto.hs HB hb; (try clear hb); (try clear hb2); (try clear hk); (try clear hi)))
     go_meet
     case rel => exact ⟨_, (true), (by first | rfl | (simp; done) | (simp [*]; done)), H', ⟨by first | omega | exact Nat.le_refl _⟩, ⟨Goto.bx BK349⟩, ⟨Goto.hx HB⟩⟩
  case rest =>
   clear HC5; try clear c1; try clear p2; try clear c4; try clear c6; try clear c9; try clear c13; try clear c13b0; try clear c13b1; try clear c17; try clear hcz10_0; try clear hcz10_1; try clear hcz10_2; try clear hcz10_3; try clear hcz14_0; try clear hcz14_1; try clear hcz14_2; try clear hcz14_3; try clear hcz16_0; try clear hcz16_1; try clear hcz16_2; try clear hcz16_3; try clear hcz18_0; try clear hcz18_1; try clear hcz18_2; try clear hcz18_3; try clear hcz20_0; try clear hcz20_1; try clear hcz20_2; try clear hcz20_3; try clear hfz10_0; try clear hfz10_1; try clear hfz10_2; try clear hfz10_3; try clear hfz14_0; try clear hfz14_1; try clear hfz14_2; try clear hfz14_3; try clear hfz16_0; try clear hfz16_1; try clear hfz16_2; try clear hfz16_3; try clear hfz18_0; try clear hfz18_1; try clear hfz18_2; try clear hfz18_3; try clear hfz20_0; try clear hfz20_1; try clear hfz20_2; try clear hfz20_3
   obtain ⟨kq, x24_4, rfl, HA, HJ4, BK349, HB⟩ := hcut
   cases kq with
   | zero => exact absurd HA.out (by simp [tontinelaw15_LatchPlays.j0])
   | succ kj4 =>
    have H := HA.out; clear HA
    simp only [tontinelaw15_LatchPlays.j0] at H
    by_cases c22 : x24_4 = true
    ·
     subst c22
     rw [if_pos rfl] at H
     obtain rfl := Option.some.inj H
     go_wp2
     go_ret
     exact ⟨Goto.er, by repeat (first | (with_reducible first | exact HB.out | apply below_alloc | apply pw_below_drewN | apply below_drew1 | refine below_set ?_ GE349.out) | exact HB.out)⟩
    ·
     replace c22 := Bool.eq_false_iff.mpr c22
     subst c22
     rw [if_neg (show ¬ (false = true) by decide)] at H
     replace H := Option.bind_eq_some_iff.mp H
     obtain ⟨⟨t354, t355, t356, t357, t360, t361⟩, A230, H⟩ := H
     replace H : ((tontineref15_NewLatch.f a0_0 a0_1 l0_2 l0_3).bind fun bt365 => (tontinelaw15_LatchPlays.l0 kj4 l1 0 t354 t355 l0_2 l0_3 t356 t357 t360 t361 bt365.1 bt365.2.1 l0_2 l0_3 bt365.2.2.1 bt365.2.2.2.1 bt365.2.2.2.2.1 bt365.2.2.2.2.2)) = some r := H
     have A23 := Goto.m0 A230
     clear A230
     replace H := Option.bind_eq_some_iff.mp H
     obtain ⟨⟨t365, t366, t367, t368, t369, t372⟩, A240, H⟩ := H
     replace H : (tontinelaw15_LatchPlays.l0 kj4 l1 0 t354 t355 l0_2 l0_3 t356 t357 t360 t361 t365 t366 l0_2 l0_3 t367 t368 t369 t372) = some r := H
     have A24 := Goto.m0 A240
     clear A240
     have H' := Goto.m0 H
     clear H
     try go_wp2
     replace BK349 := Goto.m0 (blk_drew BK349.out); replace HB := Goto.m0 (below_drew1 HB.out)
     refine start_ (n := 6) (S := fun w' => w'.cell? ⟨gb349, 0, none⟩ = some (.int .i64 a0_0) ∧ w'.cell? ⟨gb349, 1, none⟩ = some (.int .i64 a0_1) ∧ w'.cell? ⟨gb349, 2, none⟩ = some (.slice A0_2 l0_2.length c0_2) ∧ w'.cell? ⟨gb349, 3, none⟩ = some (.slice A0_3 l0_3.length c0_3)) (ds := []) #[false, false, false, false, false, false] (by kernel_rfl) rfl rfl ⟨(blk_cell BK349.out 0).trans rfl, (blk_cell BK349.out 1).trans rfl, (blk_cell BK349.out 2).trans rfl, (blk_cell BK349.out 3).trans rfl⟩ (fun hHeld => ?_)
     generalize wc.drew = w25 at BK349 HB hHeld ⊢
     refine take_ (i := 0) (N := some 25) (v := ?_) (a' := ?_) #[true, false, false, false, false, false] rfl rfl (by kernel_rfl) (fun _ _ _ h => h) (Or.inl ⟨by rfl, ?_⟩) hHeld ?_ ?_
     rotate_left
     ·
      rintro w' ⟨s0, s1, s2, s3⟩
      go_simp
      with_reducible rfl
     rotate_left
     ·
      exact Goto.ap
     refine take_ (i := 2) (N := some 27) (v := ?_) (a' := ?_) #[true, false, true, false, false, false] rfl rfl (by kernel_rfl) (fun _ _ _ h => h) (Or.inl ⟨by rfl, ?_⟩) hHeld ?_ ?_
     rotate_left
     ·
      rintro w' ⟨s0, s1, s2, s3⟩
      go_simp
      with_reducible rfl
     rotate_left
     ·
      exact Goto.ap
     refine one_ (i := 1) (N := some 26) #[true, true, true, false, false, false] rfl rfl (by kernel_rfl) (by decide) (fun K hK => ?_)
     refine goes_ Tryd.func18 (by kernel_rfl) rfl #[.agg #[.int .i64 a0_0, .int .i64 a0_1, .slice A0_2 l0_2.length c0_2, .slice A0_3 l0_3.length c0_3]] (by rfl) rfl rfl (by (try simp only [List.map_toArray, List.map_cons, List.map_nil]); first | done | rfl | (simp only [List.length_drop, List.length_take]; rfl)) ?_
     with_reducible refine (latch_New.calls a0_0 a0_1 _ _ l0_2 _ _ l0_3 t354 t355 t356 t357 t360 t361 _ ?side1 ?side2 ?side3 ?side4 A23.out).mono ?_
     (case side1 => repeat (first | exact (Kd.C_below HR0_2.out HB.out) | (with_reducible refine Kd.C_alloc ?_ _) | (with_reducible refine Kd.C_drewN ?_ _) | (with_reducible refine Kd.C_drew ?_)))
     (case side2 => exact HC0_2.out)
     (case side3 => repeat (first | exact (Kd.C_below HR0_3.out HB.out) | (with_reducible refine Kd.C_alloc ?_ _) | (with_reducible refine Kd.C_drewN ?_ _) | (with_reducible refine Kd.C_drew ?_)))
     (case side4 => exact HC0_3.out)
     rintro e w26 ⟨v358, v362, gb353, rfl, ho0, ho1, hi, hge, hb⟩
     refine ⟨_, rfl, ?_⟩
     have HO359 := Goto.m0 (Kd.R_lower ho0 (below_size (Goto.hx HB))); have HO363 := Goto.m0 (Kd.R_lower ho1 (below_size (Goto.hx HB))); have BK353 := Goto.m0 (hi); have GW353 := Goto.m0 ((Nat.le_trans (below_size (Goto.hx HB)) hge : w.heap.size ≤ gb353)); have GE353 := Goto.m0 ((Nat.le_trans (below_size (Goto.hx HB)) hge : w.heap.size ≤ gb353)); have NB349_353 := Goto.m0 ((Nat.ne_of_lt (Nat.lt_of_lt_of_le (blk_lt (g := gb349) (o := .cells #[.int .i64 a0_0, .int .i64 a0_1, .slice A0_2 l0_2.length c0_2, .slice A0_3 l0_3.length c0_3] 25 (0, 0)) (Goto.bx BK349)) hge) : gb349 ≠ gb353)); have NB353_349 := Goto.m0 ((Nat.ne_of_gt (Nat.lt_of_lt_of_le (blk_lt (g := gb349) (o := .cells #[.int .i64 a0_0, .int .i64 a0_1, .slice A0_2 l0_2.length c0_2, .slice A0_3 l0_3.length c0_3] 25 (0, 0)) (Goto.bx BK349)) hge) : gb353 ≠ gb349)); replace BK349 := Goto.bb BK349 hb; replace HB := Goto.hs HB hb
     (try clear hb)
     (try clear hi)
     (try clear hge)
     (try clear ho0)
     (try clear ho1)
     refine hK.out _ _ ⟨(blk_cell BK349.out 0).trans rfl, (blk_cell BK349.out 1).trans rfl, (blk_cell BK349.out 2).trans rfl, (blk_cell BK349.out 3).trans rfl⟩ (fun hHeld => ?_)
     clear hK K
     refine norm_ (a' := ?_) ?_ ?_
     rotate_left
     ·
      show Act.put _ (some 26) _ = _
      exact Goto.ap
     refine one_ (i := 3) (N := some 28) #[true, true, true, true, false, false] rfl rfl (by kernel_rfl) (by decide) (fun K hK => ?_)
     refine goes_ Tryd.func19 (by kernel_rfl) rfl #[.agg #[.int .i64 a0_0, .int .i64 a0_1, .slice A0_2 l0_2.length c0_2, .slice A0_3 l0_3.length c0_3]] (by rfl) rfl rfl (by (try simp only [List.map_toArray, List.map_cons, List.map_nil]); first | done | rfl | (simp only [List.length_drop, List.length_take]; rfl)) ?_
     with_reducible refine (tontineref15_NewLatch.calls a0_0 a0_1 _ _ l0_2 _ _ l0_3 t365 t366 t367 t368 t369 t372 _ ?side1 ?side2 ?side3 ?side4 A24.out).mono ?_
     (case side1 => repeat (first | exact (Kd.C_below HR0_2.out HB.out) | (with_reducible refine Kd.C_alloc ?_ _) | (with_reducible refine Kd.C_drewN ?_ _) | (with_reducible refine Kd.C_drew ?_)))
     (case side2 => exact HC0_2.out)
     (case side3 => repeat (first | exact (Kd.C_below HR0_3.out HB.out) | (with_reducible refine Kd.C_alloc ?_ _) | (with_reducible refine Kd.C_drewN ?_ _) | (with_reducible refine Kd.C_drew ?_)))
     (case side4 => exact HC0_3.out)
     rintro e w27 ⟨v370, v373, gb364, rfl, ho0, ho1, hi, hge, hb⟩
     refine ⟨_, rfl, ?_⟩
     have HO371 := Goto.m0 (Kd.R_lower (Kd.R_new' (Kd.R_new' ho0 (Kd.R_lt (Goto.rk HO359))) (Kd.R_lt (Goto.rk HO363))) (below_size (Goto.hx HB))); have HO374 := Goto.m0 (Kd.R_lower (Kd.R_new' (Kd.R_new' ho1 (Kd.R_lt (Goto.rk HO359))) (Kd.R_lt (Goto.rk HO363))) (below_size (Goto.hx HB))); have BK364 := Goto.m0 (hi); have GW364 := Goto.m0 ((Nat.le_trans (below_size (Goto.hx HB)) hge : w.heap.size ≤ gb364)); have GE364 := Goto.m0 ((Nat.le_trans (below_size (Goto.hx HB)) hge : w.heap.size ≤ gb364)); have NB349_364 := Goto.m0 ((Nat.ne_of_lt (Nat.lt_of_lt_of_le (blk_lt (g := gb349) (o := .cells #[.int .i64 a0_0, .int .i64 a0_1, .slice A0_2 l0_2.length c0_2, .slice A0_3 l0_3.length c0_3] 25 (0, 0)) (Goto.bx BK349)) hge) : gb349 ≠ gb364)); have NB364_349 := Goto.m0 ((Nat.ne_of_gt (Nat.lt_of_lt_of_le (blk_lt (g := gb349) (o := .cells #[.int .i64 a0_0, .int .i64 a0_1, .slice A0_2 l0_2.length c0_2, .slice A0_3 l0_3.length c0_3] 25 (0, 0)) (Goto.bx BK349)) hge) : gb364 ≠ gb349)); have NB353_364 := Goto.m0 ((Nat.ne_of_lt (Nat.lt_of_lt_of_le (blk_lt (g := gb353) (o := .cells #[.int .i64 t354, .int .i64 t355, .slice A0_2 l0_2.length c0_2, .slice A0_3 l0_3.length c0_3, .int .i64 t356, v358, .int .i64 t360, v362] 70 (0, 0)) (Goto.bx BK353)) hge) : gb353 ≠ gb364)); have NB364_353 := Goto.m0 ((Nat.ne_of_gt (Nat.lt_of_lt_of_le (blk_lt (g := gb353) (o := .cells #[.int .i64 t354, .int .i64 t355, .slice A0_2 l0_2.length c0_2, .slice A0_3 l0_3.length c0_3, .int .i64 t356, v358, .int .i64 t360, v362] 70 (0, 0)) (Goto.bx BK353)) hge) : gb364 ≠ gb353)); replace HO359 := Goto.m0 (Kd.R_mono (Kd.R_told (Kd.R_told (Kd.R_old (Goto.rk HO359) hb) (Kd.R_base ho0)) (Kd.R_base ho1)) (fun _ h_ => h_.1)); replace HO363 := Goto.m0 (Kd.R_mono (Kd.R_told (Kd.R_told (Kd.R_old (Goto.rk HO363) hb) (Kd.R_base ho0)) (Kd.R_base ho1)) (fun _ h_ => h_.1)); replace BK349 := Goto.bb BK349 hb; replace BK353 := Goto.bb BK353 hb; replace HB := Goto.hs HB hb
     (try clear hb)
     (try clear hi)
     (try clear hge)
     (try clear ho0)
     (try clear ho1)
     refine hK.out _ _ ⟨(blk_cell BK349.out 0).trans rfl, (blk_cell BK349.out 1).trans rfl, (blk_cell BK349.out 2).trans rfl, (blk_cell BK349.out 3).trans rfl⟩ (fun hHeld => ?_)
     clear hK K
     refine norm_ (a' := ?_) ?_ ?_
     rotate_left
     ·
      show Act.put _ (some 28) _ = _
      exact Goto.ap
     refine pure_ (i := 4) (N := some 5) (v := ?_) (a' := ?_) #[true, true, true, true, true, false] rfl rfl (by kernel_rfl) (fun _ _ _ h => h) (Or.inl ⟨by rfl, ?_⟩) ?_ ?_
     rotate_left
     ·
      intro w'
      go_simp
      with_reducible rfl
     rotate_left
     ·
      exact Goto.ap
     refine pure_ (i := 5) (N := some 6) (v := ?_) (a' := ?_) #[true, true, true, true, true, true] rfl rfl (by kernel_rfl) (fun _ _ _ h => h) (Or.inl ⟨by rfl, ?_⟩) ?_ ?_
     rotate_left
     ·
      intro w'
      go_simp
      with_reducible rfl
     rotate_left
     ·
      exact Goto.ap
     refine done_ (by kernel_rfl) ?_
     try go_wp2
     go_loopg [7] kj4 (fun kq v7 w' => ∃ (x7_2 : Int) (x354004_2 : Int) (x354005_2 : List Int) (x354006_2 : Int) (x354007_2 : List Int) (x365004_2 : Int) (x365005_2 : Int) (x365006_2 : List Int) (x365007_2 : List Int) (u354005 : Value) (u354007 : Value) (u365006 : Value) (u365007 : Value), v7 = .int .i64 x7_2 ∧ Aside0 (tontinelaw15_LatchPlays.l0 kq l1 x7_2 t354 t355 l0_2 l0_3 x354004_2 x354005_2 x354006_2 x354007_2 t365 t366 l0_2 l0_3 x365004_2 x365005_2 x365006_2 x365007_2 = some r) ∧ Aside0 (kq ≤ kj4) ∧ Aside0 (Kd.R (Kd.int .i64) 3 w' w.heap.size (fun k_ => some k_ ≠ (u354007 : Value).ownBlock ∧ some k_ ≠ (u365006 : Value).ownBlock ∧ some k_ ≠ (u365007 : Value).ownBlock) u354005 x354005_2) ∧ Aside0 (Kd.R (Kd.int .i64) 3 w' w.heap.size (fun k_ => some k_ ≠ (u354005 : Value).ownBlock ∧ some k_ ≠ (u365006 : Value).ownBlock ∧ some k_ ≠ (u365007 : Value).ownBlock) u354007 x354007_2) ∧ Aside0 (Kd.R (Kd.int .i64) 3 w' w.heap.size (fun k_ => some k_ ≠ (u354005 : Value).ownBlock ∧ some k_ ≠ (u354007 : Value).ownBlock ∧ some k_ ≠ (u365007 : Value).ownBlock) u365006 x365006_2) ∧ Aside0 (Kd.R (Kd.int .i64) 3 w' w.heap.size (fun k_ => some k_ ≠ (u354005 : Value).ownBlock ∧ some k_ ≠ (u354007 : Value).ownBlock ∧ some k_ ≠ (u365006 : Value).ownBlock) u365007 x365007_2) ∧ Aside0 (w'.heap[gb349]? = some (.cells #[.int .i64 a0_0, .int .i64 a0_1, (.slice A0_2 l0_2.length c0_2), (.slice A0_3 l0_3.length c0_3)] 25 (0, 0))) ∧ Aside0 (w'.heap[gb353]? = some (.cells #[.int .i64 t354, .int .i64 t355, (.slice A0_2 l0_2.length c0_2), (.slice A0_3 l0_3.length c0_3), .int .i64 x354004_2, u354005, .int .i64 x354006_2, u354007] 70 (0, 0))) ∧ Aside0 (w'.heap[gb364]? = some (.cells #[.int .i64 t365, .int .i64 t366, (.slice A0_2 l0_2.length c0_2), (.slice A0_3 l0_3.length c0_3), .int .i64 x365004_2, .int .i64 x365005_2, u365006, u365007] 49 (0, 0))) ∧ Aside0 (Below w.heap.size w w'))
     case atStart => exact ⟨(0), (t356), (t357), (t360), (t361), (t367), (t368), (t369), (t372), (v358), (v362), (v370), (v373), (by first | rfl | (simp; done) | (simp [*]; done)), H', ⟨Nat.le_refl _⟩, ⟨by (with_reducible repeat (first | apply Kd.R_alloc | apply Kd.R_drewN | apply Kd.R_drew)); exact Kd.R_mono HO359.out (fun _ hk => ⟨hk.1.1, ⟨hk.1.2, hk.2⟩⟩)⟩, ⟨by (with_reducible repeat (first | apply Kd.R_alloc | apply Kd.R_drewN | apply Kd.R_drew)); exact Kd.R_mono HO363.out (fun _ hk => ⟨hk.1.1, ⟨hk.1.2, hk.2⟩⟩)⟩, ⟨by (with_reducible repeat (first | apply Kd.R_alloc | apply Kd.R_drewN | apply Kd.R_drew)); exact Kd.R_mono HO371.out (fun _ hk => ⟨hk.1.2, ⟨hk.2, hk.1.1⟩⟩)⟩, ⟨by (with_reducible repeat (first | apply Kd.R_alloc | apply Kd.R_drewN | apply Kd.R_drew)); exact Kd.R_mono HO374.out (fun _ hk => ⟨hk.1.2, ⟨hk.2, hk.1.1⟩⟩)⟩, ⟨Goto.bx BK349⟩, ⟨Goto.bx BK353⟩, ⟨Goto.bx BK364⟩, ⟨Goto.hx HB⟩⟩
     case round =>
      clear H'
      try clear c1; try clear c2; try clear p2; try clear c4; try clear c6; try clear c9; try clear c13; try clear c13b0; try clear c13b1; try clear c17; try clear c18; try clear c19; try clear c22; try clear hcz10_0; try clear hcz10_1; try clear hcz10_2; try clear hcz10_3; try clear hcz14_0; try clear hcz14_1; try clear hcz14_2; try clear hcz14_3; try clear hcz16_0; try clear hcz16_1; try clear hcz16_2; try clear hcz16_3; try clear hcz18_0; try clear hcz18_1; try clear hcz18_2; try clear hcz18_3; try clear hcz20_0; try clear hcz20_1; try clear hcz20_2; try clear hcz20_3; try clear hfz10_0; try clear hfz10_1; try clear hfz10_2; try clear hfz10_3; try clear hfz14_0; try clear hfz14_1; try clear hfz14_2; try clear hfz14_3; try clear hfz16_0; try clear hfz16_1; try clear hfz16_2; try clear hfz16_3; try clear hfz18_0; try clear hfz18_1; try clear hfz18_2; try clear hfz18_3; try clear hfz20_0; try clear hfz20_1; try clear hfz20_2; try clear hfz20_3; try clear p2
      obtain ⟨x7_2, x354004_2, x354005_2, x354006_2, x354007_2, x365004_2, x365005_2, x365006_2, x365007_2, u354005, u354007, u365006, u365007, rfl, HA, HK2, HO_354005, HO_354007, HO_365006, HO_365007, BK349, BK353, BK364, HB⟩ := hrel
      cases gk with
      | zero => exact absurd HA.out (by simp [tontinelaw15_LatchPlays.l0])
      | succ k2 =>
       have H := HA.out; clear HA
       simp only [tontinelaw15_LatchPlays.l0] at H
       by_cases c28 : x7_2 < (l1.length : Int)
       ·
        rw [if_pos c28] at H
        have c28b0 : decide (x7_2 < (l1.length : Int)) = true := decide_eq_true c28
        clear c28
        by_cases c29 : 0 ≤ x7_2
        ·
         rw [if_pos c29] at H
         have c29b0 : decide (0 ≤ x7_2) = true := decide_eq_true c29
         clear c29
         have HC30 := Goto.m0 H
         clear H
         have p375 : 0 ≤ (x7_2 : Int) := Goto.od
         have q375 : x7_2 < (l1.length : Int) := Goto.od
         obtain ⟨ad375, e375, hx375_0, hx375_1, hx375_2⟩ := at_T41 HR1.out x7_2 p375 q375
         cases e375
         replace hx375_0 := Goto.kc HB.out hx375_0
         replace hx375_1 := Goto.kc HB.out hx375_1
         replace hx375_2 := Goto.kc HB.out hx375_2
         replace p375 := eq_true p375; replace q375 := eq_true q375
         go_upto_block 2 with (first | ((with_reducible refine gate_dst (N := 8) rfl ?_); (try (refine gate_guard (by rfl) ?_; dsimp only)); refine box_event ?hg (N := 8) ?hd (cs := #[.int .i64 0, .int .i64 0, .int .i64 0]) (t := 41) ?hr ?_; (case hd => rfl); (case hg => rfl); (case hr => first | (go_simp; done) | (go_simp; rfl)); intro gb376 hg w31 hbox hb; have BK376 := Goto.m0 (hbox); have GW376 := Goto.gs HB hg; have GE376 := Goto.gs HB hg; have NB349_376 := Goto.nl BK349 hg; have NB376_349 := Goto.nr BK349 hg; have NB353_376 := Goto.nl BK353 hg; have NB376_353 := Goto.nr BK353 hg; have NB364_376 := Goto.nl BK364 hg; have NB376_364 := Goto.nr BK364 hg; replace HO_354005 := Goto.m0 (Kd.R_below (Goto.rk HO_354005) hb); replace HO_354007 := Goto.m0 (Kd.R_below (Goto.rk HO_354007) hb); replace HO_365006 := Goto.m0 (Kd.R_below (Goto.rk HO_365006) hb); replace HO_365007 := Goto.m0 (Kd.R_below (Goto.rk HO_365007) hb); replace BK349 := Goto.bb BK349 hb; replace BK353 := Goto.bb BK353 hb; replace BK364 := Goto.bb BK364 hb; replace HB := Goto.hs HB hb; clear hb hbox hg; have hnb32 := NB376_349.out; have hnc32 := NB349_376.out; have hnb33 := NB376_353.out; have hnc33 := NB353_376.out; have hnb34 := NB376_364.out; have hnc34 := NB364_376.out; have hcz35_0 := Goto.bc0 BK376; have hcz35_1 := Goto.bc1 BK376; have hcz35_2 := Goto.bc2 BK376; have hfz35_0 := Goto.bf BK376 0; have hfz35_1 := Goto.bf BK376 1; have hfz35_2 := Goto.bf BK376 2) | ((with_reducible refine gate_store (t := 41) (p := 8) rfl ?_); refine store_event (t := 41) (p := 8) (v := ?vo_w36) (w1 := (((w31.setCell ⟨gb376, 0, none⟩ (.int .i64 ((rd_T41 l1 x7_2).f0))).setCell ⟨gb376, 1, none⟩ (.int .i64 ((rd_T41 l1 x7_2).f1))).setCell ⟨gb376, 2, none⟩ (.int .i64 ((rd_T41 l1 x7_2).f2)))) ?hg ?ho ?hn ?hr ?_; (case ho => rfl); (case hg => rfl); (case hn => rfl); (case hr => first | (go_simp; done) | (go_simp; rfl)); intro w36 hw; have n0_ : Aside0 (Kd.R (Kd.int .i64) 3 w36 w.heap.size (fun k_ => some k_ ≠ (u354007 : Value).ownBlock ∧ some k_ ≠ (u365006 : Value).ownBlock ∧ some k_ ≠ (u365007 : Value).ownBlock) u354005 x354005_2) := ⟨(by rw [hw]; exact (by (with_reducible repeat (first | apply Kd.R_alloc | apply Kd.R_drewN | apply Kd.R_drew)); exact Kd.R_mono (Kd.R_far (p := ⟨gb376, 2, none⟩) (Kd.R_far (p := ⟨gb376, 1, none⟩) (Kd.R_far (p := ⟨gb376, 0, none⟩) (Kd.R_types HO_354005.out BK376.out (by decide)) (fun _ hk => hk.2) (.int .i64 ((rd_T41 l1 x7_2).f0))) (fun _ hk => hk.2) (.int .i64 ((rd_T41 l1 x7_2).f1))) (fun _ hk => hk.2) (.int .i64 ((rd_T41 l1 x7_2).f2))) (fun _ hk => ⟨hk.1.1, ⟨hk.1.2.1, hk.1.2.2⟩⟩)))⟩; have n1_ : Aside0 (Kd.R (Kd.int .i64) 3 w36 w.heap.size (fun k_ => some k_ ≠ (u354005 : Value).ownBlock ∧ some k_ ≠ (u365006 : Value).ownBlock ∧ some k_ ≠ (u365007 : Value).ownBlock) u354007 x354007_2) := ⟨(by rw [hw]; exact (by (with_reducible repeat (first | apply Kd.R_alloc | apply Kd.R_drewN | apply Kd.R_drew)); exact Kd.R_mono (Kd.R_far (p := ⟨gb376, 2, none⟩) (Kd.R_far (p := ⟨gb376, 1, none⟩) (Kd.R_far (p := ⟨gb376, 0, none⟩) (Kd.R_types HO_354007.out BK376.out (by decide)) (fun _ hk => hk.2) (.int .i64 ((rd_T41 l1 x7_2).f0))) (fun _ hk => hk.2) (.int .i64 ((rd_T41 l1 x7_2).f1))) (fun _ hk => hk.2) (.int .i64 ((rd_T41 l1 x7_2).f2))) (fun _ hk => ⟨hk.1.1, ⟨hk.1.2.1, hk.1.2.2⟩⟩)))⟩; have n2_ : Aside0 (Kd.R (Kd.int .i64) 3 w36 w.heap.size (fun k_ => some k_ ≠ (u354005 : Value).ownBlock ∧ some k_ ≠ (u354007 : Value).ownBlock ∧ some k_ ≠ (u365007 : Value).ownBlock) u365006 x365006_2) := ⟨(by rw [hw]; exact (by (with_reducible repeat (first | apply Kd.R_alloc | apply Kd.R_drewN | apply Kd.R_drew)); exact Kd.R_mono (Kd.R_far (p := ⟨gb376, 2, none⟩) (Kd.R_far (p := ⟨gb376, 1, none⟩) (Kd.R_far (p := ⟨gb376, 0, none⟩) (Kd.R_types HO_365006.out BK376.out (by decide)) (fun _ hk => hk.2) (.int .i64 ((rd_T41 l1 x7_2).f0))) (fun _ hk => hk.2) (.int .i64 ((rd_T41 l1 x7_2).f1))) (fun _ hk => hk.2) (.int .i64 ((rd_T41 l1 x7_2).f2))) (fun _ hk => ⟨hk.1.1, ⟨hk.1.2.1, hk.1.2.2⟩⟩)))⟩; have n3_ : Aside0 (Kd.R (Kd.int .i64) 3 w36 w.heap.size (fun k_ => some k_ ≠ (u354005 : Value).ownBlock ∧ some k_ ≠ (u354007 : Value).ownBlock ∧ some k_ ≠ (u365006 : Value).ownBlock) u365007 x365007_2) := ⟨(by rw [hw]; exact (by (with_reducible repeat (first | apply Kd.R_alloc | apply Kd.R_drewN | apply Kd.R_drew)); exact Kd.R_mono (Kd.R_far (p := ⟨gb376, 2, none⟩) (Kd.R_far (p := ⟨gb376, 1, none⟩) (Kd.R_far (p := ⟨gb376, 0, none⟩) (Kd.R_types HO_365007.out BK376.out (by decide)) (fun _ hk => hk.2) (.int .i64 ((rd_T41 l1 x7_2).f0))) (fun _ hk => hk.2) (.int .i64 ((rd_T41 l1 x7_2).f1))) (fun _ hk => hk.2) (.int .i64 ((rd_T41 l1 x7_2).f2))) (fun _ hk => ⟨hk.1.1, ⟨hk.1.2.1, hk.1.2.2⟩⟩)))⟩; have n4_ : Aside0 (w36.heap[gb349]? = some (.cells #[.int .i64 a0_0, .int .i64 a0_1, .slice A0_2 l0_2.length c0_2, .slice A0_3 l0_3.length c0_3] 25 (0, 0))) := ⟨(by rw [hw]; exact (Goto.bx BK349))⟩; have n5_ : Aside0 (w36.heap[gb353]? = some (.cells #[.int .i64 t354, .int .i64 t355, .slice A0_2 l0_2.length c0_2, .slice A0_3 l0_3.length c0_3, .int .i64 x354004_2, u354005, .int .i64 x354006_2, u354007] 70 (0, 0))) := ⟨(by rw [hw]; exact (Goto.bx BK353))⟩; have n6_ : Aside0 (w36.heap[gb364]? = some (.cells #[.int .i64 t365, .int .i64 t366, .slice A0_2 l0_2.length c0_2, .slice A0_3 l0_3.length c0_3, .int .i64 x365004_2, .int .i64 x365005_2, u365006, u365007] 49 (0, 0))) := ⟨(by rw [hw]; exact (Goto.bx BK364))⟩; have n7_ : Aside0 (w36.heap[gb376]? = some (.cells #[.int .i64 ((rd_T41 l1 x7_2).f0), .int .i64 ((rd_T41 l1 x7_2).f1), .int .i64 ((rd_T41 l1 x7_2).f2)] 41 (0, 0))) := ⟨(by rw [hw]; exact (Goto.bx BK376))⟩; have n8_ : Aside0 (Below w.heap.size w w36) := ⟨(by rw [hw]; exact (Goto.hx HB))⟩; clear hw; clear HO_354005; clear HO_354007; clear HO_365006; clear HO_365007; clear BK349; clear BK353; clear BK364; clear BK376; clear HB; have HO_354005 := n0_; have HO_354007 := n1_; have HO_365006 := n2_; have HO_365007 := n3_; have BK349 := n4_; have BK353 := n5_; have BK364 := n6_; have BK376 := n7_; have HB := n8_; clear n0_ n1_ n2_ n3_ n4_ n5_ n6_ n7_ n8_))
         (try simp only [Act.put, List.setIfInBounds_toArray, List.set_cons_zero, List.set_cons_succ])
         go_cut [9, 10] (fun v9 v10 wc => ∃ (kq : Nat) (x9_29 : Int) (x10_29 : Int) (x354004_29 : Int) (x354005_29 : List Int) (x354006_29 : Int) (x354007_29 : List Int) (x365004_29 : Int) (x365005_29 : Int) (x365006_29 : List Int) (x365007_29 : List Int) (u354005 : Value) (u354007 : Value) (u365006 : Value) (u365007 : Value), v9 = .int .i64 x9_29 ∧ v10 = .int .i64 x10_29 ∧ Aside0 (tontinelaw15_LatchPlays.j2 kq l1 x7_2 x9_29 x10_29 t354 t355 l0_2 l0_3 x354004_29 x354005_29 x354006_29 x354007_29 t365 t366 l0_2 l0_3 x365004_29 x365005_29 x365006_29 x365007_29 = some r) ∧ Aside0 (kq ≤ k2) ∧ Aside0 (Kd.R (Kd.int .i64) 3 wc w.heap.size (fun k_ => some k_ ≠ (u354007 : Value).ownBlock ∧ some k_ ≠ (u365006 : Value).ownBlock ∧ some k_ ≠ (u365007 : Value).ownBlock) u354005 x354005_29) ∧ Aside0 (Kd.R (Kd.int .i64) 3 wc w.heap.size (fun k_ => some k_ ≠ (u354005 : Value).ownBlock ∧ some k_ ≠ (u365006 : Value).ownBlock ∧ some k_ ≠ (u365007 : Value).ownBlock) u354007 x354007_29) ∧ Aside0 (Kd.R (Kd.int .i64) 3 wc w.heap.size (fun k_ => some k_ ≠ (u354005 : Value).ownBlock ∧ some k_ ≠ (u354007 : Value).ownBlock ∧ some k_ ≠ (u365007 : Value).ownBlock) u365006 x365006_29) ∧ Aside0 (Kd.R (Kd.int .i64) 3 wc w.heap.size (fun k_ => some k_ ≠ (u354005 : Value).ownBlock ∧ some k_ ≠ (u354007 : Value).ownBlock ∧ some k_ ≠ (u365006 : Value).ownBlock) u365007 x365007_29) ∧ Aside0 (wc.heap[gb349]? = some (.cells #[.int .i64 a0_0, .int .i64 a0_1, (.slice A0_2 l0_2.length c0_2), (.slice A0_3 l0_3.length c0_3)] 25 (0, 0))) ∧ Aside0 (wc.heap[gb353]? = some (.cells #[.int .i64 t354, .int .i64 t355, (.slice A0_2 l0_2.length c0_2), (.slice A0_3 l0_3.length c0_3), .int .i64 x354004_29, u354005, .int .i64 x354006_29, u354007] 70 (0, 0))) ∧ Aside0 (wc.heap[gb364]? = some (.cells #[.int .i64 t365, .int .i64 t366, (.slice A0_2 l0_2.length c0_2), (.slice A0_3 l0_3.length c0_3), .int .i64 x365004_29, .int .i64 x365005_29, u365006, u365007] 49 (0, 0))) ∧ Aside0 (wc.heap[gb376]? = some (.cells #[.int .i64 ((rd_T41 l1 x7_2).f0), .int .i64 ((rd_T41 l1 x7_2).f1), .int .i64 ((rd_T41 l1 x7_2).f2)] 41 (0, 0))) ∧ Aside0 (Below w.heap.size w wc))
         case first =>
          have H := HC30.out; clear HC30
          by_cases c37 : ((rd_T41 l1 x7_2).f0) ≤ 1
          ·
           rw [if_pos c37] at H
           have c37b0 : decide (((rd_T41 l1 x7_2).f0) ≤ 1) = true := decide_eq_true c37
           clear c37
           (first | rw [c37b0] | (simp only [i64_w, i32_w]; rw [c37b0]) | skip)
           replace H := Option.bind_eq_some_iff.mp H
           obtain ⟨⟨t377, t378, t379, t382, t383⟩, A380, H⟩ := H
           replace H : ((ext_20.f t377).bind fun t386 => ((tontineref15_Latch_AskPlan.f t365 t366 l0_2 l0_3 x365004_2 x365005_2 x365006_2 x365007_2 ((rd_T41 l1 x7_2).f2)).bind fun bt387 => (tontinelaw15_LatchPlays.j2 k2 l1 x7_2 t386 bt387.1 t354 t355 l0_2 l0_3 t378 t379 t382 t383 t365 t366 l0_2 l0_3 bt387.2.1 bt387.2.2.1 bt387.2.2.2.1 bt387.2.2.2.2))) = some r := H
           have A38 := Goto.m0 A380
           clear A380
           replace H := Option.bind_eq_some_iff.mp H
           obtain ⟨t386, A390, H⟩ := H
           have A39 := Goto.m0 A390
           clear A390
           replace H := Option.bind_eq_some_iff.mp H
           obtain ⟨⟨t387, t388, t389, t390, t393⟩, A400, H⟩ := H
           replace H : (tontinelaw15_LatchPlays.j2 k2 l1 x7_2 t386 t387 t354 t355 l0_2 l0_3 t378 t379 t382 t383 t365 t366 l0_2 l0_3 t388 t389 t390 t393) = some r := H
           have A40 := Goto.m0 A400
           clear A400
           have H' := Goto.m0 H
           clear H; have hnb41 := NB376_349.out; have hnc41 := NB349_376.out; have hnb42 := NB376_353.out; have hnc42 := NB353_376.out; have hnb43 := NB376_364.out; have hnc43 := NB364_376.out
           have hcz44_0 := Goto.bc0 BK376
           have hcz44_1 := Goto.bc1 BK376
           have hcz44_2 := Goto.bc2 BK376
           have hfz44_0 := Goto.bf BK376 0; have hfz44_1 := Goto.bf BK376 1; have hfz44_2 := Goto.bf BK376 2
           try go_wp2
           replace HO_354005 := Goto.m0 (Kd.R_drew HO_354005.out); replace HO_354007 := Goto.m0 (Kd.R_drew HO_354007.out); replace HO_365006 := Goto.m0 (Kd.R_drew HO_365006.out); replace HO_365007 := Goto.m0 (Kd.R_drew HO_365007.out); replace BK349 := Goto.m0 (blk_drew BK349.out); replace BK353 := Goto.m0 (blk_drew BK353.out); replace BK364 := Goto.m0 (blk_drew BK364.out); replace BK376 := Goto.m0 (blk_drew BK376.out); replace HB := Goto.m0 (below_drew1 HB.out)
           refine start_ (n := 11) (S := fun w' => w'.cell? ⟨gb376, 0, none⟩ = some (.int .i64 ((rd_T41 l1 x7_2).f0)) ∧ w'.cell? ⟨gb376, 1, none⟩ = some (.int .i64 ((rd_T41 l1 x7_2).f1)) ∧ w'.cell? ⟨gb376, 2, none⟩ = some (.int .i64 ((rd_T41 l1 x7_2).f2))) (ds := []) (.replicate 11 false) (by kernel_rfl) rfl rfl ⟨(blk_cell BK376.out 0).trans rfl, (blk_cell BK376.out 1).trans rfl, (blk_cell BK376.out 2).trans rfl⟩ (fun hHeld => ?_); refine with_tabW tontinelaw15_LatchPlays.tab14 tontinelaw15_LatchPlays.bits14 (fun HT_ HW_ => ?_)
           generalize w36.drew = w45 at HO_354005 HO_354007 HO_365006 HO_365007 BK349 BK353 BK364 BK376 HB hHeld ⊢
           refine Goto.pu 0 47 11 1 ?_
           refine Goto.pu 1 48 11 3 ?_
           refine Goto.pu 5 52 11 35 ?_
           refine Goto.pu 6 53 11 99 ?_
           refine take_ (i := 2) (N := some 49) (v := ?_) (a' := ?_) (Goto.bs 11 103) rfl rfl (take_ofW HT_.out HW_.out (by kernel_rfl)) (fun _ _ _ h => h) (Or.inl ⟨by rfl, ?_⟩) hHeld ?_ ?_
           rotate_left
           ·
            rintro w' ⟨s0, s1, s2⟩
            go_simp
            with_reducible rfl
           rotate_left
           ·
            exact Goto.ap
           refine take_ (i := 7) (N := some 54) (v := ?_) (a' := ?_) (Goto.bs 11 231) rfl rfl (take_ofW HT_.out HW_.out (by kernel_rfl)) (fun _ _ _ h => h) (Or.inl ⟨by rfl, ?_⟩) hHeld ?_ ?_
           rotate_left
           ·
            rintro w' ⟨s0, s1, s2⟩
            go_simp
            with_reducible rfl
           rotate_left
           ·
            exact Goto.ap
           refine one_ (i := 3) (N := some 50) (Goto.bs 11 239) rfl rfl (one_of HT_.out (by kernel_rfl)) (by decide) (fun K hK => ?_)
           refine goes_ Tryd.func21 (by kernel_rfl) rfl #[.pointer (some ⟨gb353, 0, none⟩), .int .i64 ((rd_T41 l1 x7_2).f2)] (by rfl) rfl rfl (by (try simp only [List.map_toArray, List.map_cons, List.map_nil]); first | done | rfl | (simp only [List.length_drop, List.length_take]; rfl)) ?_
           with_reducible refine (latch_Latch_AskPlan.calls gb353 t354 t355 A0_2 c0_2 l0_2 A0_3 c0_3 l0_3 x354004_2 (fun k_ => some k_ = (u354005 : Value).ownBlock) u354005 x354005_2 x354006_2 (fun k_ => some k_ = (u354007 : Value).ownBlock) u354007 x354007_2 ((rd_T41 l1 x7_2).f2) t377 t378 t379 t382 t383 w _ ?side1 ?side2 ?side3 ?side4 ?side5 ?side6 ?side7 ?side8 ?side9 ?side10 ?side11 A38.out).mono ?_
           (case side1 => exact by (with_reducible repeat first | refine blk_drewN ?_ _ | refine blk_drew ?_ | refine blk_alloc ?_ _); exact BK353.out)
           (case side2 => exact GE353.out)
           (case side3 => repeat (first | (with_reducible first | exact HB.out | apply below_alloc | apply pw_below_drewN | apply below_drew1 | refine below_set ?_ GE349.out | refine below_set ?_ GE353.out | refine below_set ?_ GE364.out | refine below_set ?_ GE376.out) | exact HB.out))
           (case side4 => exact Kd.C_kept_came (Kd.heap_slice 3 (Kd.heap_int .i64)) HR0_2.out (Goto.hx HB) (fun k_ hs_ => Or.elim hs_ (fun hs_ => Or.elim hs_ (fun e_ => (fun e_ => Kd.R_base HO_354005.out k_ e_.symm) e_) (fun e_ => (fun e_ => Kd.R_base HO_354007.out k_ e_.symm) e_)) (fun e_ => (by rw [e_]; exact GE353.out))))
           (case side5 => exact HC0_2.out)
           (case side6 => exact Kd.C_kept_came k60_heap HR0_3.out (Goto.hx HB) (fun k_ hs_ => Or.elim hs_ (fun hs_ => Or.elim hs_ (fun e_ => (fun e_ => Kd.R_base HO_354005.out k_ e_.symm) e_) (fun e_ => (fun e_ => Kd.R_base HO_354007.out k_ e_.symm) e_)) (fun e_ => (by rw [e_]; exact GE353.out))))
           (case side7 => exact HC0_3.out)
           (case side8 => exact Kd.R_tight rfl HO_354005.out)
           (case side9 => exact fun k_ e_ => (HO_354005.out.1 k_ e_.symm).1)
           (case side10 => exact Kd.R_tight rfl HO_354007.out)
           (case side11 => exact fun k_ e_ => (HO_354007.out.1 k_ e_.symm).1)
           rintro e w46 ⟨v380, v384, rfl, ho0, ho1, hi, hb, hkp⟩
           refine ⟨_, rfl, ?_⟩
           have n0_ := Goto.m0 (Kd.R_mono (ok' := fun k_ => some k_ ≠ (u365007 : Value).ownBlock ∧ some k_ ≠ (v380 : Value).ownBlock ∧ some k_ ≠ (v384 : Value).ownBlock) (Kd.R_keptB ((Kd.R_types HO_365006.out BK353.out (by decide))) hkp (fun k_ hk_ hs_ => Or.elim hs_ (fun hs_ => Or.elim hs_ (fun e_ => (hk_.1.1) e_) (fun e_ => (hk_.1.2.1) e_)) (fun e_ => (hk_.2) e_))) (fun k_ hk_ => ⟨hk_.1.1.2.2, fun e_ => Or.elim (ho0.1 k_ e_.symm).1 (fun hs_ => hk_.2.1 (.inl hs_)) (fun hn_ => Nat.not_le.2 hk_.2.2 hn_), fun e_ => Or.elim (ho1.1 k_ e_.symm).1 (fun hs_ => hk_.2.1 (.inl hs_)) (fun hn_ => Nat.not_le.2 hk_.2.2 hn_)⟩))
           have n1_ := Goto.m0 (Kd.R_mono (ok' := fun k_ => some k_ ≠ (u365006 : Value).ownBlock ∧ some k_ ≠ (v380 : Value).ownBlock ∧ some k_ ≠ (v384 : Value).ownBlock) (Kd.R_keptB ((Kd.R_types HO_365007.out BK353.out (by decide))) hkp (fun k_ hk_ hs_ => Or.elim hs_ (fun hs_ => Or.elim hs_ (fun e_ => (hk_.1.1) e_) (fun e_ => (hk_.1.2.1) e_)) (fun e_ => (hk_.2) e_))) (fun k_ hk_ => ⟨hk_.1.1.2.2, fun e_ => Or.elim (ho0.1 k_ e_.symm).1 (fun hs_ => hk_.2.1 (.inl hs_)) (fun hn_ => Nat.not_le.2 hk_.2.2 hn_), fun e_ => Or.elim (ho1.1 k_ e_.symm).1 (fun hs_ => hk_.2.1 (.inl hs_)) (fun hn_ => Nat.not_le.2 hk_.2.2 hn_)⟩))
           have n2_ := Goto.m0 (blk_kept (Goto.bx BK349) hkp (fun hs_ => Or.elim hs_ (fun hs_ => Or.elim hs_ (fun e_ => (fun e_ => (Kd.R_ne HO_354005.out BK349.out (by decide)) e_) e_) (fun e_ => (fun e_ => (Kd.R_ne HO_354007.out BK349.out (by decide)) e_) e_)) (fun e_ => NB349_353.out e_)))
           have n3_ := Goto.m0 (hi)
           have n4_ := Goto.m0 (blk_kept (Goto.bx BK364) hkp (fun hs_ => Or.elim hs_ (fun hs_ => Or.elim hs_ (fun e_ => (fun e_ => (Kd.R_ne HO_354005.out BK364.out (by decide)) e_) e_) (fun e_ => (fun e_ => (Kd.R_ne HO_354007.out BK364.out (by decide)) e_) e_)) (fun e_ => NB364_353.out e_)))
           have n5_ := Goto.m0 (blk_kept (Goto.bx BK376) hkp (fun hs_ => Or.elim hs_ (fun hs_ => Or.elim hs_ (fun e_ => (fun e_ => (Kd.R_ne HO_354005.out BK376.out (by decide)) e_) e_) (fun e_ => (fun e_ => (Kd.R_ne HO_354007.out BK376.out (by decide)) e_) e_)) (fun e_ => NB376_353.out e_)))
           have n6_ := Goto.m0 (Kd.R_mono (ok' := fun k_ => some k_ ≠ (v384 : Value).ownBlock ∧ some k_ ≠ (u365006 : Value).ownBlock ∧ some k_ ≠ (u365007 : Value).ownBlock) ho0 (fun k_ hk_ => ⟨hk_.2, Or.elim hk_.1 (fun hs_ => Or.elim hs_ (fun hs_ => fun e_ => ((((Kd.R_types HO_365006.out BK353.out (by decide))).1 k_ e_.symm).1.1) hs_) (fun hs_ => fun e_ => ((((Kd.R_types HO_365006.out BK353.out (by decide))).1 k_ e_.symm).1.2.1) hs_)) (fun hn_ => (Kd.fresh' (Kd.R_lt (Goto.rk HO_365006)) k_ hn_)), Or.elim hk_.1 (fun hs_ => Or.elim hs_ (fun hs_ => fun e_ => ((((Kd.R_types HO_365007.out BK353.out (by decide))).1 k_ e_.symm).1.1) hs_) (fun hs_ => fun e_ => ((((Kd.R_types HO_365007.out BK353.out (by decide))).1 k_ e_.symm).1.2.1) hs_)) (fun hn_ => (Kd.fresh' (Kd.R_lt (Goto.rk HO_365007)) k_ hn_))⟩))
           have n7_ := Goto.m0 (Kd.R_mono (ok' := fun k_ => some k_ ≠ (v380 : Value).ownBlock ∧ some k_ ≠ (u365006 : Value).ownBlock ∧ some k_ ≠ (u365007 : Value).ownBlock) ho1 (fun k_ hk_ => ⟨hk_.2, Or.elim hk_.1 (fun hs_ => Or.elim hs_ (fun hs_ => fun e_ => ((((Kd.R_types HO_365006.out BK353.out (by decide))).1 k_ e_.symm).1.1) hs_) (fun hs_ => fun e_ => ((((Kd.R_types HO_365006.out BK353.out (by decide))).1 k_ e_.symm).1.2.1) hs_)) (fun hn_ => (Kd.fresh' (Kd.R_lt (Goto.rk HO_365006)) k_ hn_)), Or.elim hk_.1 (fun hs_ => Or.elim hs_ (fun hs_ => fun e_ => ((((Kd.R_types HO_365007.out BK353.out (by decide))).1 k_ e_.symm).1.1) hs_) (fun hs_ => fun e_ => ((((Kd.R_types HO_365007.out BK353.out (by decide))).1 k_ e_.symm).1.2.1) hs_)) (fun hn_ => (Kd.fresh' (Kd.R_lt (Goto.rk HO_365007)) k_ hn_))⟩))
           have n8_ := Goto.m0 (hb)
           clear HO_365006; clear HO_365007; clear BK349; clear BK353; clear BK364; clear BK376; clear HB; clear HO_354005; clear HO_354007; have HO_365006 := n0_; have HO_365007 := n1_; have BK349 := n2_; have BK353 := n3_; have BK364 := n4_; have BK376 := n5_; have HO381 := n6_; have HO385 := n7_; have HB := n8_; clear n0_ n1_ n2_ n3_ n4_ n5_ n6_ n7_ n8_
           (try clear hb)
           (try clear hkp)
           (try clear ho0)
           (try clear ho1)
           (try simp only [errW_none, errW_some])
           have CA39 := fun W hl_ => ext_20.calls t377 t386 W hl_ A39.out
           try simp only [errW_none, errW_some] at CA39
           refine hK.out _ _ ⟨(blk_cell BK376.out 0).trans rfl, (blk_cell BK376.out 1).trans rfl, (blk_cell BK376.out 2).trans rfl⟩ (fun hHeld => ?_)
           clear hK K
           refine norm_ (a' := ?_) ?_ ?_
           rotate_left
           ·
            show Act.put _ (some 50) _ = _
            exact Goto.ap
           refine one_ (i := 4) (N := some 51) (Goto.bs 11 255) rfl rfl (one_of HT_.out (by kernel_rfl)) (by decide) (fun K hK => ?_)
           refine goes_ Tryd.func20 (by kernel_rfl) rfl #[errW t377] (by rfl) rfl rfl (by (try simp only [List.map_toArray, List.map_cons, List.map_nil]); first | done | rfl | (simp only [List.length_drop, List.length_take]; rfl)) ?_
           with_reducible refine (CA39 _ (Goto.kc (Goto.hx HB) HLD.out)).mono ?_
           rintro e w47 ⟨rfl, hb⟩
           refine ⟨_, rfl, ?_⟩
           replace HO_365006 := Goto.m0 (Kd.R_below (Goto.rk HO_365006) hb); replace HO_365007 := Goto.m0 (Kd.R_below (Goto.rk HO_365007) hb); replace HO381 := Goto.m0 (Kd.R_below (Goto.rk HO381) hb); replace HO385 := Goto.m0 (Kd.R_below (Goto.rk HO385) hb); replace BK349 := Goto.bb BK349 hb; replace BK353 := Goto.bb BK353 hb; replace BK364 := Goto.bb BK364 hb; replace BK376 := Goto.bb BK376 hb; replace HB := Goto.hs HB hb
           (try clear hb)
           (try clear hb2)
           (try clear hk)
           (try clear hi)
           refine hK.out _ _ ⟨(blk_cell BK376.out 0).trans rfl, (blk_cell BK376.out 1).trans rfl, (blk_cell BK376.out 2).trans rfl⟩ (fun hHeld => ?_)
           clear hK K
           refine norm_ (a' := ?_) ?_ ?_
           rotate_left
           ·
            show Act.put _ (some 51) _ = _
            exact Goto.ap
           refine one_ (i := 8) (N := some 55) (Goto.bs 11 511) rfl rfl (one_of HT_.out (by kernel_rfl)) (by decide) (fun K hK => ?_)
           refine goes_ Tryd.func22 (by kernel_rfl) rfl #[.pointer (some ⟨gb364, 0, none⟩), .int .i64 ((rd_T41 l1 x7_2).f2)] (by rfl) rfl rfl (by (try simp only [List.map_toArray, List.map_cons, List.map_nil]); first | done | rfl | (simp only [List.length_drop, List.length_take]; rfl)) ?_
           with_reducible refine (tontineref15_Latch_AskPlan.calls gb364 t365 t366 A0_2 c0_2 l0_2 A0_3 c0_3 l0_3 x365004_2 x365005_2 (fun k_ => some k_ = (u365006 : Value).ownBlock) u365006 x365006_2 (fun k_ => some k_ = (u365007 : Value).ownBlock) u365007 x365007_2 ((rd_T41 l1 x7_2).f2) t387 t388 t389 t390 t393 w _ ?side1 ?side2 ?side3 ?side4 ?side5 ?side6 ?side7 ?side8 ?side9 ?side10 ?side11 A40.out).mono ?_
           (case side1 => exact by (with_reducible repeat first | refine blk_drewN ?_ _ | refine blk_drew ?_ | refine blk_alloc ?_ _); exact BK364.out)
           (case side2 => exact GE364.out)
           (case side3 => repeat (first | (with_reducible first | exact HB.out | apply below_alloc | apply pw_below_drewN | apply below_drew1 | refine below_set ?_ GE349.out | refine below_set ?_ GE353.out | refine below_set ?_ GE364.out | refine below_set ?_ GE376.out) | exact HB.out))
           (case side4 => exact Kd.C_kept_came (Kd.heap_slice 3 (Kd.heap_int .i64)) HR0_2.out (Goto.hx HB) (fun k_ hs_ => Or.elim hs_ (fun hs_ => Or.elim hs_ (fun e_ => (fun e_ => Kd.R_base HO_365006.out k_ e_.symm) e_) (fun e_ => (fun e_ => Kd.R_base HO_365007.out k_ e_.symm) e_)) (fun e_ => (by rw [e_]; exact GE364.out))))
           (case side5 => exact HC0_2.out)
           (case side6 => exact Kd.C_kept_came k60_heap HR0_3.out (Goto.hx HB) (fun k_ hs_ => Or.elim hs_ (fun hs_ => Or.elim hs_ (fun e_ => (fun e_ => Kd.R_base HO_365006.out k_ e_.symm) e_) (fun e_ => (fun e_ => Kd.R_base HO_365007.out k_ e_.symm) e_)) (fun e_ => (by rw [e_]; exact GE364.out))))
           (case side7 => exact HC0_3.out)
           (case side8 => exact Kd.R_tight rfl HO_365006.out)
           (case side9 => exact fun k_ e_ => (HO_365006.out.1 k_ e_.symm).1)
           (case side10 => exact Kd.R_tight rfl HO_365007.out)
           (case side11 => exact fun k_ e_ => (HO_365007.out.1 k_ e_.symm).1)
           rintro e w48 ⟨v391, v394, rfl, ho0, ho1, hi, hb, hkp⟩
           refine ⟨_, rfl, ?_⟩
           have n0_ := Goto.m0 (blk_kept (Goto.bx BK349) hkp (fun hs_ => Or.elim hs_ (fun hs_ => Or.elim hs_ (fun e_ => (fun e_ => (Kd.R_ne HO_365006.out BK349.out (by decide)) e_) e_) (fun e_ => (fun e_ => (Kd.R_ne HO_365007.out BK349.out (by decide)) e_) e_)) (fun e_ => NB349_364.out e_)))
           have n1_ := Goto.m0 (blk_kept (Goto.bx BK353) hkp (fun hs_ => Or.elim hs_ (fun hs_ => Or.elim hs_ (fun e_ => (fun e_ => (Kd.R_ne HO_365006.out BK353.out (by decide)) e_) e_) (fun e_ => (fun e_ => (Kd.R_ne HO_365007.out BK353.out (by decide)) e_) e_)) (fun e_ => NB353_364.out e_)))
           have n2_ := Goto.m0 (hi)
           have n3_ := Goto.m0 (blk_kept (Goto.bx BK376) hkp (fun hs_ => Or.elim hs_ (fun hs_ => Or.elim hs_ (fun e_ => (fun e_ => (Kd.R_ne HO_365006.out BK376.out (by decide)) e_) e_) (fun e_ => (fun e_ => (Kd.R_ne HO_365007.out BK376.out (by decide)) e_) e_)) (fun e_ => NB376_364.out e_)))
           have n4_ := Goto.m0 (Kd.R_mono (ok' := fun k_ => some k_ ≠ (v384 : Value).ownBlock ∧ some k_ ≠ (v391 : Value).ownBlock ∧ some k_ ≠ (v394 : Value).ownBlock) (Kd.R_keptB ((Kd.R_types HO381.out BK364.out (by decide))) hkp (fun k_ hk_ hs_ => Or.elim hs_ (fun hs_ => Or.elim hs_ (fun e_ => (hk_.1.2.1) e_) (fun e_ => (hk_.1.2.2) e_)) (fun e_ => (hk_.2) e_))) (fun k_ hk_ => ⟨hk_.1.1.1, fun e_ => Or.elim (ho0.1 k_ e_.symm).1 (fun hs_ => hk_.2.1 (.inl hs_)) (fun hn_ => Nat.not_le.2 hk_.2.2 hn_), fun e_ => Or.elim (ho1.1 k_ e_.symm).1 (fun hs_ => hk_.2.1 (.inl hs_)) (fun hn_ => Nat.not_le.2 hk_.2.2 hn_)⟩))
           have n5_ := Goto.m0 (Kd.R_mono (ok' := fun k_ => some k_ ≠ (v380 : Value).ownBlock ∧ some k_ ≠ (v391 : Value).ownBlock ∧ some k_ ≠ (v394 : Value).ownBlock) (Kd.R_keptB ((Kd.R_types HO385.out BK364.out (by decide))) hkp (fun k_ hk_ hs_ => Or.elim hs_ (fun hs_ => Or.elim hs_ (fun e_ => (hk_.1.2.1) e_) (fun e_ => (hk_.1.2.2) e_)) (fun e_ => (hk_.2) e_))) (fun k_ hk_ => ⟨hk_.1.1.1, fun e_ => Or.elim (ho0.1 k_ e_.symm).1 (fun hs_ => hk_.2.1 (.inl hs_)) (fun hn_ => Nat.not_le.2 hk_.2.2 hn_), fun e_ => Or.elim (ho1.1 k_ e_.symm).1 (fun hs_ => hk_.2.1 (.inl hs_)) (fun hn_ => Nat.not_le.2 hk_.2.2 hn_)⟩))
           have n6_ := Goto.m0 (Kd.R_mono (ok' := fun k_ => some k_ ≠ (v394 : Value).ownBlock ∧ some k_ ≠ (v380 : Value).ownBlock ∧ some k_ ≠ (v384 : Value).ownBlock) ho0 (fun k_ hk_ => ⟨hk_.2, Or.elim hk_.1 (fun hs_ => Or.elim hs_ (fun hs_ => fun e_ => ((((Kd.R_types HO381.out BK364.out (by decide))).1 k_ e_.symm).1.2.1) hs_) (fun hs_ => fun e_ => ((((Kd.R_types HO381.out BK364.out (by decide))).1 k_ e_.symm).1.2.2) hs_)) (fun hn_ => (Kd.fresh' (Kd.R_lt (Goto.rk HO381)) k_ hn_)), Or.elim hk_.1 (fun hs_ => Or.elim hs_ (fun hs_ => fun e_ => ((((Kd.R_types HO385.out BK364.out (by decide))).1 k_ e_.symm).1.2.1) hs_) (fun hs_ => fun e_ => ((((Kd.R_types HO385.out BK364.out (by decide))).1 k_ e_.symm).1.2.2) hs_)) (fun hn_ => (Kd.fresh' (Kd.R_lt (Goto.rk HO385)) k_ hn_))⟩))
           have n7_ := Goto.m0 (Kd.R_mono (ok' := fun k_ => some k_ ≠ (v391 : Value).ownBlock ∧ some k_ ≠ (v380 : Value).ownBlock ∧ some k_ ≠ (v384 : Value).ownBlock) ho1 (fun k_ hk_ => ⟨hk_.2, Or.elim hk_.1 (fun hs_ => Or.elim hs_ (fun hs_ => fun e_ => ((((Kd.R_types HO381.out BK364.out (by decide))).1 k_ e_.symm).1.2.1) hs_) (fun hs_ => fun e_ => ((((Kd.R_types HO381.out BK364.out (by decide))).1 k_ e_.symm).1.2.2) hs_)) (fun hn_ => (Kd.fresh' (Kd.R_lt (Goto.rk HO381)) k_ hn_)), Or.elim hk_.1 (fun hs_ => Or.elim hs_ (fun hs_ => fun e_ => ((((Kd.R_types HO385.out BK364.out (by decide))).1 k_ e_.symm).1.2.1) hs_) (fun hs_ => fun e_ => ((((Kd.R_types HO385.out BK364.out (by decide))).1 k_ e_.symm).1.2.2) hs_)) (fun hn_ => (Kd.fresh' (Kd.R_lt (Goto.rk HO385)) k_ hn_))⟩))
           have n8_ := Goto.m0 (hb)
           clear BK349; clear BK353; clear BK364; clear BK376; clear HO381; clear HO385; clear HB; clear HO_365006; clear HO_365007; have BK349 := n0_; have BK353 := n1_; have BK364 := n2_; have BK376 := n3_; have HO381 := n4_; have HO385 := n5_; have HO392 := n6_; have HO395 := n7_; have HB := n8_; clear n0_ n1_ n2_ n3_ n4_ n5_ n6_ n7_ n8_
           (try clear hb)
           (try clear hkp)
           (try clear ho0)
           (try clear ho1)
           refine hK.out _ _ ⟨(blk_cell BK376.out 0).trans rfl, (blk_cell BK376.out 1).trans rfl, (blk_cell BK376.out 2).trans rfl⟩ (fun hHeld => ?_)
           clear hK K
           refine norm_ (a' := ?_) ?_ ?_
           rotate_left
           ·
            show Act.put _ (some 55) _ = _
            exact Goto.ap
           refine Goto.pu 9 9 11 1023 ?_
           refine Goto.pu 10 10 11 2047 ?_
           refine done_ (done_of HT_.out (by kernel_rfl)) ?_
           try go_wp2
           go_meet
           case rel => exact ⟨_, (t386), (t387), (t378), (t379), (t382), (t383), (t388), (t389), (t390), (t393), (v380), (v384), (v391), (v394), (by first | rfl | (simp; done) | (simp [*]; done)), (by first | rfl | (simp; done) | (simp [*]; done)), H', ⟨by have := HJ4.out; have := HK2.out; first | omega | exact Nat.le_refl _⟩, ⟨Goto.rk HO381⟩, ⟨Goto.rk HO385⟩, ⟨by (with_reducible repeat (first | apply Kd.R_alloc | apply Kd.R_drewN | apply Kd.R_drew)); exact Kd.R_mono HO392.out (fun _ hk => ⟨hk.2.1, ⟨hk.2.2, hk.1⟩⟩)⟩, ⟨by (with_reducible repeat (first | apply Kd.R_alloc | apply Kd.R_drewN | apply Kd.R_drew)); exact Kd.R_mono HO395.out (fun _ hk => ⟨hk.2.1, ⟨hk.2.2, hk.1⟩⟩)⟩, ⟨Goto.bx BK349⟩, ⟨Goto.bx BK353⟩, ⟨Goto.bx BK364⟩, ⟨Goto.bx BK376⟩, ⟨Goto.hx HB⟩⟩
          ·
           rw [if_neg c37] at H
           have c37b0 : decide (((rd_T41 l1 x7_2).f0) ≤ 1) = false := decide_eq_false c37
           clear c37
           (first | rw [c37b0] | (simp only [i64_w, i32_w]; rw [c37b0]) | skip)
           by_cases c49 : ((rd_T41 l1 x7_2).f0) ≤ 4
           ·
            rw [if_pos c49] at H
            have c49b0 : decide (((rd_T41 l1 x7_2).f0) ≤ 4) = true := decide_eq_true c49
            clear c49
            replace H := Option.bind_eq_some_iff.mp H
            obtain ⟨⟨t396, t397, t398, t401, t402⟩, A500, H⟩ := H
            replace H : ((ext_20.f t396).bind fun t405 => ((tontineref15_Latch_AskLevel.f k2 t365 t366 l0_2 l0_3 x365004_2 x365005_2 x365006_2 x365007_2 ((rd_T41 l1 x7_2).f1) ((rd_T41 l1 x7_2).f2)).bind fun bt406 => (tontinelaw15_LatchPlays.j2 k2 l1 x7_2 t405 bt406.1 t354 t355 l0_2 l0_3 t397 t398 t401 t402 t365 t366 l0_2 l0_3 bt406.2.1 bt406.2.2.1 bt406.2.2.2.1 bt406.2.2.2.2))) = some r := H
            have A50 := Goto.m0 A500
            clear A500
            replace H := Option.bind_eq_some_iff.mp H
            obtain ⟨t405, A510, H⟩ := H
            have A51 := Goto.m0 A510
            clear A510
            replace H := Option.bind_eq_some_iff.mp H
            obtain ⟨⟨t406, t407, t408, t409, t412⟩, A520, H⟩ := H
            replace H : (tontinelaw15_LatchPlays.j2 k2 l1 x7_2 t405 t406 t354 t355 l0_2 l0_3 t397 t398 t401 t402 t365 t366 l0_2 l0_3 t407 t408 t409 t412) = some r := H
            have A52 := Goto.m0 A520
            clear A520
            have H' := Goto.m0 H
            clear H; have hnb53 := NB376_349.out; have hnc53 := NB349_376.out; have hnb54 := NB376_353.out; have hnc54 := NB353_376.out; have hnb55 := NB376_364.out; have hnc55 := NB364_376.out
            have hcz56_0 := Goto.bc0 BK376
            have hcz56_1 := Goto.bc1 BK376
            have hcz56_2 := Goto.bc2 BK376
            have hfz56_0 := Goto.bf BK376 0; have hfz56_1 := Goto.bf BK376 1; have hfz56_2 := Goto.bf BK376 2
            try go_wp2
            replace HO_354005 := Goto.m0 (Kd.R_drew HO_354005.out); replace HO_354007 := Goto.m0 (Kd.R_drew HO_354007.out); replace HO_365006 := Goto.m0 (Kd.R_drew HO_365006.out); replace HO_365007 := Goto.m0 (Kd.R_drew HO_365007.out); replace BK349 := Goto.m0 (blk_drew BK349.out); replace BK353 := Goto.m0 (blk_drew BK353.out); replace BK364 := Goto.m0 (blk_drew BK364.out); replace BK376 := Goto.m0 (blk_drew BK376.out); replace HB := Goto.m0 (below_drew1 HB.out)
            refine start_ (n := 15) (S := fun w' => w'.cell? ⟨gb376, 0, none⟩ = some (.int .i64 ((rd_T41 l1 x7_2).f0)) ∧ w'.cell? ⟨gb376, 1, none⟩ = some (.int .i64 ((rd_T41 l1 x7_2).f1)) ∧ w'.cell? ⟨gb376, 2, none⟩ = some (.int .i64 ((rd_T41 l1 x7_2).f2))) (ds := []) (.replicate 15 false) (by kernel_rfl) rfl rfl ⟨(blk_cell BK376.out 0).trans rfl, (blk_cell BK376.out 1).trans rfl, (blk_cell BK376.out 2).trans rfl⟩ (fun hHeld => ?_); refine with_tabW tontinelaw15_LatchPlays.tab16 tontinelaw15_LatchPlays.bits16 (fun HT_ HW_ => ?_)
            generalize w36.drew = w57 at HO_354005 HO_354007 HO_365006 HO_365007 BK349 BK353 BK364 BK376 HB hHeld ⊢
            refine Goto.pu 0 60 15 1 ?_
            refine Goto.pu 1 61 15 3 ?_
            refine Goto.pu 3 63 15 11 ?_
            refine Goto.pu 7 67 15 139 ?_
            refine Goto.pu 8 68 15 395 ?_
            refine Goto.pu 10 70 15 1419 ?_
            refine take_ (i := 2) (N := some 62) (v := ?_) (a' := ?_) (Goto.bs 15 1423) rfl rfl (take_ofW HT_.out HW_.out (by kernel_rfl)) (fun _ _ _ h => h) (Or.inl ⟨by rfl, ?_⟩) hHeld ?_ ?_
            rotate_left
            ·
             rintro w' ⟨s0, s1, s2⟩
             go_simp
             with_reducible rfl
            rotate_left
            ·
             exact Goto.ap
            refine take_ (i := 4) (N := some 64) (v := ?_) (a' := ?_) (Goto.bs 15 1439) rfl rfl (take_ofW HT_.out HW_.out (by kernel_rfl)) (fun _ _ _ h => h) (Or.inl ⟨by rfl, ?_⟩) hHeld ?_ ?_
            rotate_left
            ·
             rintro w' ⟨s0, s1, s2⟩
             go_simp
             with_reducible rfl
            rotate_left
            ·
             exact Goto.ap
            refine take_ (i := 9) (N := some 69) (v := ?_) (a' := ?_) (Goto.bs 15 1951) rfl rfl (take_ofW HT_.out HW_.out (by kernel_rfl)) (fun _ _ _ h => h) (Or.inl ⟨by rfl, ?_⟩) hHeld ?_ ?_
            rotate_left
            ·
             rintro w' ⟨s0, s1, s2⟩
             go_simp
             with_reducible rfl
            rotate_left
            ·
             exact Goto.ap
            refine take_ (i := 11) (N := some 71) (v := ?_) (a' := ?_) (Goto.bs 15 3999) rfl rfl (take_ofW HT_.out HW_.out (by kernel_rfl)) (fun _ _ _ h => h) (Or.inl ⟨by rfl, ?_⟩) hHeld ?_ ?_
            rotate_left
            ·
             rintro w' ⟨s0, s1, s2⟩
             go_simp
             with_reducible rfl
            rotate_left
            ·
             exact Goto.ap
            refine one_ (i := 5) (N := some 65) (Goto.bs 15 4031) rfl rfl (one_of HT_.out (by kernel_rfl)) (by decide) (fun K hK => ?_)
            refine goes_ Tryd.func23 (by kernel_rfl) rfl #[.pointer (some ⟨gb353, 0, none⟩), .int .i64 ((rd_T41 l1 x7_2).f1), .int .i64 ((rd_T41 l1 x7_2).f2)] (by rfl) rfl rfl (by (try simp only [List.map_toArray, List.map_cons, List.map_nil]); first | done | rfl | (simp only [List.length_drop, List.length_take]; rfl)) ?_
            with_reducible refine (latch_Latch_AskLevel.calls k2 gb353 t354 t355 A0_2 c0_2 l0_2 A0_3 c0_3 l0_3 x354004_2 (fun k_ => some k_ = (u354005 : Value).ownBlock) u354005 x354005_2 x354006_2 (fun k_ => some k_ = (u354007 : Value).ownBlock) u354007 x354007_2 ((rd_T41 l1 x7_2).f1) ((rd_T41 l1 x7_2).f2) t396 t397 t398 t401 t402 w _ ?side1 ?side2 ?side3 ?side4 ?side5 ?side6 ?side7 ?side8 ?side9 ?side10 ?side11 A50.out).mono ?_
            (case side1 => exact by (with_reducible repeat first | refine blk_drewN ?_ _ | refine blk_drew ?_ | refine blk_alloc ?_ _); exact BK353.out)
            (case side2 => exact GE353.out)
            (case side3 => repeat (first | (with_reducible first | exact HB.out | apply below_alloc | apply pw_below_drewN | apply below_drew1 | refine below_set ?_ GE349.out | refine below_set ?_ GE353.out | refine below_set ?_ GE364.out | refine below_set ?_ GE376.out) | exact HB.out))
            (case side4 => exact Kd.C_kept_came (Kd.heap_slice 3 (Kd.heap_int .i64)) HR0_2.out (Goto.hx HB) (fun k_ hs_ => Or.elim hs_ (fun hs_ => Or.elim hs_ (fun e_ => (fun e_ => Kd.R_base HO_354005.out k_ e_.symm) e_) (fun e_ => (fun e_ => Kd.R_base HO_354007.out k_ e_.symm) e_)) (fun e_ => (by rw [e_]; exact GE353.out))))
            (case side5 => exact HC0_2.out)
            (case side6 => exact Kd.C_kept_came k60_heap HR0_3.out (Goto.hx HB) (fun k_ hs_ => Or.elim hs_ (fun hs_ => Or.elim hs_ (fun e_ => (fun e_ => Kd.R_base HO_354005.out k_ e_.symm) e_) (fun e_ => (fun e_ => Kd.R_base HO_354007.out k_ e_.symm) e_)) (fun e_ => (by rw [e_]; exact GE353.out))))
            (case side7 => exact HC0_3.out)
            (case side8 => exact Kd.R_tight rfl HO_354005.out)
            (case side9 => exact fun k_ e_ => (HO_354005.out.1 k_ e_.symm).1)
            (case side10 => exact Kd.R_tight rfl HO_354007.out)
            (case side11 => exact fun k_ e_ => (HO_354007.out.1 k_ e_.symm).1)
            rintro e w58 ⟨v399, v403, rfl, ho0, ho1, hi, hb, hkp⟩
            refine ⟨_, rfl, ?_⟩
            have n0_ := Goto.m0 (Kd.R_mono (ok' := fun k_ => some k_ ≠ (u365007 : Value).ownBlock ∧ some k_ ≠ (v399 : Value).ownBlock ∧ some k_ ≠ (v403 : Value).ownBlock) (Kd.R_keptB ((Kd.R_types HO_365006.out BK353.out (by decide))) hkp (fun k_ hk_ hs_ => Or.elim hs_ (fun hs_ => Or.elim hs_ (fun e_ => (hk_.1.1) e_) (fun e_ => (hk_.1.2.1) e_)) (fun e_ => (hk_.2) e_))) (fun k_ hk_ => ⟨hk_.1.1.2.2, fun e_ => Or.elim (ho0.1 k_ e_.symm).1 (fun hs_ => hk_.2.1 (.inl hs_)) (fun hn_ => Nat.not_le.2 hk_.2.2 hn_), fun e_ => Or.elim (ho1.1 k_ e_.symm).1 (fun hs_ => hk_.2.1 (.inl hs_)) (fun hn_ => Nat.not_le.2 hk_.2.2 hn_)⟩))
            have n1_ := Goto.m0 (Kd.R_mono (ok' := fun k_ => some k_ ≠ (u365006 : Value).ownBlock ∧ some k_ ≠ (v399 : Value).ownBlock ∧ some k_ ≠ (v403 : Value).ownBlock) (Kd.R_keptB ((Kd.R_types HO_365007.out BK353.out (by decide))) hkp (fun k_ hk_ hs_ => Or.elim hs_ (fun hs_ => Or.elim hs_ (fun e_ => (hk_.1.1) e_) (fun e_ => (hk_.1.2.1) e_)) (fun e_ => (hk_.2) e_))) (fun k_ hk_ => ⟨hk_.1.1.2.2, fun e_ => Or.elim (ho0.1 k_ e_.symm).1 (fun hs_ => hk_.2.1 (.inl hs_)) (fun hn_ => Nat.not_le.2 hk_.2.2 hn_), fun e_ => Or.elim (ho1.1 k_ e_.symm).1 (fun hs_ => hk_.2.1 (.inl hs_)) (fun hn_ => Nat.not_le.2 hk_.2.2 hn_)⟩))
            have n2_ := Goto.m0 (blk_kept (Goto.bx BK349) hkp (fun hs_ => Or.elim hs_ (fun hs_ => Or.elim hs_ (fun e_ => (fun e_ => (Kd.R_ne HO_354005.out BK349.out (by decide)) e_) e_) (fun e_ => (fun e_ => (Kd.R_ne HO_354007.out BK349.out (by decide)) e_) e_)) (fun e_ => NB349_353.out e_)))
            have n3_ := Goto.m0 (hi)
            have n4_ := Goto.m0 (blk_kept (Goto.bx BK364) hkp (fun hs_ => Or.elim hs_ (fun hs_ => Or.elim hs_ (fun e_ => (fun e_ => (Kd.R_ne HO_354005.out BK364.out (by decide)) e_) e_) (fun e_ => (fun e_ => (Kd.R_ne HO_354007.out BK364.out (by decide)) e_) e_)) (fun e_ => NB364_353.out e_)))
            have n5_ := Goto.m0 (blk_kept (Goto.bx BK376) hkp (fun hs_ => Or.elim hs_ (fun hs_ => Or.elim hs_ (fun e_ => (fun e_ => (Kd.R_ne HO_354005.out BK376.out (by decide)) e_) e_) (fun e_ => (fun e_ => (Kd.R_ne HO_354007.out BK376.out (by decide)) e_) e_)) (fun e_ => NB376_353.out e_)))
            have n6_ := Goto.m0 (Kd.R_mono (ok' := fun k_ => some k_ ≠ (v403 : Value).ownBlock ∧ some k_ ≠ (u365006 : Value).ownBlock ∧ some k_ ≠ (u365007 : Value).ownBlock) ho0 (fun k_ hk_ => ⟨hk_.2, Or.elim hk_.1 (fun hs_ => Or.elim hs_ (fun hs_ => fun e_ => ((((Kd.R_types HO_365006.out BK353.out (by decide))).1 k_ e_.symm).1.1) hs_) (fun hs_ => fun e_ => ((((Kd.R_types HO_365006.out BK353.out (by decide))).1 k_ e_.symm).1.2.1) hs_)) (fun hn_ => (Kd.fresh' (Kd.R_lt (Goto.rk HO_365006)) k_ hn_)), Or.elim hk_.1 (fun hs_ => Or.elim hs_ (fun hs_ => fun e_ => ((((Kd.R_types HO_365007.out BK353.out (by decide))).1 k_ e_.symm).1.1) hs_) (fun hs_ => fun e_ => ((((Kd.R_types HO_365007.out BK353.out (by decide))).1 k_ e_.symm).1.2.1) hs_)) (fun hn_ => (Kd.fresh' (Kd.R_lt (Goto.rk HO_365007)) k_ hn_))⟩))
            have n7_ := Goto.m0 (Kd.R_mono (ok' := fun k_ => some k_ ≠ (v399 : Value).ownBlock ∧ some k_ ≠ (u365006 : Value).ownBlock ∧ some k_ ≠ (u365007 : Value).ownBlock) ho1 (fun k_ hk_ => ⟨hk_.2, Or.elim hk_.1 (fun hs_ => Or.elim hs_ (fun hs_ => fun e_ => ((((Kd.R_types HO_365006.out BK353.out (by decide))).1 k_ e_.symm).1.1) hs_) (fun hs_ => fun e_ => ((((Kd.R_types HO_365006.out BK353.out (by decide))).1 k_ e_.symm).1.2.1) hs_)) (fun hn_ => (Kd.fresh' (Kd.R_lt (Goto.rk HO_365006)) k_ hn_)), Or.elim hk_.1 (fun hs_ => Or.elim hs_ (fun hs_ => fun e_ => ((((Kd.R_types HO_365007.out BK353.out (by decide))).1 k_ e_.symm).1.1) hs_) (fun hs_ => fun e_ => ((((Kd.R_types HO_365007.out BK353.out (by decide))).1 k_ e_.symm).1.2.1) hs_)) (fun hn_ => (Kd.fresh' (Kd.R_lt (Goto.rk HO_365007)) k_ hn_))⟩))
            have n8_ := Goto.m0 (hb)
            clear HO_365006; clear HO_365007; clear BK349; clear BK353; clear BK364; clear BK376; clear HB; clear HO_354005; clear HO_354007; have HO_365006 := n0_; have HO_365007 := n1_; have BK349 := n2_; have BK353 := n3_; have BK364 := n4_; have BK376 := n5_; have HO400 := n6_; have HO404 := n7_; have HB := n8_; clear n0_ n1_ n2_ n3_ n4_ n5_ n6_ n7_ n8_
            (try clear hb)
            (try clear hkp)
            (try clear ho0)
            (try clear ho1)
            (try simp only [errW_none, errW_some])
            have CA51 := fun W hl_ => ext_20.calls t396 t405 W hl_ A51.out
            try simp only [errW_none, errW_some] at CA51
            refine hK.out _ _ ⟨(blk_cell BK376.out 0).trans rfl, (blk_cell BK376.out 1).trans rfl, (blk_cell BK376.out 2).trans rfl⟩ (fun hHeld => ?_)
            clear hK K
            refine norm_ (a' := ?_) ?_ ?_
            rotate_left
            ·
             show Act.put _ (some 65) _ = _
             exact Goto.ap
            refine one_ (i := 6) (N := some 66) (Goto.bs 15 4095) rfl rfl (one_of HT_.out (by kernel_rfl)) (by decide) (fun K hK => ?_)
            refine goes_ Tryd.func20 (by kernel_rfl) rfl #[errW t396] (by rfl) rfl rfl (by (try simp only [List.map_toArray, List.map_cons, List.map_nil]); first | done | rfl | (simp only [List.length_drop, List.length_take]; rfl)) ?_
            with_reducible refine (CA51 _ (Goto.kc (Goto.hx HB) HLD.out)).mono ?_
            rintro e w59 ⟨rfl, hb⟩
            refine ⟨_, rfl, ?_⟩
            replace HO_365006 := Goto.m0 (Kd.R_below (Goto.rk HO_365006) hb); replace HO_365007 := Goto.m0 (Kd.R_below (Goto.rk HO_365007) hb); replace HO400 := Goto.m0 (Kd.R_below (Goto.rk HO400) hb); replace HO404 := Goto.m0 (Kd.R_below (Goto.rk HO404) hb); replace BK349 := Goto.bb BK349 hb; replace BK353 := Goto.bb BK353 hb; replace BK364 := Goto.bb BK364 hb; replace BK376 := Goto.bb BK376 hb; replace HB := Goto.hs HB hb
            (try clear hb)
            (try clear hb2)
            (try clear hk)
            (try clear hi)
            refine hK.out _ _ ⟨(blk_cell BK376.out 0).trans rfl, (blk_cell BK376.out 1).trans rfl, (blk_cell BK376.out 2).trans rfl⟩ (fun hHeld => ?_)
            clear hK K
            refine norm_ (a' := ?_) ?_ ?_
            rotate_left
            ·
             show Act.put _ (some 66) _ = _
             exact Goto.ap
            refine one_ (i := 12) (N := some 72) (Goto.bs 15 8191) rfl rfl (one_of HT_.out (by kernel_rfl)) (by decide) (fun K hK => ?_)
            refine goes_ Tryd.func24 (by kernel_rfl) rfl #[.pointer (some ⟨gb364, 0, none⟩), .int .i64 ((rd_T41 l1 x7_2).f1), .int .i64 ((rd_T41 l1 x7_2).f2)] (by rfl) rfl rfl (by (try simp only [List.map_toArray, List.map_cons, List.map_nil]); first | done | rfl | (simp only [List.length_drop, List.length_take]; rfl)) ?_
            with_reducible refine (tontineref15_Latch_AskLevel.calls k2 gb364 t365 t366 A0_2 c0_2 l0_2 A0_3 c0_3 l0_3 x365004_2 x365005_2 (fun k_ => some k_ = (u365006 : Value).ownBlock) u365006 x365006_2 (fun k_ => some k_ = (u365007 : Value).ownBlock) u365007 x365007_2 ((rd_T41 l1 x7_2).f1) ((rd_T41 l1 x7_2).f2) t406 t407 t408 t409 t412 w _ ?side1 ?side2 ?side3 ?side4 ?side5 ?side6 ?side7 ?side8 ?side9 ?side10 ?side11 A52.out).mono ?_
            (case side1 => exact by (with_reducible repeat first | refine blk_drewN ?_ _ | refine blk_drew ?_ | refine blk_alloc ?_ _); exact BK364.out)
            (case side2 => exact GE364.out)
            (case side3 => repeat (first | (with_reducible first | exact HB.out | apply below_alloc | apply pw_below_drewN | apply below_drew1 | refine below_set ?_ GE349.out | refine below_set ?_ GE353.out | refine below_set ?_ GE364.out | refine below_set ?_ GE376.out) | exact HB.out))
            (case side4 => exact Kd.C_kept_came (Kd.heap_slice 3 (Kd.heap_int .i64)) HR0_2.out (Goto.hx HB) (fun k_ hs_ => Or.elim hs_ (fun hs_ => Or.elim hs_ (fun e_ => (fun e_ => Kd.R_base HO_365006.out k_ e_.symm) e_) (fun e_ => (fun e_ => Kd.R_base HO_365007.out k_ e_.symm) e_)) (fun e_ => (by rw [e_]; exact GE364.out))))
            (case side5 => exact HC0_2.out)
            (case side6 => exact Kd.C_kept_came k60_heap HR0_3.out (Goto.hx HB) (fun k_ hs_ => Or.elim hs_ (fun hs_ => Or.elim hs_ (fun e_ => (fun e_ => Kd.R_base HO_365006.out k_ e_.symm) e_) (fun e_ => (fun e_ => Kd.R_base HO_365007.out k_ e_.symm) e_)) (fun e_ => (by rw [e_]; exact GE364.out))))
            (case side7 => exact HC0_3.out)
            (case side8 => exact Kd.R_tight rfl HO_365006.out)
            (case side9 => exact fun k_ e_ => (HO_365006.out.1 k_ e_.symm).1)
            (case side10 => exact Kd.R_tight rfl HO_365007.out)
            (case side11 => exact fun k_ e_ => (HO_365007.out.1 k_ e_.symm).1)
            rintro e w60 ⟨v410, v413, rfl, ho0, ho1, hi, hb, hkp⟩
            refine ⟨_, rfl, ?_⟩
            have n0_ := Goto.m0 (blk_kept (Goto.bx BK349) hkp (fun hs_ => Or.elim hs_ (fun hs_ => Or.elim hs_ (fun e_ => (fun e_ => (Kd.R_ne HO_365006.out BK349.out (by decide)) e_) e_) (fun e_ => (fun e_ => (Kd.R_ne HO_365007.out BK349.out (by decide)) e_) e_)) (fun e_ => NB349_364.out e_)))
            have n1_ := Goto.m0 (blk_kept (Goto.bx BK353) hkp (fun hs_ => Or.elim hs_ (fun hs_ => Or.elim hs_ (fun e_ => (fun e_ => (Kd.R_ne HO_365006.out BK353.out (by decide)) e_) e_) (fun e_ => (fun e_ => (Kd.R_ne HO_365007.out BK353.out (by decide)) e_) e_)) (fun e_ => NB353_364.out e_)))
            have n2_ := Goto.m0 (hi)
            have n3_ := Goto.m0 (blk_kept (Goto.bx BK376) hkp (fun hs_ => Or.elim hs_ (fun hs_ => Or.elim hs_ (fun e_ => (fun e_ => (Kd.R_ne HO_365006.out BK376.out (by decide)) e_) e_) (fun e_ => (fun e_ => (Kd.R_ne HO_365007.out BK376.out (by decide)) e_) e_)) (fun e_ => NB376_364.out e_)))
            have n4_ := Goto.m0 (Kd.R_mono (ok' := fun k_ => some k_ ≠ (v403 : Value).ownBlock ∧ some k_ ≠ (v410 : Value).ownBlock ∧ some k_ ≠ (v413 : Value).ownBlock) (Kd.R_keptB ((Kd.R_types HO400.out BK364.out (by decide))) hkp (fun k_ hk_ hs_ => Or.elim hs_ (fun hs_ => Or.elim hs_ (fun e_ => (hk_.1.2.1) e_) (fun e_ => (hk_.1.2.2) e_)) (fun e_ => (hk_.2) e_))) (fun k_ hk_ => ⟨hk_.1.1.1, fun e_ => Or.elim (ho0.1 k_ e_.symm).1 (fun hs_ => hk_.2.1 (.inl hs_)) (fun hn_ => Nat.not_le.2 hk_.2.2 hn_), fun e_ => Or.elim (ho1.1 k_ e_.symm).1 (fun hs_ => hk_.2.1 (.inl hs_)) (fun hn_ => Nat.not_le.2 hk_.2.2 hn_)⟩))
            have n5_ := Goto.m0 (Kd.R_mono (ok' := fun k_ => some k_ ≠ (v399 : Value).ownBlock ∧ some k_ ≠ (v410 : Value).ownBlock ∧ some k_ ≠ (v413 : Value).ownBlock) (Kd.R_keptB ((Kd.R_types HO404.out BK364.out (by decide))) hkp (fun k_ hk_ hs_ => Or.elim hs_ (fun hs_ => Or.elim hs_ (fun e_ => (hk_.1.2.1) e_) (fun e_ => (hk_.1.2.2) e_)) (fun e_ => (hk_.2) e_))) (fun k_ hk_ => ⟨hk_.1.1.1, fun e_ => Or.elim (ho0.1 k_ e_.symm).1 (fun hs_ => hk_.2.1 (.inl hs_)) (fun hn_ => Nat.not_le.2 hk_.2.2 hn_), fun e_ => Or.elim (ho1.1 k_ e_.symm).1 (fun hs_ => hk_.2.1 (.inl hs_)) (fun hn_ => Nat.not_le.2 hk_.2.2 hn_)⟩))
            have n6_ := Goto.m0 (Kd.R_mono (ok' := fun k_ => some k_ ≠ (v413 : Value).ownBlock ∧ some k_ ≠ (v399 : Value).ownBlock ∧ some k_ ≠ (v403 : Value).ownBlock) ho0 (fun k_ hk_ => ⟨hk_.2, Or.elim hk_.1 (fun hs_ => Or.elim hs_ (fun hs_ => fun e_ => ((((Kd.R_types HO400.out BK364.out (by decide))).1 k_ e_.symm).1.2.1) hs_) (fun hs_ => fun e_ => ((((Kd.R_types HO400.out BK364.out (by decide))).1 k_ e_.symm).1.2.2) hs_)) (fun hn_ => (Kd.fresh' (Kd.R_lt (Goto.rk HO400)) k_ hn_)), Or.elim hk_.1 (fun hs_ => Or.elim hs_ (fun hs_ => fun e_ => ((((Kd.R_types HO404.out BK364.out (by decide))).1 k_ e_.symm).1.2.1) hs_) (fun hs_ => fun e_ => ((((Kd.R_types HO404.out BK364.out (by decide))).1 k_ e_.symm).1.2.2) hs_)) (fun hn_ => (Kd.fresh' (Kd.R_lt (Goto.rk HO404)) k_ hn_))⟩))
            have n7_ := Goto.m0 (Kd.R_mono (ok' := fun k_ => some k_ ≠ (v410 : Value).ownBlock ∧ some k_ ≠ (v399 : Value).ownBlock ∧ some k_ ≠ (v403 : Value).ownBlock) ho1 (fun k_ hk_ => ⟨hk_.2, Or.elim hk_.1 (fun hs_ => Or.elim hs_ (fun hs_ => fun e_ => ((((Kd.R_types HO400.out BK364.out (by decide))).1 k_ e_.symm).1.2.1) hs_) (fun hs_ => fun e_ => ((((Kd.R_types HO400.out BK364.out (by decide))).1 k_ e_.symm).1.2.2) hs_)) (fun hn_ => (Kd.fresh' (Kd.R_lt (Goto.rk HO400)) k_ hn_)), Or.elim hk_.1 (fun hs_ => Or.elim hs_ (fun hs_ => fun e_ => ((((Kd.R_types HO404.out BK364.out (by decide))).1 k_ e_.symm).1.2.1) hs_) (fun hs_ => fun e_ => ((((Kd.R_types HO404.out BK364.out (by decide))).1 k_ e_.symm).1.2.2) hs_)) (fun hn_ => (Kd.fresh' (Kd.R_lt (Goto.rk HO404)) k_ hn_))⟩))
            have n8_ := Goto.m0 (hb)
            clear BK349; clear BK353; clear BK364; clear BK376; clear HO400; clear HO404; clear HB; clear HO_365006; clear HO_365007; have BK349 := n0_; have BK353 := n1_; have BK364 := n2_; have BK376 := n3_; have HO400 := n4_; have HO404 := n5_; have HO411 := n6_; have HO414 := n7_; have HB := n8_; clear n0_ n1_ n2_ n3_ n4_ n5_ n6_ n7_ n8_
            (try clear hb)
            (try clear hkp)
            (try clear ho0)
            (try clear ho1)
            refine hK.out _ _ ⟨(blk_cell BK376.out 0).trans rfl, (blk_cell BK376.out 1).trans rfl, (blk_cell BK376.out 2).trans rfl⟩ (fun hHeld => ?_)
            clear hK K
            refine norm_ (a' := ?_) ?_ ?_
            rotate_left
            ·
             show Act.put _ (some 72) _ = _
             exact Goto.ap
            refine Goto.pu 13 9 15 16383 ?_
            refine Goto.pu 14 10 15 32767 ?_
            refine done_ (done_of HT_.out (by kernel_rfl)) ?_
            try go_wp2
            go_meet
            case rel => exact ⟨_, (t405), (t406), (t397), (t398), (t401), (t402), (t407), (t408), (t409), (t412), (v399), (v403), (v410), (v413), (by first | rfl | (simp; done) | (simp [*]; done)), (by first | rfl | (simp; done) | (simp [*]; done)), H', ⟨by have := HJ4.out; have := HK2.out; first | omega | exact Nat.le_refl _⟩, ⟨Goto.rk HO400⟩, ⟨Goto.rk HO404⟩, ⟨by (with_reducible repeat (first | apply Kd.R_alloc | apply Kd.R_drewN | apply Kd.R_drew)); exact Kd.R_mono HO411.out (fun _ hk => ⟨hk.2.1, ⟨hk.2.2, hk.1⟩⟩)⟩, ⟨by (with_reducible repeat (first | apply Kd.R_alloc | apply Kd.R_drewN | apply Kd.R_drew)); exact Kd.R_mono HO414.out (fun _ hk => ⟨hk.2.1, ⟨hk.2.2, hk.1⟩⟩)⟩, ⟨Goto.bx BK349⟩, ⟨Goto.bx BK353⟩, ⟨Goto.bx BK364⟩, ⟨Goto.bx BK376⟩, ⟨Goto.hx HB⟩⟩
           ·
            rw [if_neg c49] at H
            have c49b0 : decide (((rd_T41 l1 x7_2).f0) ≤ 4) = false := decide_eq_false c49
            clear c49
            replace H := Option.bind_eq_some_iff.mp H
            obtain ⟨⟨t415, t416, t419, t420⟩, A610, H⟩ := H
            replace H : ((tontineref15_Latch_Turn.f t365 t366 l0_2 l0_3 x365004_2 x365005_2 x365006_2 x365007_2).bind fun bt423 => (tontinelaw15_LatchPlays.j2 k2 l1 x7_2 0 0 t354 t355 l0_2 l0_3 t415 t416 t419 t420 t365 t366 l0_2 l0_3 bt423.1 bt423.2.1 bt423.2.2.1 bt423.2.2.2)) = some r := H
            have A61 := Goto.m0 A610
            clear A610
            replace H := Option.bind_eq_some_iff.mp H
            obtain ⟨⟨t423, t424, t425, t428⟩, A620, H⟩ := H
            replace H : (tontinelaw15_LatchPlays.j2 k2 l1 x7_2 0 0 t354 t355 l0_2 l0_3 t415 t416 t419 t420 t365 t366 l0_2 l0_3 t423 t424 t425 t428) = some r := H
            have A62 := Goto.m0 A620
            clear A620
            have H' := Goto.m0 H
            clear H; have hnb63 := NB376_349.out; have hnc63 := NB349_376.out; have hnb64 := NB376_353.out; have hnc64 := NB353_376.out; have hnb65 := NB376_364.out; have hnc65 := NB364_376.out
            have hcz66_0 := Goto.bc0 BK376
            have hcz66_1 := Goto.bc1 BK376
            have hcz66_2 := Goto.bc2 BK376
            have hfz66_0 := Goto.bf BK376 0; have hfz66_1 := Goto.bf BK376 1; have hfz66_2 := Goto.bf BK376 2
            go_wp2_with (first | ((with_reducible refine gate_callee (f := 25) rfl ?_); refine goesL_ (some 40) rfl rfl Tryd.func25 (by kernel_rfl) rfl #[.pointer (some ⟨gb353, 0, none⟩)] rfl (by (try simp only [List.map_toArray, List.map_cons, List.map_nil]); first | done | rfl | (simp only [List.length_drop, List.length_take]; rfl)) ?_; (with_reducible refine (latch_Latch_Turn.calls k2 gb353 t354 t355 A0_2 c0_2 l0_2 A0_3 c0_3 l0_3 x354004_2 (fun k_ => some k_ = (u354005 : Value).ownBlock) u354005 x354005_2 x354006_2 (fun k_ => some k_ = (u354007 : Value).ownBlock) u354007 x354007_2 t415 t416 t419 t420 w _ ?side1 ?side2 ?side3 ?side4 ?side5 ?side6 ?side7 ?side8 ?side9 ?side10 ?side11 A61.out).mono ?_); (case side1 => exact by (with_reducible repeat first | refine blk_drewN ?_ _ | refine blk_drew ?_ | refine blk_alloc ?_ _); exact BK353.out); (case side2 => exact GE353.out); (case side3 => repeat (first | (with_reducible first | exact HB.out | apply below_alloc | apply pw_below_drewN | apply below_drew1 | refine below_set ?_ GE349.out | refine below_set ?_ GE353.out | refine below_set ?_ GE364.out | refine below_set ?_ GE376.out) | exact HB.out)); (case side4 => exact Kd.C_kept_came (Kd.heap_slice 3 (Kd.heap_int .i64)) HR0_2.out (Goto.hx HB) (fun k_ hs_ => Or.elim hs_ (fun hs_ => Or.elim hs_ (fun e_ => (fun e_ => Kd.R_base HO_354005.out k_ e_.symm) e_) (fun e_ => (fun e_ => Kd.R_base HO_354007.out k_ e_.symm) e_)) (fun e_ => (by rw [e_]; exact GE353.out)))); (case side5 => exact HC0_2.out); (case side6 => exact Kd.C_kept_came k60_heap HR0_3.out (Goto.hx HB) (fun k_ hs_ => Or.elim hs_ (fun hs_ => Or.elim hs_ (fun e_ => (fun e_ => Kd.R_base HO_354005.out k_ e_.symm) e_) (fun e_ => (fun e_ => Kd.R_base HO_354007.out k_ e_.symm) e_)) (fun e_ => (by rw [e_]; exact GE353.out)))); (case side7 => exact HC0_3.out); (case side8 => exact Kd.R_tight rfl HO_354005.out); (case side9 => exact fun k_ e_ => (HO_354005.out.1 k_ e_.symm).1); (case side10 => exact Kd.R_tight rfl HO_354007.out); (case side11 => exact fun k_ e_ => (HO_354007.out.1 k_ e_.symm).1); rintro e w67 ⟨v417, v421, rfl, ho0, ho1, hi, hb, hkp⟩; refine ⟨_, rfl, ?_⟩; have n0_ := Goto.m0 (Kd.R_mono (ok' := fun k_ => some k_ ≠ (u365007 : Value).ownBlock ∧ some k_ ≠ (v417 : Value).ownBlock ∧ some k_ ≠ (v421 : Value).ownBlock) (Kd.R_keptB ((Kd.R_types HO_365006.out BK353.out (by decide))) hkp (fun k_ hk_ hs_ => Or.elim hs_ (fun hs_ => Or.elim hs_ (fun e_ => (hk_.1.1) e_) (fun e_ => (hk_.1.2.1) e_)) (fun e_ => (hk_.2) e_))) (fun k_ hk_ => ⟨hk_.1.1.2.2, fun e_ => Or.elim (ho0.1 k_ e_.symm).1 (fun hs_ => hk_.2.1 (.inl hs_)) (fun hn_ => Nat.not_le.2 hk_.2.2 hn_), fun e_ => Or.elim (ho1.1 k_ e_.symm).1 (fun hs_ => hk_.2.1 (.inl hs_)) (fun hn_ => Nat.not_le.2 hk_.2.2 hn_)⟩)); have n1_ := Goto.m0 (Kd.R_mono (ok' := fun k_ => some k_ ≠ (u365006 : Value).ownBlock ∧ some k_ ≠ (v417 : Value).ownBlock ∧ some k_ ≠ (v421 : Value).ownBlock) (Kd.R_keptB ((Kd.R_types HO_365007.out BK353.out (by decide))) hkp (fun k_ hk_ hs_ => Or.elim hs_ (fun hs_ => Or.elim hs_ (fun e_ => (hk_.1.1) e_) (fun e_ => (hk_.1.2.1) e_)) (fun e_ => (hk_.2) e_))) (fun k_ hk_ => ⟨hk_.1.1.2.2, fun e_ => Or.elim (ho0.1 k_ e_.symm).1 (fun hs_ => hk_.2.1 (.inl hs_)) (fun hn_ => Nat.not_le.2 hk_.2.2 hn_), fun e_ => Or.elim (ho1.1 k_ e_.symm).1 (fun hs_ => hk_.2.1 (.inl hs_)) (fun hn_ => Nat.not_le.2 hk_.2.2 hn_)⟩)); have n2_ := Goto.m0 (blk_kept (Goto.bx BK349) hkp (fun hs_ => Or.elim hs_ (fun hs_ => Or.elim hs_ (fun e_ => (fun e_ => (Kd.R_ne HO_354005.out BK349.out (by decide)) e_) e_) (fun e_ => (fun e_ => (Kd.R_ne HO_354007.out BK349.out (by decide)) e_) e_)) (fun e_ => NB349_353.out e_))); have n3_ := Goto.m0 (hi); have n4_ := Goto.m0 (blk_kept (Goto.bx BK364) hkp (fun hs_ => Or.elim hs_ (fun hs_ => Or.elim hs_ (fun e_ => (fun e_ => (Kd.R_ne HO_354005.out BK364.out (by decide)) e_) e_) (fun e_ => (fun e_ => (Kd.R_ne HO_354007.out BK364.out (by decide)) e_) e_)) (fun e_ => NB364_353.out e_))); have n5_ := Goto.m0 (blk_kept (Goto.bx BK376) hkp (fun hs_ => Or.elim hs_ (fun hs_ => Or.elim hs_ (fun e_ => (fun e_ => (Kd.R_ne HO_354005.out BK376.out (by decide)) e_) e_) (fun e_ => (fun e_ => (Kd.R_ne HO_354007.out BK376.out (by decide)) e_) e_)) (fun e_ => NB376_353.out e_))); have n6_ := Goto.m0 (Kd.R_mono (ok' := fun k_ => some k_ ≠ (v421 : Value).ownBlock ∧ some k_ ≠ (u365006 : Value).ownBlock ∧ some k_ ≠ (u365007 : Value).ownBlock) ho0 (fun k_ hk_ => ⟨hk_.2, Or.elim hk_.1 (fun hs_ => Or.elim hs_ (fun hs_ => fun e_ => ((((Kd.R_types HO_365006.out BK353.out (by decide))).1 k_ e_.symm).1.1) hs_) (fun hs_ => fun e_ => ((((Kd.R_types HO_365006.out BK353.out (by decide))).1 k_ e_.symm).1.2.1) hs_)) (fun hn_ => (Kd.fresh' (Kd.R_lt (Goto.rk HO_365006)) k_ hn_)), Or.elim hk_.1 (fun hs_ => Or.elim hs_ (fun hs_ => fun e_ => ((((Kd.R_types HO_365007.out BK353.out (by decide))).1 k_ e_.symm).1.1) hs_) (fun hs_ => fun e_ => ((((Kd.R_types HO_365007.out BK353.out (by decide))).1 k_ e_.symm).1.2.1) hs_)) (fun hn_ => (Kd.fresh' (Kd.R_lt (Goto.rk HO_365007)) k_ hn_))⟩)); have n7_ := Goto.m0 (Kd.R_mono (ok' := fun k_ => some k_ ≠ (v417 : Value).ownBlock ∧ some k_ ≠ (u365006 : Value).ownBlock ∧ some k_ ≠ (u365007 : Value).ownBlock) ho1 (fun k_ hk_ => ⟨hk_.2, Or.elim hk_.1 (fun hs_ => Or.elim hs_ (fun hs_ => fun e_ => ((((Kd.R_types HO_365006.out BK353.out (by decide))).1 k_ e_.symm).1.1) hs_) (fun hs_ => fun e_ => ((((Kd.R_types HO_365006.out BK353.out (by decide))).1 k_ e_.symm).1.2.1) hs_)) (fun hn_ => (Kd.fresh' (Kd.R_lt (Goto.rk HO_365006)) k_ hn_)), Or.elim hk_.1 (fun hs_ => Or.elim hs_ (fun hs_ => fun e_ => ((((Kd.R_types HO_365007.out BK353.out (by decide))).1 k_ e_.symm).1.1) hs_) (fun hs_ => fun e_ => ((((Kd.R_types HO_365007.out BK353.out (by decide))).1 k_ e_.symm).1.2.1) hs_)) (fun hn_ => (Kd.fresh' (Kd.R_lt (Goto.rk HO_365007)) k_ hn_))⟩)); have n8_ := Goto.m0 (hb); clear HO_365006; clear HO_365007; clear BK349; clear BK353; clear BK364; clear BK376; clear HB; clear HO_354005; clear HO_354007; have HO_365006 := n0_; have HO_365007 := n1_; have BK349 := n2_; have BK353 := n3_; have BK364 := n4_; have BK376 := n5_; have HO418 := n6_; have HO422 := n7_; have HB := n8_; clear n0_ n1_ n2_ n3_ n4_ n5_ n6_ n7_ n8_; (try clear hb); (try clear hkp); (try clear ho0); (try clear ho1)) | ((with_reducible refine gate_callee (f := 26) rfl ?_); refine goesL_ (some 42) rfl rfl Tryd.func26 (by kernel_rfl) rfl #[.pointer (some ⟨gb364, 0, none⟩)] rfl (by (try simp only [List.map_toArray, List.map_cons, List.map_nil]); first | done | rfl | (simp only [List.length_drop, List.length_take]; rfl)) ?_; (with_reducible refine (tontineref15_Latch_Turn.calls gb364 t365 t366 A0_2 c0_2 l0_2 A0_3 c0_3 l0_3 x365004_2 x365005_2 (fun k_ => some k_ = (u365006 : Value).ownBlock) u365006 x365006_2 (fun k_ => some k_ = (u365007 : Value).ownBlock) u365007 x365007_2 t423 t424 t425 t428 w _ ?side1 ?side2 ?side3 ?side4 ?side5 ?side6 ?side7 ?side8 ?side9 ?side10 ?side11 A62.out).mono ?_); (case side1 => exact by (with_reducible repeat first | refine blk_drewN ?_ _ | refine blk_drew ?_ | refine blk_alloc ?_ _); exact BK364.out); (case side2 => exact GE364.out); (case side3 => repeat (first | (with_reducible first | exact HB.out | apply below_alloc | apply pw_below_drewN | apply below_drew1 | refine below_set ?_ GE349.out | refine below_set ?_ GE353.out | refine below_set ?_ GE364.out | refine below_set ?_ GE376.out) | exact HB.out)); (case side4 => exact Kd.C_kept_came (Kd.heap_slice 3 (Kd.heap_int .i64)) HR0_2.out (Goto.hx HB) (fun k_ hs_ => Or.elim hs_ (fun hs_ => Or.elim hs_ (fun e_ => (fun e_ => Kd.R_base HO_365006.out k_ e_.symm) e_) (fun e_ => (fun e_ => Kd.R_base HO_365007.out k_ e_.symm) e_)) (fun e_ => (by rw [e_]; exact GE364.out)))); (case side5 => exact HC0_2.out); (case side6 => exact Kd.C_kept_came k60_heap HR0_3.out (Goto.hx HB) (fun k_ hs_ => Or.elim hs_ (fun hs_ => Or.elim hs_ (fun e_ => (fun e_ => Kd.R_base HO_365006.out k_ e_.symm) e_) (fun e_ => (fun e_ => Kd.R_base HO_365007.out k_ e_.symm) e_)) (fun e_ => (by rw [e_]; exact GE364.out)))); (case side7 => exact HC0_3.out); (case side8 => exact Kd.R_tight rfl HO_365006.out); (case side9 => exact fun k_ e_ => (HO_365006.out.1 k_ e_.symm).1); (case side10 => exact Kd.R_tight rfl HO_365007.out); (case side11 => exact fun k_ e_ => (HO_365007.out.1 k_ e_.symm).1); rintro e w68 ⟨v426, v429, rfl, ho0, ho1, hi, hb, hkp⟩; refine ⟨_, rfl, ?_⟩; have n0_ := Goto.m0 (blk_kept (Goto.bx BK349) hkp (fun hs_ => Or.elim hs_ (fun hs_ => Or.elim hs_ (fun e_ => (fun e_ => (Kd.R_ne HO_365006.out BK349.out (by decide)) e_) e_) (fun e_ => (fun e_ => (Kd.R_ne HO_365007.out BK349.out (by decide)) e_) e_)) (fun e_ => NB349_364.out e_))); have n1_ := Goto.m0 (blk_kept (Goto.bx BK353) hkp (fun hs_ => Or.elim hs_ (fun hs_ => Or.elim hs_ (fun e_ => (fun e_ => (Kd.R_ne HO_365006.out BK353.out (by decide)) e_) e_) (fun e_ => (fun e_ => (Kd.R_ne HO_365007.out BK353.out (by decide)) e_) e_)) (fun e_ => NB353_364.out e_))); have n2_ := Goto.m0 (hi); have n3_ := Goto.m0 (blk_kept (Goto.bx BK376) hkp (fun hs_ => Or.elim hs_ (fun hs_ => Or.elim hs_ (fun e_ => (fun e_ => (Kd.R_ne HO_365006.out BK376.out (by decide)) e_) e_) (fun e_ => (fun e_ => (Kd.R_ne HO_365007.out BK376.out (by decide)) e_) e_)) (fun e_ => NB376_364.out e_))); have n4_ := Goto.m0 (Kd.R_mono (ok' := fun k_ => some k_ ≠ (v421 : Value).ownBlock ∧ some k_ ≠ (v426 : Value).ownBlock ∧ some k_ ≠ (v429 : Value).ownBlock) (Kd.R_keptB ((Kd.R_types HO418.out BK364.out (by decide))) hkp (fun k_ hk_ hs_ => Or.elim hs_ (fun hs_ => Or.elim hs_ (fun e_ => (hk_.1.2.1) e_) (fun e_ => (hk_.1.2.2) e_)) (fun e_ => (hk_.2) e_))) (fun k_ hk_ => ⟨hk_.1.1.1, fun e_ => Or.elim (ho0.1 k_ e_.symm).1 (fun hs_ => hk_.2.1 (.inl hs_)) (fun hn_ => Nat.not_le.2 hk_.2.2 hn_), fun e_ => Or.elim (ho1.1 k_ e_.symm).1 (fun hs_ => hk_.2.1 (.inl hs_)) (fun hn_ => Nat.not_le.2 hk_.2.2 hn_)⟩)); have n5_ := Goto.m0 (Kd.R_mono (ok' := fun k_ => some k_ ≠ (v417 : Value).ownBlock ∧ some k_ ≠ (v426 : Value).ownBlock ∧ some k_ ≠ (v429 : Value).ownBlock) (Kd.R_keptB ((Kd.R_types HO422.out BK364.out (by decide))) hkp (fun k_ hk_ hs_ => Or.elim hs_ (fun hs_ => Or.elim hs_ (fun e_ => (hk_.1.2.1) e_) (fun e_ => (hk_.1.2.2) e_)) (fun e_ => (hk_.2) e_))) (fun k_ hk_ => ⟨hk_.1.1.1, fun e_ => Or.elim (ho0.1 k_ e_.symm).1 (fun hs_ => hk_.2.1 (.inl hs_)) (fun hn_ => Nat.not_le.2 hk_.2.2 hn_), fun e_ => Or.elim (ho1.1 k_ e_.symm).1 (fun hs_ => hk_.2.1 (.inl hs_)) (fun hn_ => Nat.not_le.2 hk_.2.2 hn_)⟩)); have n6_ := Goto.m0 (Kd.R_mono (ok' := fun k_ => some k_ ≠ (v429 : Value).ownBlock ∧ some k_ ≠ (v417 : Value).ownBlock ∧ some k_ ≠ (v421 : Value).ownBlock) ho0 (fun k_ hk_ => ⟨hk_.2, Or.elim hk_.1 (fun hs_ => Or.elim hs_ (fun hs_ => fun e_ => ((((Kd.R_types HO418.out BK364.out (by decide))).1 k_ e_.symm).1.2.1) hs_) (fun hs_ => fun e_ => ((((Kd.R_types HO418.out BK364.out (by decide))).1 k_ e_.symm).1.2.2) hs_)) (fun hn_ => (Kd.fresh' (Kd.R_lt (Goto.rk HO418)) k_ hn_)), Or.elim hk_.1 (fun hs_ => Or.elim hs_ (fun hs_ => fun e_ => ((((Kd.R_types HO422.out BK364.out (by decide))).1 k_ e_.symm).1.2.1) hs_) (fun hs_ => fun e_ => ((((Kd.R_types HO422.out BK364.out (by decide))).1 k_ e_.symm).1.2.2) hs_)) (fun hn_ => (Kd.fresh' (Kd.R_lt (Goto.rk HO422)) k_ hn_))⟩)); have n7_ := Goto.m0 (Kd.R_mono (ok' := fun k_ => some k_ ≠ (v426 : Value).ownBlock ∧ some k_ ≠ (v417 : Value).ownBlock ∧ some k_ ≠ (v421 : Value).ownBlock) ho1 (fun k_ hk_ => ⟨hk_.2, Or.elim hk_.1 (fun hs_ => Or.elim hs_ (fun hs_ => fun e_ => ((((Kd.R_types HO418.out BK364.out (by decide))).1 k_ e_.symm).1.2.1) hs_) (fun hs_ => fun e_ => ((((Kd.R_types HO418.out BK364.out (by decide))).1 k_ e_.symm).1.2.2) hs_)) (fun hn_ => (Kd.fresh' (Kd.R_lt (Goto.rk HO418)) k_ hn_)), Or.elim hk_.1 (fun hs_ => Or.elim hs_ (fun hs_ => fun e_ => ((((Kd.R_types HO422.out BK364.out (by decide))).1 k_ e_.symm).1.2.1) hs_) (fun hs_ => fun e_ => ((((Kd.R_types HO422.out BK364.out (by decide))).1 k_ e_.symm).1.2.2) hs_)) (fun hn_ => (Kd.fresh' (Kd.R_lt (Goto.rk HO422)) k_ hn_))⟩)); have n8_ := Goto.m0 (hb); clear BK349; clear BK353; clear BK364; clear BK376; clear HO418; clear HO422; clear HB; clear HO_365006; clear HO_365007; have BK349 := n0_; have BK353 := n1_; have BK364 := n2_; have BK376 := n3_; have HO418 := n4_; have HO422 := n5_; have HO427 := n6_; have HO430 := n7_; have HB := n8_; clear n0_ n1_ n2_ n3_ n4_ n5_ n6_ n7_ n8_; (try clear hb); (try clear hkp); (try clear ho0); (try clear ho1)))
            go_meet
            case rel => exact ⟨_, (0), (0), (t415), (t416), (t419), (t420), (t423), (t424), (t425), (t428), (v417), (v421), (v426), (v429), (by first | rfl | (simp; done) | (simp [*]; done)), (by first | rfl | (simp; done) | (simp [*]; done)), H', ⟨by have := HJ4.out; have := HK2.out; first | omega | exact Nat.le_refl _⟩, ⟨Goto.rk HO418⟩, ⟨Goto.rk HO422⟩, ⟨by (with_reducible repeat (first | apply Kd.R_alloc | apply Kd.R_drewN | apply Kd.R_drew)); exact Kd.R_mono HO427.out (fun _ hk => ⟨hk.2.1, ⟨hk.2.2, hk.1⟩⟩)⟩, ⟨by (with_reducible repeat (first | apply Kd.R_alloc | apply Kd.R_drewN | apply Kd.R_drew)); exact Kd.R_mono HO430.out (fun _ hk => ⟨hk.2.1, ⟨hk.2.2, hk.1⟩⟩)⟩, ⟨Goto.bx BK349⟩, ⟨Goto.bx BK353⟩, ⟨Goto.bx BK364⟩, ⟨Goto.bx BK376⟩, ⟨Goto.hx HB⟩⟩
         case rest =>
          clear HC30; try clear c2; try clear p2; try clear c3; try clear c4; try clear c5; try clear c6; try clear c20; try clear c21; try clear c22; try clear c23; try clear c24; try clear c25; try clear c26; try clear c37; try clear c37b0; try clear c49; try clear c49b0; try clear c53; try clear c54; try clear c55; try clear c63; try clear c64; try clear c65; try clear hcz56_0; try clear hcz56_1; try clear hcz56_2; try clear hcz66_0; try clear hcz66_1; try clear hcz66_2; try clear hfz56_0; try clear hfz56_1; try clear hfz56_2; try clear hfz66_0; try clear hfz66_1; try clear hfz66_2
          obtain ⟨kq, x9_29, x10_29, x354004_29, x354005_29, x354006_29, x354007_29, x365004_29, x365005_29, x365006_29, x365007_29, u354005, u354007, u365006, u365007, rfl, rfl, HA, HJ29, HO_354005, HO_354007, HO_365006, HO_365007, BK349, BK353, BK364, BK376, HB⟩ := hcut
          cases kq with
          | zero => exact absurd HA.out (by simp [tontinelaw15_LatchPlays.j2])
          | succ kj29 =>
           have H := HA.out; clear HA
           simp only [tontinelaw15_LatchPlays.j2] at H
           have HC69 := Goto.m0 H
           clear H
           go_upto_region 17 with (fail)
           go_cut [94] (fun v94 wc => ∃ (kq : Nat) (x94_68 : Bool) (x354004_68 : Int) (x354005_68 : List Int) (x354006_68 : Int) (x354007_68 : List Int) (u354005 : Value) (u354007 : Value), v94 = .bool x94_68 ∧ Aside0 (tontinelaw15_LatchPlays.j3 kq l1 x7_2 x94_68 t354 t355 l0_2 l0_3 x354004_68 x354005_68 x354006_68 x354007_68 t365 t366 l0_2 l0_3 x365004_29 x365005_29 x365006_29 x365007_29 = some r) ∧ Aside0 (kq ≤ kj29) ∧ Aside0 (Kd.R (Kd.int .i64) 3 wc w.heap.size (fun k_ => some k_ ≠ (u354007 : Value).ownBlock ∧ some k_ ≠ (u365006 : Value).ownBlock ∧ some k_ ≠ (u365007 : Value).ownBlock) u354005 x354005_68) ∧ Aside0 (Kd.R (Kd.int .i64) 3 wc w.heap.size (fun k_ => some k_ ≠ (u354005 : Value).ownBlock ∧ some k_ ≠ (u365006 : Value).ownBlock ∧ some k_ ≠ (u365007 : Value).ownBlock) u354007 x354007_68) ∧ Aside0 (Kd.R (Kd.int .i64) 3 wc w.heap.size (fun k_ => some k_ ≠ (u354005 : Value).ownBlock ∧ some k_ ≠ (u354007 : Value).ownBlock ∧ some k_ ≠ (u365007 : Value).ownBlock) u365006 x365006_29) ∧ Aside0 (Kd.R (Kd.int .i64) 3 wc w.heap.size (fun k_ => some k_ ≠ (u354005 : Value).ownBlock ∧ some k_ ≠ (u354007 : Value).ownBlock ∧ some k_ ≠ (u365006 : Value).ownBlock) u365007 x365007_29) ∧ Aside0 (wc.heap[gb349]? = some (.cells #[.int .i64 a0_0, .int .i64 a0_1, (.slice A0_2 l0_2.length c0_2), (.slice A0_3 l0_3.length c0_3)] 25 (0, 0))) ∧ Aside0 (wc.heap[gb353]? = some (.cells #[.int .i64 t354, .int .i64 t355, (.slice A0_2 l0_2.length c0_2), (.slice A0_3 l0_3.length c0_3), .int .i64 x354004_68, u354005, .int .i64 x354006_68, u354007] 70 (0, 0))) ∧ Aside0 (wc.heap[gb364]? = some (.cells #[.int .i64 t365, .int .i64 t366, (.slice A0_2 l0_2.length c0_2), (.slice A0_3 l0_3.length c0_3), .int .i64 x365004_29, .int .i64 x365005_29, u365006, u365007] 49 (0, 0))) ∧ Aside0 (wc.heap[gb376]? = some (.cells #[.int .i64 ((rd_T41 l1 x7_2).f0), .int .i64 ((rd_T41 l1 x7_2).f1), .int .i64 ((rd_T41 l1 x7_2).f2)] 41 (0, 0))) ∧ Aside0 (Below w.heap.size w wc))
           case first =>
            have H := HC69.out; clear HC69
            by_cases c70 : x9_29 = x10_29
            ·
             rw [if_pos c70] at H
             have c70b0 : (x9_29 == x10_29) = true := beq_iff_eq.mpr c70
             have c70b1 : (x9_29 != x10_29) = false := bne_eq_false_iff_eq.mpr c70
             clear c70
             (first | rw [c70b0] | (simp only [i64_w, i32_w]; rw [c70b0]) | skip)
             replace H := Option.bind_eq_some_iff.mp H
             obtain ⟨⟨t431, t432, t433, t436, t437⟩, A710, H⟩ := H
             replace H : (if t431 = x365004_29 then ((latch_Latch_Levels.f t354 t355 l0_2 l0_3 t432 t433 t436 t437).bind fun bt440 => ((tontineref1_SameInts.f kj29 bt440.1 x365006_29).bind fun t451 => (tontinelaw15_LatchPlays.j3 kj29 l1 x7_2 (!t451) t354 t355 l0_2 l0_3 bt440.2.1 bt440.2.2.1 bt440.2.2.2.1 bt440.2.2.2.2 t365 t366 l0_2 l0_3 x365004_29 x365005_29 x365006_29 x365007_29))) else (tontinelaw15_LatchPlays.j3 kj29 l1 x7_2 true t354 t355 l0_2 l0_3 t432 t433 t436 t437 t365 t366 l0_2 l0_3 x365004_29 x365005_29 x365006_29 x365007_29)) = some r := H
             have A71 := Goto.m0 A710
             clear A710
             by_cases c72 : t431 = x365004_29
             ·
              rw [if_pos c72] at H
              have c72b0 : (t431 == x365004_29) = true := beq_iff_eq.mpr c72
              have c72b1 : (t431 != x365004_29) = false := bne_eq_false_iff_eq.mpr c72
              clear c72
              replace H := Option.bind_eq_some_iff.mp H
              obtain ⟨⟨t440, t443, t444, t447, t448⟩, A730, H⟩ := H
              replace H : ((tontineref1_SameInts.f kj29 t440 x365006_29).bind fun t451 => (tontinelaw15_LatchPlays.j3 kj29 l1 x7_2 (!t451) t354 t355 l0_2 l0_3 t443 t444 t447 t448 t365 t366 l0_2 l0_3 x365004_29 x365005_29 x365006_29 x365007_29)) = some r := H
              have A73 := Goto.m0 A730
              clear A730
              replace H := Option.bind_eq_some_iff.mp H
              obtain ⟨t451, A740, H⟩ := H
              have A74 := Goto.m0 A740
              clear A740
              have H' := Goto.m0 H
              clear H
              try go_wp2
              replace HO_354005 := Goto.m0 (Kd.R_drew HO_354005.out); replace HO_354007 := Goto.m0 (Kd.R_drew HO_354007.out); replace HO_365006 := Goto.m0 (Kd.R_drew HO_365006.out); replace HO_365007 := Goto.m0 (Kd.R_drew HO_365007.out); replace BK349 := Goto.m0 (blk_drew BK349.out); replace BK353 := Goto.m0 (blk_drew BK353.out); replace BK364 := Goto.m0 (blk_drew BK364.out); replace BK376 := Goto.m0 (blk_drew BK376.out); replace HB := Goto.m0 (below_drew1 HB.out)
              refine start_ (n := 22) (S := fun w' => w'.cell? ⟨gb364, 0, none⟩ = some (.int .i64 t365) ∧ w'.cell? ⟨gb364, 1, none⟩ = some (.int .i64 t366) ∧ w'.cell? ⟨gb364, 2, none⟩ = some (.slice A0_2 l0_2.length c0_2) ∧ w'.cell? ⟨gb364, 3, none⟩ = some (.slice A0_3 l0_3.length c0_3) ∧ w'.cell? ⟨gb364, 4, none⟩ = some (.int .i64 x365004_29) ∧ w'.cell? ⟨gb364, 5, none⟩ = some (.int .i64 x365005_29) ∧ w'.cell? ⟨gb364, 6, none⟩ = some (u365006) ∧ w'.cell? ⟨gb364, 7, none⟩ = some (u365007)) (ds := []) (.replicate 22 false) (by kernel_rfl) rfl rfl ⟨(blk_cell BK364.out 0).trans rfl, (blk_cell BK364.out 1).trans rfl, (blk_cell BK364.out 2).trans rfl, (blk_cell BK364.out 3).trans rfl, (blk_cell BK364.out 4).trans rfl, (blk_cell BK364.out 5).trans rfl, (blk_cell BK364.out 6).trans rfl, (blk_cell BK364.out 7).trans rfl⟩ (fun hHeld => ?_); refine with_tabW tontinelaw15_LatchPlays.tab17 tontinelaw15_LatchPlays.bits17 (fun HT_ HW_ => ?_)
              generalize wc.drew = w75 at HO_354005 HO_354007 HO_365006 HO_365007 BK349 BK353 BK364 BK376 HB hHeld ⊢
              refine Goto.pu 0 73 22 1 ?_
              refine Goto.pu 1 74 22 3 ?_
              refine Goto.pu 2 75 22 7 ?_
              refine Goto.pu 3 76 22 15 ?_
              refine Goto.pu 4 77 22 31 ?_
              refine Goto.pu 6 79 22 95 ?_
              refine Goto.pu 7 80 22 223 ?_
              refine Goto.pu 8 81 22 479 ?_
              refine take_ (i := 9) (N := some 82) (v := ?_) (a' := ?_) (Goto.bs 22 991) rfl rfl (take_ofW HT_.out HW_.out (by kernel_rfl)) (fun _ _ _ h => h) (Or.inl ⟨by rfl, ?_⟩) hHeld ?_ ?_
              rotate_left
              ·
               rintro w' ⟨s0, s1, s2, s3, s4, s5, s6, s7⟩
               go_simp
               with_reducible rfl
              rotate_left
              ·
               exact Goto.ap
              refine one_ (i := 5) (N := some 78) (Goto.bs 22 1023) rfl rfl (one_of HT_.out (by kernel_rfl)) (by decide) (fun K hK => ?_)
              refine goes_ Tryd.func27 (by kernel_rfl) rfl #[.pointer (some ⟨gb353, 0, none⟩)] (by rfl) rfl rfl (by (try simp only [List.map_toArray, List.map_cons, List.map_nil]); first | done | rfl | (simp only [List.length_drop, List.length_take]; rfl)) ?_
              with_reducible refine (latch_Latch_Plan.calls gb353 t354 t355 A0_2 c0_2 l0_2 A0_3 c0_3 l0_3 x354004_29 (fun k_ => some k_ = (u354005 : Value).ownBlock) u354005 x354005_29 x354006_29 (fun k_ => some k_ = (u354007 : Value).ownBlock) u354007 x354007_29 t431 t432 t433 t436 t437 w _ ?side1 ?side2 ?side3 ?side4 ?side5 ?side6 ?side7 ?side8 ?side9 ?side10 ?side11 A71.out).mono ?_
              (case side1 => exact by (with_reducible repeat first | refine blk_drewN ?_ _ | refine blk_drew ?_ | refine blk_alloc ?_ _); exact BK353.out)
              (case side2 => exact GE353.out)
              (case side3 => repeat (first | (with_reducible first | exact HB.out | apply below_alloc | apply pw_below_drewN | apply below_drew1 | refine below_set ?_ GE349.out | refine below_set ?_ GE353.out | refine below_set ?_ GE364.out | refine below_set ?_ GE376.out) | exact HB.out))
              (case side4 => exact Kd.C_kept_came (Kd.heap_slice 3 (Kd.heap_int .i64)) HR0_2.out (Goto.hx HB) (fun k_ hs_ => Or.elim hs_ (fun hs_ => Or.elim hs_ (fun e_ => (fun e_ => Kd.R_base HO_354005.out k_ e_.symm) e_) (fun e_ => (fun e_ => Kd.R_base HO_354007.out k_ e_.symm) e_)) (fun e_ => (by rw [e_]; exact GE353.out))))
              (case side5 => exact HC0_2.out)
              (case side6 => exact Kd.C_kept_came k60_heap HR0_3.out (Goto.hx HB) (fun k_ hs_ => Or.elim hs_ (fun hs_ => Or.elim hs_ (fun e_ => (fun e_ => Kd.R_base HO_354005.out k_ e_.symm) e_) (fun e_ => (fun e_ => Kd.R_base HO_354007.out k_ e_.symm) e_)) (fun e_ => (by rw [e_]; exact GE353.out))))
              (case side7 => exact HC0_3.out)
              (case side8 => exact Kd.R_tight rfl HO_354005.out)
              (case side9 => exact fun k_ e_ => (HO_354005.out.1 k_ e_.symm).1)
              (case side10 => exact Kd.R_tight rfl HO_354007.out)
              (case side11 => exact fun k_ e_ => (HO_354007.out.1 k_ e_.symm).1)
              rintro e w76 ⟨v434, v438, rfl, ho0, ho1, hi, hb, hkp⟩
              refine ⟨_, rfl, ?_⟩
              have n0_ := Goto.m0 (Kd.R_mono (ok' := fun k_ => some k_ ≠ (u365007 : Value).ownBlock ∧ some k_ ≠ (v434 : Value).ownBlock ∧ some k_ ≠ (v438 : Value).ownBlock) (Kd.R_keptB ((Kd.R_types HO_365006.out BK353.out (by decide))) hkp (fun k_ hk_ hs_ => Or.elim hs_ (fun hs_ => Or.elim hs_ (fun e_ => (hk_.1.1) e_) (fun e_ => (hk_.1.2.1) e_)) (fun e_ => (hk_.2) e_))) (fun k_ hk_ => ⟨hk_.1.1.2.2, fun e_ => Or.elim (ho0.1 k_ e_.symm).1 (fun hs_ => hk_.2.1 (.inl hs_)) (fun hn_ => Nat.not_le.2 hk_.2.2 hn_), fun e_ => Or.elim (ho1.1 k_ e_.symm).1 (fun hs_ => hk_.2.1 (.inl hs_)) (fun hn_ => Nat.not_le.2 hk_.2.2 hn_)⟩))
              have n1_ := Goto.m0 (Kd.R_mono (ok' := fun k_ => some k_ ≠ (u365006 : Value).ownBlock ∧ some k_ ≠ (v434 : Value).ownBlock ∧ some k_ ≠ (v438 : Value).ownBlock) (Kd.R_keptB ((Kd.R_types HO_365007.out BK353.out (by decide))) hkp (fun k_ hk_ hs_ => Or.elim hs_ (fun hs_ => Or.elim hs_ (fun e_ => (hk_.1.1) e_) (fun e_ => (hk_.1.2.1) e_)) (fun e_ => (hk_.2) e_))) (fun k_ hk_ => ⟨hk_.1.1.2.2, fun e_ => Or.elim (ho0.1 k_ e_.symm).1 (fun hs_ => hk_.2.1 (.inl hs_)) (fun hn_ => Nat.not_le.2 hk_.2.2 hn_), fun e_ => Or.elim (ho1.1 k_ e_.symm).1 (fun hs_ => hk_.2.1 (.inl hs_)) (fun hn_ => Nat.not_le.2 hk_.2.2 hn_)⟩))
              have n2_ := Goto.m0 (blk_kept (Goto.bx BK349) hkp (fun hs_ => Or.elim hs_ (fun hs_ => Or.elim hs_ (fun e_ => (fun e_ => (Kd.R_ne HO_354005.out BK349.out (by decide)) e_) e_) (fun e_ => (fun e_ => (Kd.R_ne HO_354007.out BK349.out (by decide)) e_) e_)) (fun e_ => NB349_353.out e_)))
              have n3_ := Goto.m0 (hi)
              have n4_ := Goto.m0 (blk_kept (Goto.bx BK364) hkp (fun hs_ => Or.elim hs_ (fun hs_ => Or.elim hs_ (fun e_ => (fun e_ => (Kd.R_ne HO_354005.out BK364.out (by decide)) e_) e_) (fun e_ => (fun e_ => (Kd.R_ne HO_354007.out BK364.out (by decide)) e_) e_)) (fun e_ => NB364_353.out e_)))
              have n5_ := Goto.m0 (blk_kept (Goto.bx BK376) hkp (fun hs_ => Or.elim hs_ (fun hs_ => Or.elim hs_ (fun e_ => (fun e_ => (Kd.R_ne HO_354005.out BK376.out (by decide)) e_) e_) (fun e_ => (fun e_ => (Kd.R_ne HO_354007.out BK376.out (by decide)) e_) e_)) (fun e_ => NB376_353.out e_)))
              have n6_ := Goto.m0 (Kd.R_mono (ok' := fun k_ => some k_ ≠ (v438 : Value).ownBlock ∧ some k_ ≠ (u365006 : Value).ownBlock ∧ some k_ ≠ (u365007 : Value).ownBlock) ho0 (fun k_ hk_ => ⟨hk_.2, Or.elim hk_.1 (fun hs_ => Or.elim hs_ (fun hs_ => fun e_ => ((((Kd.R_types HO_365006.out BK353.out (by decide))).1 k_ e_.symm).1.1) hs_) (fun hs_ => fun e_ => ((((Kd.R_types HO_365006.out BK353.out (by decide))).1 k_ e_.symm).1.2.1) hs_)) (fun hn_ => (Kd.fresh' (Kd.R_lt (Goto.rk HO_365006)) k_ hn_)), Or.elim hk_.1 (fun hs_ => Or.elim hs_ (fun hs_ => fun e_ => ((((Kd.R_types HO_365007.out BK353.out (by decide))).1 k_ e_.symm).1.1) hs_) (fun hs_ => fun e_ => ((((Kd.R_types HO_365007.out BK353.out (by decide))).1 k_ e_.symm).1.2.1) hs_)) (fun hn_ => (Kd.fresh' (Kd.R_lt (Goto.rk HO_365007)) k_ hn_))⟩))
              have n7_ := Goto.m0 (Kd.R_mono (ok' := fun k_ => some k_ ≠ (v434 : Value).ownBlock ∧ some k_ ≠ (u365006 : Value).ownBlock ∧ some k_ ≠ (u365007 : Value).ownBlock) ho1 (fun k_ hk_ => ⟨hk_.2, Or.elim hk_.1 (fun hs_ => Or.elim hs_ (fun hs_ => fun e_ => ((((Kd.R_types HO_365006.out BK353.out (by decide))).1 k_ e_.symm).1.1) hs_) (fun hs_ => fun e_ => ((((Kd.R_types HO_365006.out BK353.out (by decide))).1 k_ e_.symm).1.2.1) hs_)) (fun hn_ => (Kd.fresh' (Kd.R_lt (Goto.rk HO_365006)) k_ hn_)), Or.elim hk_.1 (fun hs_ => Or.elim hs_ (fun hs_ => fun e_ => ((((Kd.R_types HO_365007.out BK353.out (by decide))).1 k_ e_.symm).1.1) hs_) (fun hs_ => fun e_ => ((((Kd.R_types HO_365007.out BK353.out (by decide))).1 k_ e_.symm).1.2.1) hs_)) (fun hn_ => (Kd.fresh' (Kd.R_lt (Goto.rk HO_365007)) k_ hn_))⟩))
              have n8_ := Goto.m0 (hb)
              clear HO_365006; clear HO_365007; clear BK349; clear BK353; clear BK364; clear BK376; clear HB; clear HO_354005; clear HO_354007; have HO_365006 := n0_; have HO_365007 := n1_; have BK349 := n2_; have BK353 := n3_; have BK364 := n4_; have BK376 := n5_; have HO435 := n6_; have HO439 := n7_; have HB := n8_; clear n0_ n1_ n2_ n3_ n4_ n5_ n6_ n7_ n8_
              (try clear hb)
              (try clear hkp)
              (try clear ho0)
              (try clear ho1)
              refine hK.out _ _ ⟨(blk_cell BK364.out 0).trans rfl, (blk_cell BK364.out 1).trans rfl, (blk_cell BK364.out 2).trans rfl, (blk_cell BK364.out 3).trans rfl, (blk_cell BK364.out 4).trans rfl, (blk_cell BK364.out 5).trans rfl, (blk_cell BK364.out 6).trans rfl, (blk_cell BK364.out 7).trans rfl⟩ (fun hHeld => ?_)
              clear hK K
              refine norm_ (a' := ?_) ?_ ?_
              rotate_left
              ·
               show Act.put _ (some 78) _ = _
               exact Goto.ap
              refine Goto.pu 10 83 22 2047 ?_
              refine Goto.pu 11 84 22 4095 ?_
              refine Goto.pu 12 85 22 8191 ?_
              refine Goto.pu 13 86 22 16383 ?_
              refine Goto.pu 15 88 22 49151 ?_
              refine Goto.pu 16 89 22 114687 ?_
              refine Goto.pu 17 90 22 245759 ?_
              refine take_ (i := 18) (N := some 91) (v := ?_) (a' := ?_) (Goto.bs 22 507903) rfl rfl (take_ofW HT_.out HW_.out (by kernel_rfl)) (fun _ _ _ h => h) (Or.inl ⟨by rfl, ?_⟩) hHeld ?_ ?_
              rotate_left
              ·
               rintro w' ⟨s0, s1, s2, s3, s4, s5, s6, s7⟩
               go_simp
               with_reducible rfl
              rotate_left
              ·
               exact Goto.ap
              refine one_ (i := 14) (N := some 87) (Goto.bs 22 524287) rfl rfl (one_of HT_.out (by kernel_rfl)) (by decide) (fun K hK => ?_)
              refine goes_ Tryd.func29 (by kernel_rfl) rfl #[.pointer (some ⟨gb353, 0, none⟩)] (by rfl) rfl rfl (by (try simp only [List.map_toArray, List.map_cons, List.map_nil]); first | done | rfl | (simp only [List.length_drop, List.length_take]; rfl)) ?_
              with_reducible refine (latch_Latch_Levels.calls gb353 t354 t355 A0_2 c0_2 l0_2 A0_3 c0_3 l0_3 t432 (fun k_ => some k_ = (v434 : Value).ownBlock) v434 t433 t436 (fun k_ => some k_ = (v438 : Value).ownBlock) v438 t437 t440 t443 t444 t447 t448 w _ ?side1 ?side2 ?side3 ?side4 ?side5 ?side6 ?side7 ?side8 ?side9 ?side10 ?side11 A73.out).mono ?_
              (case side1 => exact by (with_reducible repeat first | refine blk_drewN ?_ _ | refine blk_drew ?_ | refine blk_alloc ?_ _); exact BK353.out)
              (case side2 => exact GE353.out)
              (case side3 => repeat (first | (with_reducible first | exact HB.out | apply below_alloc | apply pw_below_drewN | apply below_drew1 | refine below_set ?_ GE349.out | refine below_set ?_ GE353.out | refine below_set ?_ GE364.out | refine below_set ?_ GE376.out) | exact HB.out))
              (case side4 => exact Kd.C_kept_came (Kd.heap_slice 3 (Kd.heap_int .i64)) HR0_2.out (Goto.hx HB) (fun k_ hs_ => Or.elim hs_ (fun hs_ => Or.elim hs_ (fun e_ => (fun e_ => Kd.R_base HO435.out k_ e_.symm) e_) (fun e_ => (fun e_ => Kd.R_base HO439.out k_ e_.symm) e_)) (fun e_ => (by rw [e_]; exact GE353.out))))
              (case side5 => exact HC0_2.out)
              (case side6 => exact Kd.C_kept_came k60_heap HR0_3.out (Goto.hx HB) (fun k_ hs_ => Or.elim hs_ (fun hs_ => Or.elim hs_ (fun e_ => (fun e_ => Kd.R_base HO435.out k_ e_.symm) e_) (fun e_ => (fun e_ => Kd.R_base HO439.out k_ e_.symm) e_)) (fun e_ => (by rw [e_]; exact GE353.out))))
              (case side7 => exact HC0_3.out)
              (case side8 => exact Kd.R_tight rfl HO435.out)
              (case side9 => exact fun k_ e_ => (HO435.out.1 k_ e_.symm).1)
              (case side10 => exact Kd.R_tight rfl HO439.out)
              (case side11 => exact fun k_ e_ => (HO439.out.1 k_ e_.symm).1)
              rintro e w77 ⟨v441, v445, v449, rfl, ho0, ho1, ho2, hi, hb, hkp⟩
              refine ⟨_, rfl, ?_⟩
              have n0_ := Goto.m0 (Kd.R_mono (ok' := fun k_ => some k_ ≠ (u365007 : Value).ownBlock ∧ some k_ ≠ (v441 : Value).ownBlock ∧ some k_ ≠ (v445 : Value).ownBlock ∧ some k_ ≠ (v449 : Value).ownBlock) (Kd.R_keptB ((Kd.R_types HO_365006.out BK353.out (by decide))) hkp (fun k_ hk_ hs_ => Or.elim hs_ (fun hs_ => Or.elim hs_ (fun e_ => (hk_.1.2.1) e_) (fun e_ => (hk_.1.2.2) e_)) (fun e_ => (hk_.2) e_))) (fun k_ hk_ => ⟨hk_.1.1.1, fun e_ => Or.elim (ho0.1 k_ e_.symm).1 (fun hs_ => hk_.2.1 (.inl hs_)) (fun hn_ => Nat.not_le.2 hk_.2.2 hn_), fun e_ => Or.elim (ho1.1 k_ e_.symm).1 (fun hs_ => hk_.2.1 (.inl hs_)) (fun hn_ => Nat.not_le.2 hk_.2.2 hn_), fun e_ => Or.elim (ho2.1 k_ e_.symm).1 (fun hs_ => hk_.2.1 (.inl hs_)) (fun hn_ => Nat.not_le.2 hk_.2.2 hn_)⟩))
              have n1_ := Goto.m0 (Kd.R_mono (ok' := fun k_ => some k_ ≠ (u365006 : Value).ownBlock ∧ some k_ ≠ (v441 : Value).ownBlock ∧ some k_ ≠ (v445 : Value).ownBlock ∧ some k_ ≠ (v449 : Value).ownBlock) (Kd.R_keptB ((Kd.R_types HO_365007.out BK353.out (by decide))) hkp (fun k_ hk_ hs_ => Or.elim hs_ (fun hs_ => Or.elim hs_ (fun e_ => (hk_.1.2.1) e_) (fun e_ => (hk_.1.2.2) e_)) (fun e_ => (hk_.2) e_))) (fun k_ hk_ => ⟨hk_.1.1.1, fun e_ => Or.elim (ho0.1 k_ e_.symm).1 (fun hs_ => hk_.2.1 (.inl hs_)) (fun hn_ => Nat.not_le.2 hk_.2.2 hn_), fun e_ => Or.elim (ho1.1 k_ e_.symm).1 (fun hs_ => hk_.2.1 (.inl hs_)) (fun hn_ => Nat.not_le.2 hk_.2.2 hn_), fun e_ => Or.elim (ho2.1 k_ e_.symm).1 (fun hs_ => hk_.2.1 (.inl hs_)) (fun hn_ => Nat.not_le.2 hk_.2.2 hn_)⟩))
              have n2_ := Goto.m0 (blk_kept (Goto.bx BK349) hkp (fun hs_ => Or.elim hs_ (fun hs_ => Or.elim hs_ (fun e_ => (fun e_ => (Kd.R_ne HO435.out BK349.out (by decide)) e_) e_) (fun e_ => (fun e_ => (Kd.R_ne HO439.out BK349.out (by decide)) e_) e_)) (fun e_ => NB349_353.out e_)))
              have n3_ := Goto.m0 (hi)
              have n4_ := Goto.m0 (blk_kept (Goto.bx BK364) hkp (fun hs_ => Or.elim hs_ (fun hs_ => Or.elim hs_ (fun e_ => (fun e_ => (Kd.R_ne HO435.out BK364.out (by decide)) e_) e_) (fun e_ => (fun e_ => (Kd.R_ne HO439.out BK364.out (by decide)) e_) e_)) (fun e_ => NB364_353.out e_)))
              have n5_ := Goto.m0 (blk_kept (Goto.bx BK376) hkp (fun hs_ => Or.elim hs_ (fun hs_ => Or.elim hs_ (fun e_ => (fun e_ => (Kd.R_ne HO435.out BK376.out (by decide)) e_) e_) (fun e_ => (fun e_ => (Kd.R_ne HO439.out BK376.out (by decide)) e_) e_)) (fun e_ => NB376_353.out e_)))
              have n6_ := Goto.m0 (Kd.R_mono (ok' := fun k_ => some k_ ≠ (v445 : Value).ownBlock ∧ some k_ ≠ (v449 : Value).ownBlock ∧ some k_ ≠ (u365006 : Value).ownBlock ∧ some k_ ≠ (u365007 : Value).ownBlock) ho0 (fun k_ hk_ => ⟨hk_.2.1, hk_.2.2, Or.elim hk_.1 (fun hs_ => Or.elim hs_ (fun hs_ => fun e_ => ((((Kd.R_types HO_365006.out BK353.out (by decide))).1 k_ e_.symm).1.2.1) hs_) (fun hs_ => fun e_ => ((((Kd.R_types HO_365006.out BK353.out (by decide))).1 k_ e_.symm).1.2.2) hs_)) (fun hn_ => (Kd.fresh' (Kd.R_lt (Goto.rk HO_365006)) k_ hn_)), Or.elim hk_.1 (fun hs_ => Or.elim hs_ (fun hs_ => fun e_ => ((((Kd.R_types HO_365007.out BK353.out (by decide))).1 k_ e_.symm).1.2.1) hs_) (fun hs_ => fun e_ => ((((Kd.R_types HO_365007.out BK353.out (by decide))).1 k_ e_.symm).1.2.2) hs_)) (fun hn_ => (Kd.fresh' (Kd.R_lt (Goto.rk HO_365007)) k_ hn_))⟩))
              have n7_ := Goto.m0 (Kd.R_mono (ok' := fun k_ => some k_ ≠ (v441 : Value).ownBlock ∧ some k_ ≠ (v449 : Value).ownBlock ∧ some k_ ≠ (u365006 : Value).ownBlock ∧ some k_ ≠ (u365007 : Value).ownBlock) ho1 (fun k_ hk_ => ⟨hk_.2.1, hk_.2.2, Or.elim hk_.1 (fun hs_ => Or.elim hs_ (fun hs_ => fun e_ => ((((Kd.R_types HO_365006.out BK353.out (by decide))).1 k_ e_.symm).1.2.1) hs_) (fun hs_ => fun e_ => ((((Kd.R_types HO_365006.out BK353.out (by decide))).1 k_ e_.symm).1.2.2) hs_)) (fun hn_ => (Kd.fresh' (Kd.R_lt (Goto.rk HO_365006)) k_ hn_)), Or.elim hk_.1 (fun hs_ => Or.elim hs_ (fun hs_ => fun e_ => ((((Kd.R_types HO_365007.out BK353.out (by decide))).1 k_ e_.symm).1.2.1) hs_) (fun hs_ => fun e_ => ((((Kd.R_types HO_365007.out BK353.out (by decide))).1 k_ e_.symm).1.2.2) hs_)) (fun hn_ => (Kd.fresh' (Kd.R_lt (Goto.rk HO_365007)) k_ hn_))⟩))
              have n8_ := Goto.m0 (Kd.R_mono (ok' := fun k_ => some k_ ≠ (v441 : Value).ownBlock ∧ some k_ ≠ (v445 : Value).ownBlock ∧ some k_ ≠ (u365006 : Value).ownBlock ∧ some k_ ≠ (u365007 : Value).ownBlock) ho2 (fun k_ hk_ => ⟨hk_.2.1, hk_.2.2, Or.elim hk_.1 (fun hs_ => Or.elim hs_ (fun hs_ => fun e_ => ((((Kd.R_types HO_365006.out BK353.out (by decide))).1 k_ e_.symm).1.2.1) hs_) (fun hs_ => fun e_ => ((((Kd.R_types HO_365006.out BK353.out (by decide))).1 k_ e_.symm).1.2.2) hs_)) (fun hn_ => (Kd.fresh' (Kd.R_lt (Goto.rk HO_365006)) k_ hn_)), Or.elim hk_.1 (fun hs_ => Or.elim hs_ (fun hs_ => fun e_ => ((((Kd.R_types HO_365007.out BK353.out (by decide))).1 k_ e_.symm).1.2.1) hs_) (fun hs_ => fun e_ => ((((Kd.R_types HO_365007.out BK353.out (by decide))).1 k_ e_.symm).1.2.2) hs_)) (fun hn_ => (Kd.fresh' (Kd.R_lt (Goto.rk HO_365007)) k_ hn_))⟩))
              have n9_ := Goto.m0 (hb)
              clear HO_365006; clear HO_365007; clear BK349; clear BK353; clear BK364; clear BK376; clear HB; clear HO435; clear HO439; have HO_365006 := n0_; have HO_365007 := n1_; have BK349 := n2_; have BK353 := n3_; have BK364 := n4_; have BK376 := n5_; have HO442 := n6_; have HO446 := n7_; have HO450 := n8_; have HB := n9_; clear n0_ n1_ n2_ n3_ n4_ n5_ n6_ n7_ n8_ n9_
              (try clear hb)
              (try clear hkp)
              (try clear ho0)
              (try clear ho1)
              (try clear ho2)
              obtain ⟨Ao78, co78, eo78⟩ := Kd.R_slice HO442.out
              (first | subst eo78 | (injection eo78 with f1_ f2_ f3_; have f4_ := f1_.symm; have f5_ := f3_.symm; clear f1_ f2_ f3_; subst f4_; subst f5_))
              obtain ⟨Ao79, co79, eo79⟩ := Kd.R_slice HO_365006.out
              (first | subst eo79 | (injection eo79 with f1_ f2_ f3_; have f4_ := f1_.symm; have f5_ := f3_.symm; clear f1_ f2_ f3_; subst f4_; subst f5_))
              refine hK.out _ _ ⟨(blk_cell BK364.out 0).trans rfl, (blk_cell BK364.out 1).trans rfl, (blk_cell BK364.out 2).trans rfl, (blk_cell BK364.out 3).trans rfl, (blk_cell BK364.out 4).trans rfl, (blk_cell BK364.out 5).trans rfl, (blk_cell BK364.out 6).trans rfl, (blk_cell BK364.out 7).trans rfl⟩ (fun hHeld => ?_)
              clear hK K
              refine norm_ (a' := ?_) ?_ ?_
              rotate_left
              ·
               show Act.put _ (some 87) _ = _
               exact Goto.ap
              refine one_ (i := 19) (N := some 92) (Goto.bs 22 1048575) rfl rfl (one_of HT_.out (by kernel_rfl)) (by decide) (fun K hK => ?_)
              refine goes_ Tryd.func28 (by kernel_rfl) rfl #[.slice Ao78 t440.length co78, .slice Ao79 x365006_29.length co79] (by rfl) rfl rfl (by (try simp only [List.map_toArray, List.map_cons, List.map_nil]); first | done | rfl | (simp only [List.length_drop, List.length_take]; rfl)) ?_
              with_reducible refine (tontineref1_SameInts.calls kj29 _ _ t440 _ _ x365006_29 t451 _ ?side1 ?side2 ?side3 ?side4 A74.out).mono ?_
              (case side1 => repeat (first | exact (Kd.R_reads' HO442.out).2.2 | (with_reducible refine Kd.C_alloc ?_ _) | (with_reducible refine Kd.C_drewN ?_ _) | (with_reducible refine Kd.C_drew ?_)))
              (case side2 => exact (Kd.R_reads' HO442.out).2.1)
              (case side3 => repeat (first | exact (Kd.R_reads' HO_365006.out).2.2 | (with_reducible refine Kd.C_alloc ?_ _) | (with_reducible refine Kd.C_drewN ?_ _) | (with_reducible refine Kd.C_drew ?_)))
              (case side4 => exact (Kd.R_reads' HO_365006.out).2.1)
              rintro e w' ⟨rfl, ⟨nd, rfl⟩⟩
              refine ⟨_, rfl, ?_⟩
              refine hK.out _ _ ⟨(blk_cell BK364.out 0).trans rfl, (blk_cell BK364.out 1).trans rfl, (blk_cell BK364.out 2).trans rfl, (blk_cell BK364.out 3).trans rfl, (blk_cell BK364.out 4).trans rfl, (blk_cell BK364.out 5).trans rfl, (blk_cell BK364.out 6).trans rfl, (blk_cell BK364.out 7).trans rfl⟩ (fun hHeld => ?_)
              clear hK K
              refine norm_ (a' := ?_) ?_ ?_
              rotate_left
              ·
               show Act.put _ (some 92) _ = _
               exact Goto.ap
              refine Goto.pu 20 93 22 2097151 ?_
              refine Goto.pu 21 94 22 4194303 ?_
              refine done_ (done_of HT_.out (by kernel_rfl)) ?_
              try go_wp2
              go_meet
              case rel => exact ⟨_, (!t451), (t443), (t444), (t447), (t448), (v445), (v449), (by first | rfl | (simp; done) | (simp [*]; done)), H', ⟨by have := HJ4.out; have := HK2.out; have := HJ29.out; first | omega | exact Nat.le_refl _⟩, ⟨by (with_reducible repeat (first | apply Kd.R_alloc | apply Kd.R_drewN | apply Kd.R_drew)); exact Kd.R_mono HO446.out (fun _ hk => ⟨hk.2.1, ⟨hk.2.2.1, hk.2.2.2⟩⟩)⟩, ⟨by (with_reducible repeat (first | apply Kd.R_alloc | apply Kd.R_drewN | apply Kd.R_drew)); exact Kd.R_mono HO450.out (fun _ hk => ⟨hk.2.1, ⟨hk.2.2.1, hk.2.2.2⟩⟩)⟩, ⟨by (with_reducible repeat (first | apply Kd.R_alloc | apply Kd.R_drewN | apply Kd.R_drew)); exact Kd.R_mono HO_365006.out (fun _ hk => ⟨hk.2.2.1, ⟨hk.2.2.2, hk.1⟩⟩)⟩, ⟨by (with_reducible repeat (first | apply Kd.R_alloc | apply Kd.R_drewN | apply Kd.R_drew)); exact Kd.R_mono HO_365007.out (fun _ hk => ⟨hk.2.2.1, ⟨hk.2.2.2, hk.1⟩⟩)⟩, ⟨Goto.bx BK349⟩, ⟨Goto.bx BK353⟩, ⟨Goto.bx BK364⟩, ⟨Goto.bx BK376⟩, ⟨Goto.hx HB⟩⟩
             ·
              rw [if_neg c72] at H
              have c72b0 : (t431 == x365004_29) = false := beq_eq_false_iff_ne.mpr c72
              have c72b1 : (t431 != x365004_29) = true := bne_iff_ne.mpr c72
              have H' := Goto.m0 H
              clear H
              try go_wp2
              replace HO_354005 := Goto.m0 (Kd.R_drew HO_354005.out); replace HO_354007 := Goto.m0 (Kd.R_drew HO_354007.out); replace HO_365006 := Goto.m0 (Kd.R_drew HO_365006.out); replace HO_365007 := Goto.m0 (Kd.R_drew HO_365007.out); replace BK349 := Goto.m0 (blk_drew BK349.out); replace BK353 := Goto.m0 (blk_drew BK353.out); replace BK364 := Goto.m0 (blk_drew BK364.out); replace BK376 := Goto.m0 (blk_drew BK376.out); replace HB := Goto.m0 (below_drew1 HB.out)
              refine start_ (n := 22) (S := fun w' => w'.cell? ⟨gb364, 0, none⟩ = some (.int .i64 t365) ∧ w'.cell? ⟨gb364, 1, none⟩ = some (.int .i64 t366) ∧ w'.cell? ⟨gb364, 2, none⟩ = some (.slice A0_2 l0_2.length c0_2) ∧ w'.cell? ⟨gb364, 3, none⟩ = some (.slice A0_3 l0_3.length c0_3) ∧ w'.cell? ⟨gb364, 4, none⟩ = some (.int .i64 x365004_29) ∧ w'.cell? ⟨gb364, 5, none⟩ = some (.int .i64 x365005_29) ∧ w'.cell? ⟨gb364, 6, none⟩ = some (u365006) ∧ w'.cell? ⟨gb364, 7, none⟩ = some (u365007)) (ds := []) (.replicate 22 false) (by kernel_rfl) rfl rfl ⟨(blk_cell BK364.out 0).trans rfl, (blk_cell BK364.out 1).trans rfl, (blk_cell BK364.out 2).trans rfl, (blk_cell BK364.out 3).trans rfl, (blk_cell BK364.out 4).trans rfl, (blk_cell BK364.out 5).trans rfl, (blk_cell BK364.out 6).trans rfl, (blk_cell BK364.out 7).trans rfl⟩ (fun hHeld => ?_); refine with_tabW tontinelaw15_LatchPlays.tab17 tontinelaw15_LatchPlays.bits17 (fun HT_ HW_ => ?_)
              generalize wc.drew = w80 at HO_354005 HO_354007 HO_365006 HO_365007 BK349 BK353 BK364 BK376 HB hHeld ⊢
              refine Goto.pu 0 73 22 1 ?_
              refine Goto.pu 1 74 22 3 ?_
              refine Goto.pu 2 75 22 7 ?_
              refine Goto.pu 3 76 22 15 ?_
              refine Goto.pu 4 77 22 31 ?_
              refine Goto.pu 6 79 22 95 ?_
              refine Goto.pu 7 80 22 223 ?_
              refine Goto.pu 8 81 22 479 ?_
              refine take_ (i := 9) (N := some 82) (v := ?_) (a' := ?_) (Goto.bs 22 991) rfl rfl (take_ofW HT_.out HW_.out (by kernel_rfl)) (fun _ _ _ h => h) (Or.inl ⟨by rfl, ?_⟩) hHeld ?_ ?_
              rotate_left
              ·
               rintro w' ⟨s0, s1, s2, s3, s4, s5, s6, s7⟩
               go_simp
               with_reducible rfl
              rotate_left
              ·
               exact Goto.ap
              refine one_ (i := 5) (N := some 78) (Goto.bs 22 1023) rfl rfl (one_of HT_.out (by kernel_rfl)) (by decide) (fun K hK => ?_)
              refine goes_ Tryd.func27 (by kernel_rfl) rfl #[.pointer (some ⟨gb353, 0, none⟩)] (by rfl) rfl rfl (by (try simp only [List.map_toArray, List.map_cons, List.map_nil]); first | done | rfl | (simp only [List.length_drop, List.length_take]; rfl)) ?_
              with_reducible refine (latch_Latch_Plan.calls gb353 t354 t355 A0_2 c0_2 l0_2 A0_3 c0_3 l0_3 x354004_29 (fun k_ => some k_ = (u354005 : Value).ownBlock) u354005 x354005_29 x354006_29 (fun k_ => some k_ = (u354007 : Value).ownBlock) u354007 x354007_29 t431 t432 t433 t436 t437 w _ ?side1 ?side2 ?side3 ?side4 ?side5 ?side6 ?side7 ?side8 ?side9 ?side10 ?side11 A71.out).mono ?_
              (case side1 => exact by (with_reducible repeat first | refine blk_drewN ?_ _ | refine blk_drew ?_ | refine blk_alloc ?_ _); exact BK353.out)
              (case side2 => exact GE353.out)
              (case side3 => repeat (first | (with_reducible first | exact HB.out | apply below_alloc | apply pw_below_drewN | apply below_drew1 | refine below_set ?_ GE349.out | refine below_set ?_ GE353.out | refine below_set ?_ GE364.out | refine below_set ?_ GE376.out) | exact HB.out))
              (case side4 => exact Kd.C_kept_came (Kd.heap_slice 3 (Kd.heap_int .i64)) HR0_2.out (Goto.hx HB) (fun k_ hs_ => Or.elim hs_ (fun hs_ => Or.elim hs_ (fun e_ => (fun e_ => Kd.R_base HO_354005.out k_ e_.symm) e_) (fun e_ => (fun e_ => Kd.R_base HO_354007.out k_ e_.symm) e_)) (fun e_ => (by rw [e_]; exact GE353.out))))
              (case side5 => exact HC0_2.out)
              (case side6 => exact Kd.C_kept_came k60_heap HR0_3.out (Goto.hx HB) (fun k_ hs_ => Or.elim hs_ (fun hs_ => Or.elim hs_ (fun e_ => (fun e_ => Kd.R_base HO_354005.out k_ e_.symm) e_) (fun e_ => (fun e_ => Kd.R_base HO_354007.out k_ e_.symm) e_)) (fun e_ => (by rw [e_]; exact GE353.out))))
              (case side7 => exact HC0_3.out)
              (case side8 => exact Kd.R_tight rfl HO_354005.out)
              (case side9 => exact fun k_ e_ => (HO_354005.out.1 k_ e_.symm).1)
              (case side10 => exact Kd.R_tight rfl HO_354007.out)
              (case side11 => exact fun k_ e_ => (HO_354007.out.1 k_ e_.symm).1)
              rintro e w81 ⟨v434, v438, rfl, ho0, ho1, hi, hb, hkp⟩
              refine ⟨_, rfl, ?_⟩
              have n0_ := Goto.m0 (Kd.R_mono (ok' := fun k_ => some k_ ≠ (u365007 : Value).ownBlock ∧ some k_ ≠ (v434 : Value).ownBlock ∧ some k_ ≠ (v438 : Value).ownBlock) (Kd.R_keptB ((Kd.R_types HO_365006.out BK353.out (by decide))) hkp (fun k_ hk_ hs_ => Or.elim hs_ (fun hs_ => Or.elim hs_ (fun e_ => (hk_.1.1) e_) (fun e_ => (hk_.1.2.1) e_)) (fun e_ => (hk_.2) e_))) (fun k_ hk_ => ⟨hk_.1.1.2.2, fun e_ => Or.elim (ho0.1 k_ e_.symm).1 (fun hs_ => hk_.2.1 (.inl hs_)) (fun hn_ => Nat.not_le.2 hk_.2.2 hn_), fun e_ => Or.elim (ho1.1 k_ e_.symm).1 (fun hs_ => hk_.2.1 (.inl hs_)) (fun hn_ => Nat.not_le.2 hk_.2.2 hn_)⟩))
              have n1_ := Goto.m0 (Kd.R_mono (ok' := fun k_ => some k_ ≠ (u365006 : Value).ownBlock ∧ some k_ ≠ (v434 : Value).ownBlock ∧ some k_ ≠ (v438 : Value).ownBlock) (Kd.R_keptB ((Kd.R_types HO_365007.out BK353.out (by decide))) hkp (fun k_ hk_ hs_ => Or.elim hs_ (fun hs_ => Or.elim hs_ (fun e_ => (hk_.1.1) e_) (fun e_ => (hk_.1.2.1) e_)) (fun e_ => (hk_.2) e_))) (fun k_ hk_ => ⟨hk_.1.1.2.2, fun e_ => Or.elim (ho0.1 k_ e_.symm).1 (fun hs_ => hk_.2.1 (.inl hs_)) (fun hn_ => Nat.not_le.2 hk_.2.2 hn_), fun e_ => Or.elim (ho1.1 k_ e_.symm).1 (fun hs_ => hk_.2.1 (.inl hs_)) (fun hn_ => Nat.not_le.2 hk_.2.2 hn_)⟩))
              have n2_ := Goto.m0 (blk_kept (Goto.bx BK349) hkp (fun hs_ => Or.elim hs_ (fun hs_ => Or.elim hs_ (fun e_ => (fun e_ => (Kd.R_ne HO_354005.out BK349.out (by decide)) e_) e_) (fun e_ => (fun e_ => (Kd.R_ne HO_354007.out BK349.out (by decide)) e_) e_)) (fun e_ => NB349_353.out e_)))
              have n3_ := Goto.m0 (hi)
              have n4_ := Goto.m0 (blk_kept (Goto.bx BK364) hkp (fun hs_ => Or.elim hs_ (fun hs_ => Or.elim hs_ (fun e_ => (fun e_ => (Kd.R_ne HO_354005.out BK364.out (by decide)) e_) e_) (fun e_ => (fun e_ => (Kd.R_ne HO_354007.out BK364.out (by decide)) e_) e_)) (fun e_ => NB364_353.out e_)))
              have n5_ := Goto.m0 (blk_kept (Goto.bx BK376) hkp (fun hs_ => Or.elim hs_ (fun hs_ => Or.elim hs_ (fun e_ => (fun e_ => (Kd.R_ne HO_354005.out BK376.out (by decide)) e_) e_) (fun e_ => (fun e_ => (Kd.R_ne HO_354007.out BK376.out (by decide)) e_) e_)) (fun e_ => NB376_353.out e_)))
              have n6_ := Goto.m0 (Kd.R_mono (ok' := fun k_ => some k_ ≠ (v438 : Value).ownBlock ∧ some k_ ≠ (u365006 : Value).ownBlock ∧ some k_ ≠ (u365007 : Value).ownBlock) ho0 (fun k_ hk_ => ⟨hk_.2, Or.elim hk_.1 (fun hs_ => Or.elim hs_ (fun hs_ => fun e_ => ((((Kd.R_types HO_365006.out BK353.out (by decide))).1 k_ e_.symm).1.1) hs_) (fun hs_ => fun e_ => ((((Kd.R_types HO_365006.out BK353.out (by decide))).1 k_ e_.symm).1.2.1) hs_)) (fun hn_ => (Kd.fresh' (Kd.R_lt (Goto.rk HO_365006)) k_ hn_)), Or.elim hk_.1 (fun hs_ => Or.elim hs_ (fun hs_ => fun e_ => ((((Kd.R_types HO_365007.out BK353.out (by decide))).1 k_ e_.symm).1.1) hs_) (fun hs_ => fun e_ => ((((Kd.R_types HO_365007.out BK353.out (by decide))).1 k_ e_.symm).1.2.1) hs_)) (fun hn_ => (Kd.fresh' (Kd.R_lt (Goto.rk HO_365007)) k_ hn_))⟩))
              have n7_ := Goto.m0 (Kd.R_mono (ok' := fun k_ => some k_ ≠ (v434 : Value).ownBlock ∧ some k_ ≠ (u365006 : Value).ownBlock ∧ some k_ ≠ (u365007 : Value).ownBlock) ho1 (fun k_ hk_ => ⟨hk_.2, Or.elim hk_.1 (fun hs_ => Or.elim hs_ (fun hs_ => fun e_ => ((((Kd.R_types HO_365006.out BK353.out (by decide))).1 k_ e_.symm).1.1) hs_) (fun hs_ => fun e_ => ((((Kd.R_types HO_365006.out BK353.out (by decide))).1 k_ e_.symm).1.2.1) hs_)) (fun hn_ => (Kd.fresh' (Kd.R_lt (Goto.rk HO_365006)) k_ hn_)), Or.elim hk_.1 (fun hs_ => Or.elim hs_ (fun hs_ => fun e_ => ((((Kd.R_types HO_365007.out BK353.out (by decide))).1 k_ e_.symm).1.1) hs_) (fun hs_ => fun e_ => ((((Kd.R_types HO_365007.out BK353.out (by decide))).1 k_ e_.symm).1.2.1) hs_)) (fun hn_ => (Kd.fresh' (Kd.R_lt (Goto.rk HO_365007)) k_ hn_))⟩))
              have n8_ := Goto.m0 (hb)
              clear HO_365006; clear HO_365007; clear BK349; clear BK353; clear BK364; clear BK376; clear HB; clear HO_354005; clear HO_354007; have HO_365006 := n0_; have HO_365007 := n1_; have BK349 := n2_; have BK353 := n3_; have BK364 := n4_; have BK376 := n5_; have HO435 := n6_; have HO439 := n7_; have HB := n8_; clear n0_ n1_ n2_ n3_ n4_ n5_ n6_ n7_ n8_
              (try clear hb)
              (try clear hkp)
              (try clear ho0)
              (try clear ho1)
              refine hK.out _ _ ⟨(blk_cell BK364.out 0).trans rfl, (blk_cell BK364.out 1).trans rfl, (blk_cell BK364.out 2).trans rfl, (blk_cell BK364.out 3).trans rfl, (blk_cell BK364.out 4).trans rfl, (blk_cell BK364.out 5).trans rfl, (blk_cell BK364.out 6).trans rfl, (blk_cell BK364.out 7).trans rfl⟩ (fun hHeld => ?_)
              clear hK K
              refine norm_ (a' := ?_) ?_ ?_
              rotate_left
              ·
               show Act.put _ (some 78) _ = _
               exact Goto.ap
              refine Goto.pu 10 83 22 2047 ?_
              refine Goto.pu 11 84 22 4095 ?_
              refine Goto.pu 12 85 22 8191 ?_
              refine pure_ (i := 13) (N := some 86) (v := undef) (a' := ?_) (Goto.bs 22 16383) rfl rfl (any_of HT_.out (by kernel_rfl)) (fun _ _ _ h => h) (Or.inr ⟨by rfl, rfl⟩) ?_ ?_
              rotate_left
              ·
               exact Goto.ap
              refine pure_ (i := 14) (N := some 87) (v := undef) (a' := ?_) (Goto.bs 22 32767) rfl rfl (any_of HT_.out (by kernel_rfl)) (fun _ _ _ h => h) (Or.inr ⟨by rfl, rfl⟩) ?_ ?_
              rotate_left
              ·
               exact Goto.ap
              refine pure_ (i := 15) (N := some 88) (v := undef) (a' := ?_) (Goto.bs 22 65535) rfl rfl (any_of HT_.out (by kernel_rfl)) (fun _ _ _ h => h) (Or.inr ⟨by rfl, rfl⟩) ?_ ?_
              rotate_left
              ·
               exact Goto.ap
              refine pure_ (i := 16) (N := some 89) (v := undef) (a' := ?_) (Goto.bs 22 131071) rfl rfl (any_of HT_.out (by kernel_rfl)) (fun _ _ _ h => h) (Or.inr ⟨by rfl, rfl⟩) ?_ ?_
              rotate_left
              ·
               exact Goto.ap
              refine pure_ (i := 17) (N := some 90) (v := undef) (a' := ?_) (Goto.bs 22 262143) rfl rfl (any_of HT_.out (by kernel_rfl)) (fun _ _ _ h => h) (Or.inr ⟨by rfl, rfl⟩) ?_ ?_
              rotate_left
              ·
               exact Goto.ap
              refine pure_ (i := 18) (N := some 91) (v := undef) (a' := ?_) (Goto.bs 22 524287) rfl rfl (any_of HT_.out (by kernel_rfl)) (fun _ _ _ h => h) (Or.inr ⟨by rfl, rfl⟩) ?_ ?_
              rotate_left
              ·
               exact Goto.ap
              refine pure_ (i := 19) (N := some 92) (v := undef) (a' := ?_) (Goto.bs 22 1048575) rfl rfl (any_of HT_.out (by kernel_rfl)) (fun _ _ _ h => h) (Or.inr ⟨by rfl, rfl⟩) ?_ ?_
              rotate_left
              ·
               exact Goto.ap
              refine pure_ (i := 20) (N := some 93) (v := undef) (a' := ?_) (Goto.bs 22 2097151) rfl rfl (any_of HT_.out (by kernel_rfl)) (fun _ _ _ h => h) (Or.inr ⟨by rfl, rfl⟩) ?_ ?_
              rotate_left
              ·
               exact Goto.ap
              refine Goto.pu 21 94 22 4194303 ?_
              refine done_ (done_of HT_.out (by kernel_rfl)) ?_
              try go_wp2
              go_meet
              case rel => exact ⟨_, (true), (t432), (t433), (t436), (t437), (v434), (v438), (by first | rfl | (simp; done) | (simp [*]; done)), H', ⟨by have := HJ4.out; have := HK2.out; have := HJ29.out; first | omega | exact Nat.le_refl _⟩, ⟨Goto.rk HO435⟩, ⟨Goto.rk HO439⟩, ⟨by (with_reducible repeat (first | apply Kd.R_alloc | apply Kd.R_drewN | apply Kd.R_drew)); exact Kd.R_mono HO_365006.out (fun _ hk => ⟨hk.2.1, ⟨hk.2.2, hk.1⟩⟩)⟩, ⟨by (with_reducible repeat (first | apply Kd.R_alloc | apply Kd.R_drewN | apply Kd.R_drew)); exact Kd.R_mono HO_365007.out (fun _ hk => ⟨hk.2.1, ⟨hk.2.2, hk.1⟩⟩)⟩, ⟨Goto.bx BK349⟩, ⟨Goto.bx BK353⟩, ⟨Goto.bx BK364⟩, ⟨Goto.bx BK376⟩, ⟨Goto.hx HB⟩⟩
            ·
             rw [if_neg c70] at H
             have c70b0 : (x9_29 == x10_29) = false := beq_eq_false_iff_ne.mpr c70
             have c70b1 : (x9_29 != x10_29) = true := bne_iff_ne.mpr c70
             (first | rw [c70b0] | (simp only [i64_w, i32_w]; rw [c70b0]) | skip)
             have H' := Goto.m0 H
             clear H
             try go_wp2
             replace HO_354005 := Goto.m0 (Kd.R_drew HO_354005.out); replace HO_354007 := Goto.m0 (Kd.R_drew HO_354007.out); replace HO_365006 := Goto.m0 (Kd.R_drew HO_365006.out); replace HO_365007 := Goto.m0 (Kd.R_drew HO_365007.out); replace BK349 := Goto.m0 (blk_drew BK349.out); replace BK353 := Goto.m0 (blk_drew BK353.out); replace BK364 := Goto.m0 (blk_drew BK364.out); replace BK376 := Goto.m0 (blk_drew BK376.out); replace HB := Goto.m0 (below_drew1 HB.out)
             refine start_ (n := 22) (S := fun w' => True) (ds := []) (.replicate 22 false) (by kernel_rfl) rfl rfl trivial (fun hHeld => ?_); refine with_tabW tontinelaw15_LatchPlays.tab17 tontinelaw15_LatchPlays.bits17 (fun HT_ HW_ => ?_)
             generalize wc.drew = w82 at HO_354005 HO_354007 HO_365006 HO_365007 BK349 BK353 BK364 BK376 HB hHeld ⊢
             refine Goto.pu 0 73 22 1 ?_
             refine Goto.pu 1 74 22 3 ?_
             refine Goto.pu 2 75 22 7 ?_
             refine Goto.pu 3 76 22 15 ?_
             refine pure_ (i := 4) (N := some 77) (v := undef) (a' := ?_) (Goto.bs 22 31) rfl rfl (any_of HT_.out (by kernel_rfl)) (fun _ _ _ h => h) (Or.inr ⟨by rfl, rfl⟩) ?_ ?_
             rotate_left
             ·
              exact Goto.ap
             refine pure_ (i := 5) (N := some 78) (v := undef) (a' := ?_) (Goto.bs 22 63) rfl rfl (any_of HT_.out (by kernel_rfl)) (fun _ _ _ h => h) (Or.inr ⟨by rfl, rfl⟩) ?_ ?_
             rotate_left
             ·
              exact Goto.ap
             refine pure_ (i := 6) (N := some 79) (v := undef) (a' := ?_) (Goto.bs 22 127) rfl rfl (any_of HT_.out (by kernel_rfl)) (fun _ _ _ h => h) (Or.inr ⟨by rfl, rfl⟩) ?_ ?_
             rotate_left
             ·
              exact Goto.ap
             refine pure_ (i := 7) (N := some 80) (v := undef) (a' := ?_) (Goto.bs 22 255) rfl rfl (any_of HT_.out (by kernel_rfl)) (fun _ _ _ h => h) (Or.inr ⟨by rfl, rfl⟩) ?_ ?_
             rotate_left
             ·
              exact Goto.ap
             refine pure_ (i := 8) (N := some 81) (v := undef) (a' := ?_) (Goto.bs 22 511) rfl rfl (any_of HT_.out (by kernel_rfl)) (fun _ _ _ h => h) (Or.inr ⟨by rfl, rfl⟩) ?_ ?_
             rotate_left
             ·
              exact Goto.ap
             refine pure_ (i := 9) (N := some 82) (v := undef) (a' := ?_) (Goto.bs 22 1023) rfl rfl (any_of HT_.out (by kernel_rfl)) (fun _ _ _ h => h) (Or.inr ⟨by rfl, rfl⟩) ?_ ?_
             rotate_left
             ·
              exact Goto.ap
             refine pure_ (i := 10) (N := some 83) (v := undef) (a' := ?_) (Goto.bs 22 2047) rfl rfl (any_of HT_.out (by kernel_rfl)) (fun _ _ _ h => h) (Or.inr ⟨by rfl, rfl⟩) ?_ ?_
             rotate_left
             ·
              exact Goto.ap
             refine Goto.pu 11 84 22 4095 ?_
             refine Goto.pu 12 85 22 8191 ?_
             refine pure_ (i := 13) (N := some 86) (v := undef) (a' := ?_) (Goto.bs 22 16383) rfl rfl (any_of HT_.out (by kernel_rfl)) (fun _ _ _ h => h) (Or.inr ⟨by rfl, rfl⟩) ?_ ?_
             rotate_left
             ·
              exact Goto.ap
             refine pure_ (i := 14) (N := some 87) (v := undef) (a' := ?_) (Goto.bs 22 32767) rfl rfl (any_of HT_.out (by kernel_rfl)) (fun _ _ _ h => h) (Or.inr ⟨by rfl, rfl⟩) ?_ ?_
             rotate_left
             ·
              exact Goto.ap
             refine pure_ (i := 15) (N := some 88) (v := undef) (a' := ?_) (Goto.bs 22 65535) rfl rfl (any_of HT_.out (by kernel_rfl)) (fun _ _ _ h => h) (Or.inr ⟨by rfl, rfl⟩) ?_ ?_
             rotate_left
             ·
              exact Goto.ap
             refine pure_ (i := 16) (N := some 89) (v := undef) (a' := ?_) (Goto.bs 22 131071) rfl rfl (any_of HT_.out (by kernel_rfl)) (fun _ _ _ h => h) (Or.inr ⟨by rfl, rfl⟩) ?_ ?_
             rotate_left
             ·
              exact Goto.ap
             refine pure_ (i := 17) (N := some 90) (v := undef) (a' := ?_) (Goto.bs 22 262143) rfl rfl (any_of HT_.out (by kernel_rfl)) (fun _ _ _ h => h) (Or.inr ⟨by rfl, rfl⟩) ?_ ?_
             rotate_left
             ·
              exact Goto.ap
             refine pure_ (i := 18) (N := some 91) (v := undef) (a' := ?_) (Goto.bs 22 524287) rfl rfl (any_of HT_.out (by kernel_rfl)) (fun _ _ _ h => h) (Or.inr ⟨by rfl, rfl⟩) ?_ ?_
             rotate_left
             ·
              exact Goto.ap
             refine pure_ (i := 19) (N := some 92) (v := undef) (a' := ?_) (Goto.bs 22 1048575) rfl rfl (any_of HT_.out (by kernel_rfl)) (fun _ _ _ h => h) (Or.inr ⟨by rfl, rfl⟩) ?_ ?_
             rotate_left
             ·
              exact Goto.ap
             refine pure_ (i := 20) (N := some 93) (v := undef) (a' := ?_) (Goto.bs 22 2097151) rfl rfl (any_of HT_.out (by kernel_rfl)) (fun _ _ _ h => h) (Or.inr ⟨by rfl, rfl⟩) ?_ ?_
             rotate_left
             ·
              exact Goto.ap
             refine Goto.pu 21 94 22 4194303 ?_
             refine done_ (done_of HT_.out (by kernel_rfl)) ?_
             try go_wp2
             go_meet
             case rel => exact ⟨_, (true), (x354004_29), (x354005_29), (x354006_29), (x354007_29), (u354005), (u354007), (by first | rfl | (simp; done) | (simp [*]; done)), H', ⟨by have := HJ4.out; have := HK2.out; have := HJ29.out; first | omega | exact Nat.le_refl _⟩, ⟨Goto.rk HO_354005⟩, ⟨Goto.rk HO_354007⟩, ⟨Goto.rk HO_365006⟩, ⟨Goto.rk HO_365007⟩, ⟨Goto.bx BK349⟩, ⟨Goto.bx BK353⟩, ⟨Goto.bx BK364⟩, ⟨Goto.bx BK376⟩, ⟨Goto.hx HB⟩⟩
           case rest =>
            clear HC69; try clear c2; try clear p2; try clear c7; try clear c27; try clear c28; try clear c29; try clear c70; try clear c70b0; try clear c70b1; try clear c72; try clear c72b0; try clear c72b1
            obtain ⟨kq, x94_68, x354004_68, x354005_68, x354006_68, x354007_68, u354005, u354007, rfl, HA, HJ68, HO_354005, HO_354007, HO_365006, HO_365007, BK349, BK353, BK364, BK376, HB⟩ := hcut
            cases kq with
            | zero => exact absurd HA.out (by simp [tontinelaw15_LatchPlays.j3])
            | succ kj68 =>
             have H := HA.out; clear HA
             simp only [tontinelaw15_LatchPlays.j3] at H
             by_cases c83 : x94_68 = true
             ·
              subst c83
              rw [if_pos rfl] at H
              exact absurd ((Option.some.inj H).trans HRT.out) (by decide)
             ·
              replace c83 := Bool.eq_false_iff.mpr c83
              subst c83
              rw [if_neg (show ¬ (false = true) by decide)] at H
              have H' := Goto.m0 H
              clear H
              go_wp2
              go_roundg kj68
              case measure => have := HJ4.out; have := HK2.out; have := HJ29.out; have := HJ68.out; omega
              case rel => exact ⟨(wrap64 (x7_2 + 1)), (x354004_68), (x354005_68), (x354006_68), (x354007_68), (x365004_29), (x365005_29), (x365006_29), (x365007_29), (u354005), (u354007), (u365006), (u365007), (by first | rfl | (simp; done) | (simp [*]; done)), H', ⟨by have := HJ4.out; have := HK2.out; have := HJ29.out; have := HJ68.out; omega⟩, ⟨Goto.rk HO_354005⟩, ⟨Goto.rk HO_354007⟩, ⟨Goto.rk HO_365006⟩, ⟨Goto.rk HO_365007⟩, ⟨Goto.bx BK349⟩, ⟨Goto.bx BK353⟩, ⟨Goto.bx BK364⟩, ⟨Goto.hx HB⟩⟩
        ·
         rw [if_neg c29] at H
         exact absurd H (by simp)
       ·
        rw [if_neg c28] at H
        have c28b0 : decide (x7_2 < (l1.length : Int)) = false := decide_eq_false c28
        clear c28
        obtain rfl := Option.some.inj H
        go_wp2
        go_ret
        exact ⟨Goto.er, by repeat (first | (with_reducible first | exact HB.out | apply below_alloc | apply pw_below_drewN | apply below_drew1 | refine below_set ?_ GE349.out | refine below_set ?_ GE353.out | refine below_set ?_ GE364.out) | exact HB.out)⟩
 ·
  replace c4 := Bool.eq_false_iff.mpr c4
  subst c4
  rw [if_neg (show ¬ (false = true) by decide)] at H
  exact absurd ((Option.some.inj H).trans HRT.out) (by decide)

end Go.Proofs.YtbhfkhcedjgpdaaDoor.P
