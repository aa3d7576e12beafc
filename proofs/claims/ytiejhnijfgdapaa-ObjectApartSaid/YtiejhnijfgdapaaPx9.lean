/- Printed by a program of this workplace (a turned copy of the kit's optional print), out of the translation; not trusted: Lean checks it. -/
import Derived.Test.YtiejhnijfgdapaaPx0
import Derived.Test.YtiejhnijfgdapaaPx2
import Derived.Test.YtiejhnijfgdapaaPx4
import Derived.Test.YtiejhnijfgdapaaPx5
import Derived.Test.YtiejhnijfgdapaaPx6
import Derived.Test.YtiejhnijfgdapaaPx7
import Derived.Test.YtiejhnijfgdapaaPx8
namespace Go.Proofs.Ytiejhnijfgdapaa.P
open Go.RowKit Go.Proofs.YtiejhnijfgdapaaW.PrintWords Go.Proofs.YtiejhnijfgdapaaW.PrintLast Go.Proofs.YtiejhnijfgdapaaW.PrintMore
attribute [local go_sem] max2_int min2_int max_two min_two max_three min_three max_four min_four   -- for this text's walks alone
set_option linter.unusedVariables false
set_option linter.unusedSimpArgs false

/-! ### tontinelaw9_ObjectApart: function 7 -/
mutual
def tontinelaw9_ObjectApart.l0 : Nat → List (S59) → Int → Int → Int → List Int → Int → List Int → Int → List Int → Int → List Int → Option (Bool)
  | 0, _, _, _, _, _, _, _, _, _, _, _ => none
  | k + 1, x0, x5, x7, x410000, x410001, x410002, x410003, x410004, x410005, x410006, x410007 => if x7 < (x0.length : Int) then (if 0 ≤ x7 then (tontinelaw9_ObjectApart.l1 k x0 x5 x7 0 x410000 x410001 x410002 x410003 x410004 x410005 x410006 x410007 ((rd_T59 x0 x7).f0) ((rd_T59 x0 x7).f1) ((rd_T59 x0 x7).f2) 0 0 0 0 0 0 0 0) else (none)) else (some true)
def tontinelaw9_ObjectApart.l1 : Nat → List (S59) → Int → Int → Int → Int → List Int → Int → List Int → Int → List Int → Int → List Int → Int → Int → Int → Int → Int → Int → Int → Int → Int → Int → Int → Option (Bool)
  | 0, _, _, _, _, _, _, _, _, _, _, _, _, _, _, _, _, _, _, _, _, _, _, _ => none
  | k + 1, x0, x5, x7, x11, x410000, x410001, x410002, x410003, x410004, x410005, x410006, x410007, x428000, x428001, x428002, x429000, x429001, x429002, x429003, x430000, x430001, x430002, x430003 => if x11 < 4 then ((object_Objects_Count.f x410000 x410001 x410002 x410003 x410004 x410005 x410006 x410007 x11).bind fun bt430 => ((object_Objects_Row.f bt430.2.1 bt430.2.2.1 bt430.2.2.2.1 bt430.2.2.2.2.1 bt430.2.2.2.2.2.1 bt430.2.2.2.2.2.2.1 bt430.2.2.2.2.2.2.2.1 bt430.2.2.2.2.2.2.2.2 x11).bind fun bt447 => (if 0 ≤ x11 then (if x11 = 0 then (tontinelaw9_ObjectApart.l1 k x0 x5 x7 (wrap64 (x11 + 1)) bt447.2.1 bt447.2.2.1 bt447.2.2.2.1 bt447.2.2.2.2.1 bt447.2.2.2.2.2.1 bt447.2.2.2.2.2.2.1 bt447.2.2.2.2.2.2.2.1 bt447.2.2.2.2.2.2.2.2 x428000 x428001 x428002 bt430.1 x429001 x429002 x429003 (bt447.1.length : Int) x430001 x430002 x430003) else (if x11 = 1 then (tontinelaw9_ObjectApart.l1 k x0 x5 x7 (wrap64 (x11 + 1)) bt447.2.1 bt447.2.2.1 bt447.2.2.2.1 bt447.2.2.2.2.1 bt447.2.2.2.2.2.1 bt447.2.2.2.2.2.2.1 bt447.2.2.2.2.2.2.2.1 bt447.2.2.2.2.2.2.2.2 x428000 x428001 x428002 x429000 bt430.1 x429002 x429003 x430000 (bt447.1.length : Int) x430002 x430003) else (if x11 = 2 then (tontinelaw9_ObjectApart.l1 k x0 x5 x7 (wrap64 (x11 + 1)) bt447.2.1 bt447.2.2.1 bt447.2.2.2.1 bt447.2.2.2.2.1 bt447.2.2.2.2.2.1 bt447.2.2.2.2.2.2.1 bt447.2.2.2.2.2.2.2.1 bt447.2.2.2.2.2.2.2.2 x428000 x428001 x428002 x429000 x429001 bt430.1 x429003 x430000 x430001 (bt447.1.length : Int) x430003) else (if x11 = 3 then (tontinelaw9_ObjectApart.l1 k x0 x5 x7 (wrap64 (x11 + 1)) bt447.2.1 bt447.2.2.1 bt447.2.2.2.1 bt447.2.2.2.2.1 bt447.2.2.2.2.2.1 bt447.2.2.2.2.2.2.1 bt447.2.2.2.2.2.2.2.1 bt447.2.2.2.2.2.2.2.2 x428000 x428001 x428002 x429000 x429001 x429002 bt430.1 x430000 x430001 x430002 (bt447.1.length : Int)) else (none))))) else (none)))) else (if (Int.tmod x428000 2) = 0 then ((object_Objects_Wait.f k x410000 x410001 x410002 x410003 x410004 x410005 x410006 x410007 x7 x5).bind fun bt466 => (tontinelaw9_ObjectApart.j2 k x0 x5 x7 bt466.2.2.1 bt466.2.2.2.1 bt466.2.2.2.2.1 bt466.2.2.2.2.2.1 bt466.2.2.2.2.2.2.1 bt466.2.2.2.2.2.2.2.1 bt466.2.2.2.2.2.2.2.2.1 bt466.2.2.2.2.2.2.2.2.2 x429000 x429001 x429002 x429003 x430000 x430001 x430002 x430003)) else ((object_Objects_Signal.f x410000 x410001 x410002 x410003 x410004 x410005 x410006 x410007 x5).bind fun bt484 => (tontinelaw9_ObjectApart.j2 k x0 x5 x7 bt484.2.2.2.1 bt484.2.2.2.2.1 bt484.2.2.2.2.2.1 bt484.2.2.2.2.2.2.1 bt484.2.2.2.2.2.2.2.1 bt484.2.2.2.2.2.2.2.2.1 bt484.2.2.2.2.2.2.2.2.2.1 bt484.2.2.2.2.2.2.2.2.2.2 x429000 x429001 x429002 x429003 x430000 x430001 x430002 x430003)))
def tontinelaw9_ObjectApart.j2 : Nat → List (S59) → Int → Int → Int → List Int → Int → List Int → Int → List Int → Int → List Int → Int → Int → Int → Int → Int → Int → Int → Int → Option (Bool)
  | 0, _, _, _, _, _, _, _, _, _, _, _, _, _, _, _, _, _, _, _ => none
  | k + 1, x0, x5, x7, x410000, x410001, x410002, x410003, x410004, x410005, x410006, x410007, x429000, x429001, x429002, x429003, x430000, x430001, x430002, x430003 => tontinelaw9_ObjectApart.l2 k x0 x5 x7 0 x410000 x410001 x410002 x410003 x410004 x410005 x410006 x410007 x429000 x429001 x429002 x429003 x430000 x430001 x430002 x430003
def tontinelaw9_ObjectApart.l2 : Nat → List (S59) → Int → Int → Int → Int → List Int → Int → List Int → Int → List Int → Int → List Int → Int → Int → Int → Int → Int → Int → Int → Int → Option (Bool)
  | 0, _, _, _, _, _, _, _, _, _, _, _, _, _, _, _, _, _, _, _, _ => none
  | k + 1, x0, x5, x7, x12, x410000, x410001, x410002, x410003, x410004, x410005, x410006, x410007, x429000, x429001, x429002, x429003, x430000, x430001, x430002, x430003 => if x12 < 4 then (if x12 = x5 then (tontinelaw9_ObjectApart.l2 k x0 x5 x7 (wrap64 (x12 + 1)) x410000 x410001 x410002 x410003 x410004 x410005 x410006 x410007 x429000 x429001 x429002 x429003 x430000 x430001 x430002 x430003) else ((object_Objects_Count.f x410000 x410001 x410002 x410003 x410004 x410005 x410006 x410007 x12).bind fun bt503 => (if 0 ≤ x12 then (if x12 = 0 then (if bt503.1 = x429000 then ((object_Objects_Row.f bt503.2.1 bt503.2.2.1 bt503.2.2.2.1 bt503.2.2.2.2.1 bt503.2.2.2.2.2.1 bt503.2.2.2.2.2.2.1 bt503.2.2.2.2.2.2.2.1 bt503.2.2.2.2.2.2.2.2 x12).bind fun bt520 => (if (bt520.1.length : Int) = x430000 then (tontinelaw9_ObjectApart.l2 k x0 x5 x7 (wrap64 (x12 + 1)) bt520.2.1 bt520.2.2.1 bt520.2.2.2.1 bt520.2.2.2.2.1 bt520.2.2.2.2.2.1 bt520.2.2.2.2.2.2.1 bt520.2.2.2.2.2.2.2.1 bt520.2.2.2.2.2.2.2.2 x429000 x429001 x429002 x429003 x430000 x430001 x430002 x430003) else (some false))) else (some false)) else (if x12 = 1 then (if bt503.1 = x429001 then ((object_Objects_Row.f bt503.2.1 bt503.2.2.1 bt503.2.2.2.1 bt503.2.2.2.2.1 bt503.2.2.2.2.2.1 bt503.2.2.2.2.2.2.1 bt503.2.2.2.2.2.2.2.1 bt503.2.2.2.2.2.2.2.2 x12).bind fun bt539 => (if (bt539.1.length : Int) = x430001 then (tontinelaw9_ObjectApart.l2 k x0 x5 x7 (wrap64 (x12 + 1)) bt539.2.1 bt539.2.2.1 bt539.2.2.2.1 bt539.2.2.2.2.1 bt539.2.2.2.2.2.1 bt539.2.2.2.2.2.2.1 bt539.2.2.2.2.2.2.2.1 bt539.2.2.2.2.2.2.2.2 x429000 x429001 x429002 x429003 x430000 x430001 x430002 x430003) else (some false))) else (some false)) else (if x12 = 2 then (if bt503.1 = x429002 then ((object_Objects_Row.f bt503.2.1 bt503.2.2.1 bt503.2.2.2.1 bt503.2.2.2.2.1 bt503.2.2.2.2.2.1 bt503.2.2.2.2.2.2.1 bt503.2.2.2.2.2.2.2.1 bt503.2.2.2.2.2.2.2.2 x12).bind fun bt558 => (if (bt558.1.length : Int) = x430002 then (tontinelaw9_ObjectApart.l2 k x0 x5 x7 (wrap64 (x12 + 1)) bt558.2.1 bt558.2.2.1 bt558.2.2.2.1 bt558.2.2.2.2.1 bt558.2.2.2.2.2.1 bt558.2.2.2.2.2.2.1 bt558.2.2.2.2.2.2.2.1 bt558.2.2.2.2.2.2.2.2 x429000 x429001 x429002 x429003 x430000 x430001 x430002 x430003) else (some false))) else (some false)) else (if x12 = 3 then (if bt503.1 = x429003 then ((object_Objects_Row.f bt503.2.1 bt503.2.2.1 bt503.2.2.2.1 bt503.2.2.2.2.1 bt503.2.2.2.2.2.1 bt503.2.2.2.2.2.2.1 bt503.2.2.2.2.2.2.2.1 bt503.2.2.2.2.2.2.2.2 x12).bind fun bt577 => (if (bt577.1.length : Int) = x430003 then (tontinelaw9_ObjectApart.l2 k x0 x5 x7 (wrap64 (x12 + 1)) bt577.2.1 bt577.2.2.1 bt577.2.2.2.1 bt577.2.2.2.2.1 bt577.2.2.2.2.2.1 bt577.2.2.2.2.2.2.1 bt577.2.2.2.2.2.2.2.1 bt577.2.2.2.2.2.2.2.2 x429000 x429001 x429002 x429003 x430000 x430001 x430002 x430003) else (some false))) else (some false)) else (none))))) else (none)))) else ((object_Objects_Count.f x410000 x410001 x410002 x410003 x410004 x410005 x410006 x410007 x5).bind fun bt596 => (if bt596.1 > 0 then ((object_Objects_Row.f bt596.2.1 bt596.2.2.1 bt596.2.2.2.1 bt596.2.2.2.2.1 bt596.2.2.2.2.2.1 bt596.2.2.2.2.2.2.1 bt596.2.2.2.2.2.2.2.1 bt596.2.2.2.2.2.2.2.2 x5).bind fun bt613 => (if (bt613.1.length : Int) > 0 then (some false) else (tontinelaw9_ObjectApart.l0 k x0 x5 (wrap64 (x7 + 1)) bt613.2.1 bt613.2.2.1 bt613.2.2.2.1 bt613.2.2.2.2.1 bt613.2.2.2.2.2.1 bt613.2.2.2.2.2.2.1 bt613.2.2.2.2.2.2.2.1 bt613.2.2.2.2.2.2.2.2))) else (tontinelaw9_ObjectApart.l0 k x0 x5 (wrap64 (x7 + 1)) bt596.2.1 bt596.2.2.1 bt596.2.2.2.1 bt596.2.2.2.2.1 bt596.2.2.2.2.2.1 bt596.2.2.2.2.2.2.1 bt596.2.2.2.2.2.2.2.1 bt596.2.2.2.2.2.2.2.2)))
end
def tontinelaw9_ObjectApart.f (k : Nat) (l0 : List (S59)) (a1 : Int) : Option (Bool) := (tontinelaw9_known.f k).bind fun t408 => (if t408 = true then (if (l0.length : Int) > 60 then (some true) else ((object_New.f).bind fun bt410 => (tontinelaw9_ObjectApart.l0 k l0 (wrap64 (Int.tmod a1 4)) 0 bt410.1 bt410.2.1 bt410.2.2.1 bt410.2.2.2.1 bt410.2.2.2.2.1 bt410.2.2.2.2.2.1 bt410.2.2.2.2.2.2.1 bt410.2.2.2.2.2.2.2))) else (some false))
theorem tontinelaw9_ObjectApart.mono_l : ∀ k, (∀ y0 y1 y2 y3 y4 y5 y6 y7 y8 y9 y10, LeO (tontinelaw9_ObjectApart.l0 k y0 y1 y2 y3 y4 y5 y6 y7 y8 y9 y10) (tontinelaw9_ObjectApart.l0 (k + 1) y0 y1 y2 y3 y4 y5 y6 y7 y8 y9 y10)) ∧ (∀ y0 y1 y2 y3 y4 y5 y6 y7 y8 y9 y10 y11 y12 y13 y14 y15 y16 y17 y18 y19 y20 y21 y22, LeO (tontinelaw9_ObjectApart.l1 k y0 y1 y2 y3 y4 y5 y6 y7 y8 y9 y10 y11 y12 y13 y14 y15 y16 y17 y18 y19 y20 y21 y22) (tontinelaw9_ObjectApart.l1 (k + 1) y0 y1 y2 y3 y4 y5 y6 y7 y8 y9 y10 y11 y12 y13 y14 y15 y16 y17 y18 y19 y20 y21 y22)) ∧ (∀ y0 y1 y2 y3 y4 y5 y6 y7 y8 y9 y10 y11 y12 y13 y14 y15 y16 y17 y18, LeO (tontinelaw9_ObjectApart.j2 k y0 y1 y2 y3 y4 y5 y6 y7 y8 y9 y10 y11 y12 y13 y14 y15 y16 y17 y18) (tontinelaw9_ObjectApart.j2 (k + 1) y0 y1 y2 y3 y4 y5 y6 y7 y8 y9 y10 y11 y12 y13 y14 y15 y16 y17 y18)) ∧ (∀ y0 y1 y2 y3 y4 y5 y6 y7 y8 y9 y10 y11 y12 y13 y14 y15 y16 y17 y18 y19, LeO (tontinelaw9_ObjectApart.l2 k y0 y1 y2 y3 y4 y5 y6 y7 y8 y9 y10 y11 y12 y13 y14 y15 y16 y17 y18 y19) (tontinelaw9_ObjectApart.l2 (k + 1) y0 y1 y2 y3 y4 y5 y6 y7 y8 y9 y10 y11 y12 y13 y14 y15 y16 y17 y18 y19))
  | 0 => ⟨fun _ _ _ _ _ _ _ _ _ _ _ r h => by simp [tontinelaw9_ObjectApart.l0] at h, fun _ _ _ _ _ _ _ _ _ _ _ _ _ _ _ _ _ _ _ _ _ _ _ r h => by simp [tontinelaw9_ObjectApart.l1] at h, fun _ _ _ _ _ _ _ _ _ _ _ _ _ _ _ _ _ _ _ r h => by simp [tontinelaw9_ObjectApart.j2] at h, fun _ _ _ _ _ _ _ _ _ _ _ _ _ _ _ _ _ _ _ _ r h => by simp [tontinelaw9_ObjectApart.l2] at h⟩
  | k + 1 => by
    obtain ⟨ih0, ih1, ih2, ih3⟩ := tontinelaw9_ObjectApart.mono_l k
    refine ⟨?_, ?_, ?_, ?_⟩
    · intro y0 y1 y2 y3 y4 y5 y6 y7 y8 y9 y10
      unfold tontinelaw9_ObjectApart.l0
      repeat' first
      | (with_reducible exact ih0 _ _ _ _ _ _ _ _ _ _ _)
      | (with_reducible exact ih1 _ _ _ _ _ _ _ _ _ _ _ _ _ _ _ _ _ _ _ _ _ _ _)
      | (with_reducible exact ih2 _ _ _ _ _ _ _ _ _ _ _ _ _ _ _ _ _ _ _)
      | (with_reducible exact ih3 _ _ _ _ _ _ _ _ _ _ _ _ _ _ _ _ _ _ _ _)
      | (with_reducible exact object_Objects_Wait.mono _ _ _ _ _ _ _ _ _ _ _)
      | (with_reducible exact tontinelaw9_known.mono _)
      | (with_reducible exact LeO.refl _)
      | (with_reducible exact LeO.none _)
      | (with_reducible refine LeO.ite ?_ ?_)
      | (with_reducible refine LeO.bind ?_ (fun _ => ?_))
      | exact ih0 _ _ _ _ _ _ _ _ _ _ _
      | exact ih1 _ _ _ _ _ _ _ _ _ _ _ _ _ _ _ _ _ _ _ _ _ _ _
      | exact ih2 _ _ _ _ _ _ _ _ _ _ _ _ _ _ _ _ _ _ _
      | exact ih3 _ _ _ _ _ _ _ _ _ _ _ _ _ _ _ _ _ _ _ _
      | exact object_Objects_Wait.mono _ _ _ _ _ _ _ _ _ _ _
      | exact tontinelaw9_known.mono _
      | exact LeO.none _
      | refine LeO.ite ?_ ?_
      | refine LeO.bind ?_ (fun _ => ?_)
    · intro y0 y1 y2 y3 y4 y5 y6 y7 y8 y9 y10 y11 y12 y13 y14 y15 y16 y17 y18 y19 y20 y21 y22
      unfold tontinelaw9_ObjectApart.l1
      repeat' first
      | (with_reducible exact ih0 _ _ _ _ _ _ _ _ _ _ _)
      | (with_reducible exact ih1 _ _ _ _ _ _ _ _ _ _ _ _ _ _ _ _ _ _ _ _ _ _ _)
      | (with_reducible exact ih2 _ _ _ _ _ _ _ _ _ _ _ _ _ _ _ _ _ _ _)
      | (with_reducible exact ih3 _ _ _ _ _ _ _ _ _ _ _ _ _ _ _ _ _ _ _ _)
      | (with_reducible exact object_Objects_Wait.mono _ _ _ _ _ _ _ _ _ _ _)
      | (with_reducible exact tontinelaw9_known.mono _)
      | (with_reducible exact LeO.refl _)
      | (with_reducible exact LeO.none _)
      | (with_reducible refine LeO.ite ?_ ?_)
      | (with_reducible refine LeO.bind ?_ (fun _ => ?_))
      | exact ih0 _ _ _ _ _ _ _ _ _ _ _
      | exact ih1 _ _ _ _ _ _ _ _ _ _ _ _ _ _ _ _ _ _ _ _ _ _ _
      | exact ih2 _ _ _ _ _ _ _ _ _ _ _ _ _ _ _ _ _ _ _
      | exact ih3 _ _ _ _ _ _ _ _ _ _ _ _ _ _ _ _ _ _ _ _
      | exact object_Objects_Wait.mono _ _ _ _ _ _ _ _ _ _ _
      | exact tontinelaw9_known.mono _
      | exact LeO.none _
      | refine LeO.ite ?_ ?_
      | refine LeO.bind ?_ (fun _ => ?_)
    · intro y0 y1 y2 y3 y4 y5 y6 y7 y8 y9 y10 y11 y12 y13 y14 y15 y16 y17 y18
      unfold tontinelaw9_ObjectApart.j2
      repeat' first
      | (with_reducible exact ih0 _ _ _ _ _ _ _ _ _ _ _)
      | (with_reducible exact ih1 _ _ _ _ _ _ _ _ _ _ _ _ _ _ _ _ _ _ _ _ _ _ _)
      | (with_reducible exact ih2 _ _ _ _ _ _ _ _ _ _ _ _ _ _ _ _ _ _ _)
      | (with_reducible exact ih3 _ _ _ _ _ _ _ _ _ _ _ _ _ _ _ _ _ _ _ _)
      | (with_reducible exact object_Objects_Wait.mono _ _ _ _ _ _ _ _ _ _ _)
      | (with_reducible exact tontinelaw9_known.mono _)
      | (with_reducible exact LeO.refl _)
      | (with_reducible exact LeO.none _)
      | (with_reducible refine LeO.ite ?_ ?_)
      | (with_reducible refine LeO.bind ?_ (fun _ => ?_))
      | exact ih0 _ _ _ _ _ _ _ _ _ _ _
      | exact ih1 _ _ _ _ _ _ _ _ _ _ _ _ _ _ _ _ _ _ _ _ _ _ _
      | exact ih2 _ _ _ _ _ _ _ _ _ _ _ _ _ _ _ _ _ _ _
      | exact ih3 _ _ _ _ _ _ _ _ _ _ _ _ _ _ _ _ _ _ _ _
      | exact object_Objects_Wait.mono _ _ _ _ _ _ _ _ _ _ _
      | exact tontinelaw9_known.mono _
      | exact LeO.none _
      | refine LeO.ite ?_ ?_
      | refine LeO.bind ?_ (fun _ => ?_)
    · intro y0 y1 y2 y3 y4 y5 y6 y7 y8 y9 y10 y11 y12 y13 y14 y15 y16 y17 y18 y19
      unfold tontinelaw9_ObjectApart.l2
      repeat' first
      | (with_reducible exact ih0 _ _ _ _ _ _ _ _ _ _ _)
      | (with_reducible exact ih1 _ _ _ _ _ _ _ _ _ _ _ _ _ _ _ _ _ _ _ _ _ _ _)
      | (with_reducible exact ih2 _ _ _ _ _ _ _ _ _ _ _ _ _ _ _ _ _ _ _)
      | (with_reducible exact ih3 _ _ _ _ _ _ _ _ _ _ _ _ _ _ _ _ _ _ _ _)
      | (with_reducible exact object_Objects_Wait.mono _ _ _ _ _ _ _ _ _ _ _)
      | (with_reducible exact tontinelaw9_known.mono _)
      | (with_reducible exact LeO.refl _)
      | (with_reducible exact LeO.none _)
      | (with_reducible refine LeO.ite ?_ ?_)
      | (with_reducible refine LeO.bind ?_ (fun _ => ?_))
      | exact ih0 _ _ _ _ _ _ _ _ _ _ _
      | exact ih1 _ _ _ _ _ _ _ _ _ _ _ _ _ _ _ _ _ _ _ _ _ _ _
      | exact ih2 _ _ _ _ _ _ _ _ _ _ _ _ _ _ _ _ _ _ _
      | exact ih3 _ _ _ _ _ _ _ _ _ _ _ _ _ _ _ _ _ _ _ _
      | exact object_Objects_Wait.mono _ _ _ _ _ _ _ _ _ _ _
      | exact tontinelaw9_known.mono _
      | exact LeO.none _
      | refine LeO.ite ?_ ?_
      | refine LeO.bind ?_ (fun _ => ?_)
theorem tontinelaw9_ObjectApart.mono : ∀ a0 a1 k, LeO (tontinelaw9_ObjectApart.f k a0 a1) (tontinelaw9_ObjectApart.f (k + 1) a0 a1) := by
 intro a0 a1 k
 obtain ⟨ih0, ih1, ih2, ih3⟩ := tontinelaw9_ObjectApart.mono_l k
 unfold tontinelaw9_ObjectApart.f
 repeat' first
   | (with_reducible exact ih0 _ _ _ _ _ _ _ _ _ _ _)
   | (with_reducible exact ih1 _ _ _ _ _ _ _ _ _ _ _ _ _ _ _ _ _ _ _ _ _ _ _)
   | (with_reducible exact ih2 _ _ _ _ _ _ _ _ _ _ _ _ _ _ _ _ _ _ _)
   | (with_reducible exact ih3 _ _ _ _ _ _ _ _ _ _ _ _ _ _ _ _ _ _ _ _)
   | (with_reducible exact object_Objects_Wait.mono _ _ _ _ _ _ _ _ _ _ _)
   | (with_reducible exact tontinelaw9_known.mono _)
   | (with_reducible exact LeO.refl _)
   | (with_reducible exact LeO.none _)
   | (with_reducible refine LeO.ite ?_ ?_)
   | (with_reducible refine LeO.bind ?_ (fun _ => ?_))
   | exact ih0 _ _ _ _ _ _ _ _ _ _ _
   | exact ih1 _ _ _ _ _ _ _ _ _ _ _ _ _ _ _ _ _ _ _ _ _ _ _
   | exact ih2 _ _ _ _ _ _ _ _ _ _ _ _ _ _ _ _ _ _ _
   | exact ih3 _ _ _ _ _ _ _ _ _ _ _ _ _ _ _ _ _ _ _ _
   | exact object_Objects_Wait.mono _ _ _ _ _ _ _ _ _ _ _
   | exact tontinelaw9_known.mono _
   | exact LeO.none _
   | refine LeO.ite ?_ ?_
   | refine LeO.bind ?_ (fun _ => ?_)
def tontinelaw9_ObjectApart.T16 : Bool × List (List Nat × List Nat) := (true, [([], []), ([], []), ([], []), ([], []), ([2, 3], [2, 3]), ([], []), ([], []), ([5, 6, 4], [5, 6]), ([7], [7]), ([0, 0, 2, 3, 4], [0]), ([9, 4, 7, 0, 2, 3, 4], [4, 9]), ([1, 0, 1, 2, 3, 4, 5, 6, 7, 8, 9, 10], [1]), ([11, 8, 10, 0, 1, 2, 3, 4, 5, 6, 7, 8, 9, 10], [8, 11])])
def tontinelaw9_ObjectApart.B16 : List Nat := [0, 0, 0, 0, 12, 0, 0, 124, 252, 29, 765, 2047, 4095]
theorem tontinelaw9_ObjectApart.tab16 : rtab .any (opsOf Try.f7 16) = tontinelaw9_ObjectApart.T16 := by kernel_rfl
theorem tontinelaw9_ObjectApart.bits16 : waitsOk tontinelaw9_ObjectApart.T16.2 tontinelaw9_ObjectApart.B16 = true := by kernel_rfl
def tontinelaw9_ObjectApart.T23 : Bool × List (List Nat × List Nat) := (true, [([], []), ([], []), ([0, 1], [0, 1]), ([2], [2]), ([3], [3]), ([3], [3]), ([4, 5, 3, 3], [3, 4, 5]), ([3], [3]), ([7, 3], [3, 7]), ([8, 3], [3, 8]), ([6, 9, 3], [3, 6, 9]), ([10, 6, 3], [3, 10]), ([11], [11]), ([11], [11]), ([12, 13, 11, 11], [11, 12, 13]), ([14, 11], [11, 14]), ([11], [11]), ([16, 11], [11, 16]), ([17, 11], [11, 17]), ([15, 18, 11], [11, 15, 18]), ([11, 19, 3], [3, 11, 19]), ([3, 20], [3, 20])])
def tontinelaw9_ObjectApart.B23 : List Nat := [0, 0, 3, 7, 15, 15, 63, 15, 143, 399, 1023, 2047, 4095, 4095, 16383, 32767, 4095, 69631, 200703, 524287, 1048575, 2097151]
theorem tontinelaw9_ObjectApart.tab23 : rtab .any (opsOf Try.f7 23) = tontinelaw9_ObjectApart.T23 := by kernel_rfl
theorem tontinelaw9_ObjectApart.bits23 : waitsOk tontinelaw9_ObjectApart.T23.2 tontinelaw9_ObjectApart.B23 = true := by kernel_rfl
set_option maxHeartbeats 8000000 in
set_option maxRecDepth 100000 in
theorem tontinelaw9_ObjectApart.calls (k : Nat) (A0 : Option Addr) (c0 : Nat) (l0 : List (S59)) (a1 : Int) (r : Bool) (hrt : r = true) (w : World) (hr0 : Kd.C k59 w A0 l0.length l0) (hc0 : l0.length ≤ c0) (h : tontinelaw9_ObjectApart.f k l0 a1 = some r) :
    Calls Try.prog 7 #[.slice A0 l0.length c0, .int .u8 a1] w fun e w' => e = .returned (.bool r) ∧ Below w.heap.size w w' := by
 have hu59 := Try.underlying59; have hu60 := Try.underlying60
 have HR0 := Goto.m0 hr0
 have HC0 := Goto.m0 hc0
 clear hr0 hc0
 have HB := Goto.m0 (Below.refl w.heap.size w)
 have HRT := Goto.m0 hrt
 clear hrt
 have H : ((tontinelaw9_known.f k).bind fun t408 => (if t408 = true then (if (l0.length : Int) > 60 then (some true) else ((object_New.f).bind fun bt410 => (tontinelaw9_ObjectApart.l0 k l0 (wrap64 (Int.tmod a1 4)) 0 bt410.1 bt410.2.1 bt410.2.2.1 bt410.2.2.2.1 bt410.2.2.2.2.1 bt410.2.2.2.2.2.1 bt410.2.2.2.2.2.2.1 bt410.2.2.2.2.2.2.2))) else (some false))) = some r := h
 clear h
 replace H := Option.bind_eq_some_iff.mp H
 obtain ⟨t408, A30, H⟩ := H
 have A3 := Goto.m0 A30
 clear A30
 by_cases c4 : t408 = true
 ·
  subst c4
  rw [if_pos rfl] at H
  by_cases c5 : (l0.length : Int) > 60
  ·
   rw [if_pos c5] at H
   have c5b0 : decide (60 < (l0.length : Int)) = true := decide_eq_true c5
   have c5b1 : decide (60 < l0.length) = true := decide_eq_true (by omega)
   clear c5
   obtain rfl := Option.some.inj H
   go_enter Try.func7, Try.ntmps7
   go_wp2_with (first | ((with_reducible refine gate_callee (f := 20) rfl ?_); refine goesL_ (some 13) rfl rfl Try.func20 (by kernel_rfl) rfl #[] rfl (by (try simp only [List.map_toArray, List.map_cons, List.map_nil]); first | done | rfl | (simp only [List.length_drop, List.length_take]; rfl)) ?_; (with_reducible refine (tontinelaw9_known.calls k  true (by first | rfl | assumption | (simp only [Bool.not_eq_true, Bool.not_eq_false] at *; assumption)) _ A3.out).mono ?_); rintro e w6 ⟨rfl, hb⟩; refine ⟨_, rfl, ?_⟩; replace HB := Goto.hs HB hb; (try clear hb); (try clear hb2); (try clear hk); (try clear hi)))
   go_ret
   exact ⟨Goto.er, by repeat (first | (with_reducible first | exact HB.out | apply below_alloc | apply pw_below_drewN | apply below_drew1) | exact HB.out)⟩
  ·
   rw [if_neg c5] at H
   have c5b0 : decide (60 < (l0.length : Int)) = false := decide_eq_false c5
   have c5b1 : decide (60 < l0.length) = false := decide_eq_false (by omega)
   clear c5
   replace H := Option.bind_eq_some_iff.mp H
   obtain ⟨⟨t410, t411, t414, t415, t418, t419, t422, t423⟩, A70, H⟩ := H
   replace H : (tontinelaw9_ObjectApart.l0 k l0 (wrap64 (Int.tmod a1 4)) 0 t410 t411 t414 t415 t418 t419 t422 t423) = some r := H
   have A7 := Goto.m0 A70
   clear A70
   have H' := Goto.m0 H
   clear H
   go_enter Try.func7, Try.ntmps7
   go_wp2_with (first | ((with_reducible refine gate_callee (f := 20) rfl ?_); refine goesL_ (some 13) rfl rfl Try.func20 (by kernel_rfl) rfl #[] rfl (by (try simp only [List.map_toArray, List.map_cons, List.map_nil]); first | done | rfl | (simp only [List.length_drop, List.length_take]; rfl)) ?_; (with_reducible refine (tontinelaw9_known.calls k  true (by first | rfl | assumption | (simp only [Bool.not_eq_true, Bool.not_eq_false] at *; assumption)) _ A3.out).mono ?_); rintro e w8 ⟨rfl, hb⟩; refine ⟨_, rfl, ?_⟩; replace HB := Goto.hs HB hb; (try clear hb); (try clear hb2); (try clear hk); (try clear hi)) | ((with_reducible refine gate_callee (f := 21) rfl ?_); refine goesL_ (some 21) rfl rfl Try.func21 (by kernel_rfl) rfl #[] rfl (by (try simp only [List.map_toArray, List.map_cons, List.map_nil]); first | done | rfl | (simp only [List.length_drop, List.length_take]; rfl)) ?_; (with_reducible refine (object_New.calls  t410 t411 t414 t415 t418 t419 t422 t423 _ A7.out).mono ?_); rintro e w9 ⟨v412, v416, v420, v424, gb409, rfl, ho0, ho1, ho2, ho3, hi, hge, hb⟩; refine ⟨_, rfl, ?_⟩; have HO413 := Goto.m0 (Kd.R_lower ho0 (below_size (Goto.hx HB))); have HO417 := Goto.m0 (Kd.R_lower ho1 (below_size (Goto.hx HB))); have HO421 := Goto.m0 (Kd.R_lower ho2 (below_size (Goto.hx HB))); have HO425 := Goto.m0 (Kd.R_lower ho3 (below_size (Goto.hx HB))); have BK409 := Goto.m0 (hi); have GW409 := Goto.m0 ((Nat.le_trans (below_size (Goto.hx HB)) hge : w.heap.size ≤ gb409)); have GE409 := Goto.m0 ((Nat.le_trans (below_size (Goto.hx HB)) hge : w.heap.size ≤ gb409)); replace HB := Goto.hs HB hb; (try clear hb); (try clear hi); (try clear hge); (try clear ho0); (try clear ho1); (try clear ho2); (try clear ho3)))
   go_loopg [7] k (fun kq v7 w' => ∃ (x7_1 : Int) (x410000_1 : Int) (x410001_1 : List Int) (x410002_1 : Int) (x410003_1 : List Int) (x410004_1 : Int) (x410005_1 : List Int) (x410006_1 : Int) (x410007_1 : List Int) (u410001 : Value) (u410003 : Value) (u410005 : Value) (u410007 : Value), v7 = .int .i64 x7_1 ∧ Aside0 (tontinelaw9_ObjectApart.l0 kq l0 (wrap64 (Int.tmod a1 4)) x7_1 x410000_1 x410001_1 x410002_1 x410003_1 x410004_1 x410005_1 x410006_1 x410007_1 = some r) ∧ Aside0 (kq ≤ k) ∧ Aside0 (Kd.R (Kd.int .i64) 3 w' w.heap.size (fun k_ => some k_ ≠ (u410003 : Value).ownBlock ∧ some k_ ≠ (u410005 : Value).ownBlock ∧ some k_ ≠ (u410007 : Value).ownBlock) u410001 x410001_1) ∧ Aside0 (Kd.R (Kd.int .i64) 3 w' w.heap.size (fun k_ => some k_ ≠ (u410001 : Value).ownBlock ∧ some k_ ≠ (u410005 : Value).ownBlock ∧ some k_ ≠ (u410007 : Value).ownBlock) u410003 x410003_1) ∧ Aside0 (Kd.R (Kd.int .i64) 3 w' w.heap.size (fun k_ => some k_ ≠ (u410001 : Value).ownBlock ∧ some k_ ≠ (u410003 : Value).ownBlock ∧ some k_ ≠ (u410007 : Value).ownBlock) u410005 x410005_1) ∧ Aside0 (Kd.R (Kd.int .i64) 3 w' w.heap.size (fun k_ => some k_ ≠ (u410001 : Value).ownBlock ∧ some k_ ≠ (u410003 : Value).ownBlock ∧ some k_ ≠ (u410005 : Value).ownBlock) u410007 x410007_1) ∧ Aside0 (w'.heap[gb409]? = some (.cells #[.int .i64 x410000_1, u410001, .int .i64 x410002_1, u410003, .int .i64 x410004_1, u410005, .int .i64 x410006_1, u410007] 79 (0, 0))) ∧ Aside0 (Below w.heap.size w w'))
   case atStart => exact ⟨(0), (t410), (t411), (t414), (t415), (t418), (t419), (t422), (t423), (v412), (v416), (v420), (v424), (by first | rfl | (simp; done) | (simp [*]; done) | (congr 1; unfold wrap64; omega)), H', ⟨Nat.le_refl _⟩, ⟨Goto.rk HO413⟩, ⟨Goto.rk HO417⟩, ⟨Goto.rk HO421⟩, ⟨Goto.rk HO425⟩, ⟨Goto.bx BK409⟩, ⟨Goto.hx HB⟩⟩
   case round =>
    clear H'
    try clear c2; try clear p2; try clear c4; try clear c5; try clear c5b0; try clear c5b1; try clear p6; try clear c7
    obtain ⟨x7_1, x410000_1, x410001_1, x410002_1, x410003_1, x410004_1, x410005_1, x410006_1, x410007_1, u410001, u410003, u410005, u410007, rfl, HA, HK1, HO_410001, HO_410003, HO_410005, HO_410007, BK409, HB⟩ := hrel
    cases gk with
    | zero => exact absurd HA.out (by simp [tontinelaw9_ObjectApart.l0])
    | succ k1 =>
     have H := HA.out; clear HA
     simp only [tontinelaw9_ObjectApart.l0] at H
     by_cases c10 : x7_1 < (l0.length : Int)
     ·
      rw [if_pos c10] at H
      have c10b0 : decide (x7_1 < (l0.length : Int)) = true := decide_eq_true c10
      clear c10
      by_cases c11 : 0 ≤ x7_1
      ·
       rw [if_pos c11] at H
       have c11b0 : decide (0 ≤ x7_1) = true := decide_eq_true c11
       clear c11
       have H' := Goto.m0 H
       clear H
       have p426 : 0 ≤ (x7_1 : Int) := Goto.od
       have q426 : x7_1 < (l0.length : Int) := Goto.od
       obtain ⟨ad426, e426, hx426_0, hx426_1, hx426_2⟩ := at_T59 HR0.out x7_1 p426 q426
       cases e426
       replace hx426_0 := Goto.kc HB.out hx426_0
       replace hx426_1 := Goto.kc HB.out hx426_1
       replace hx426_2 := Goto.kc HB.out hx426_2
       replace p426 := eq_true p426; replace q426 := eq_true q426
       go_wp2_with (first | ((with_reducible refine gate_dst (N := 8) rfl ?_); (try (refine gate_guard (by rfl) ?_; dsimp only)); refine box_event ?hg (N := 8) ?hd (cs := #[.int .i64 0, .int .i64 0, .int .i64 0]) (t := 59) ?hr ?_; (case hd => rfl); (case hg => rfl); (case hr => first | (go_simp; done) | (go_simp; rfl)); intro gb427 hg w12 hbox hb; have BK427 := Goto.m0 (hbox); have GW427 := Goto.gs HB hg; have GE427 := Goto.gs HB hg; have NB409_427 := Goto.nl BK409 hg; have NB427_409 := Goto.nr BK409 hg; replace HO_410001 := Goto.m0 (Kd.R_below (Goto.rk HO_410001) hb); replace HO_410003 := Goto.m0 (Kd.R_below (Goto.rk HO_410003) hb); replace HO_410005 := Goto.m0 (Kd.R_below (Goto.rk HO_410005) hb); replace HO_410007 := Goto.m0 (Kd.R_below (Goto.rk HO_410007) hb); replace BK409 := Goto.bb BK409 hb; replace HB := Goto.hs HB hb; clear hb hbox hg; have hnb13 := NB427_409.out; have hnc13 := NB409_427.out; have hcz14_0 := Goto.bc0 BK427; have hcz14_1 := Goto.bc1 BK427; have hcz14_2 := Goto.bc2 BK427; have hfz14_0 := Goto.bf BK427 0; have hfz14_1 := Goto.bf BK427 1; have hfz14_2 := Goto.bf BK427 2) | ((with_reducible refine gate_dst (N := 9) rfl ?_); (try (refine gate_guard (by rfl) ?_; dsimp only)); refine box_event ?hg (N := 9) ?hd (cs := #[.int .i64 0, .int .i64 0, .int .i64 0, .int .i64 0]) (t := 60) ?hr ?_; (case hd => rfl); (case hg => rfl); (case hr => first | (go_simp; done) | (go_simp; rfl)); intro gb428 hg w15 hbox hb; have BK428 := Goto.m0 (hbox); have GW428 := Goto.gs HB hg; have GE428 := Goto.gs HB hg; have NB409_428 := Goto.nl BK409 hg; have NB428_409 := Goto.nr BK409 hg; have NB427_428 := Goto.pl (.cells #[.int .i64 ((rd_T59 l0 x7_1).f0), .int .i64 ((rd_T59 l0 x7_1).f1), .int .i64 ((rd_T59 l0 x7_1).f2)] 59 (0, 0)) BK427 hg; have NB428_427 := Goto.pr (.cells #[.int .i64 ((rd_T59 l0 x7_1).f0), .int .i64 ((rd_T59 l0 x7_1).f1), .int .i64 ((rd_T59 l0 x7_1).f2)] 59 (0, 0)) BK427 hg; replace HO_410001 := Goto.m0 (Kd.R_below (by (with_reducible repeat (first | apply Kd.R_alloc | apply Kd.R_drewN | apply Kd.R_drew)); exact (Kd.R_mono (Kd.R_far (p := ⟨gb427, 2, none⟩) (Kd.R_far (p := ⟨gb427, 1, none⟩) (Kd.R_far (p := ⟨gb427, 0, none⟩) (Kd.R_types HO_410001.out BK427.out (by decide)) (fun _ hk => hk.2) (.int .i64 ((rd_T59 l0 x7_1).f0))) (fun _ hk => hk.2) (.int .i64 ((rd_T59 l0 x7_1).f1))) (fun _ hk => hk.2) (.int .i64 ((rd_T59 l0 x7_1).f2))) (fun _ h_ => h_.1))) hb); replace HO_410003 := Goto.m0 (Kd.R_below (by (with_reducible repeat (first | apply Kd.R_alloc | apply Kd.R_drewN | apply Kd.R_drew)); exact (Kd.R_mono (Kd.R_far (p := ⟨gb427, 2, none⟩) (Kd.R_far (p := ⟨gb427, 1, none⟩) (Kd.R_far (p := ⟨gb427, 0, none⟩) (Kd.R_types HO_410003.out BK427.out (by decide)) (fun _ hk => hk.2) (.int .i64 ((rd_T59 l0 x7_1).f0))) (fun _ hk => hk.2) (.int .i64 ((rd_T59 l0 x7_1).f1))) (fun _ hk => hk.2) (.int .i64 ((rd_T59 l0 x7_1).f2))) (fun _ h_ => h_.1))) hb); replace HO_410005 := Goto.m0 (Kd.R_below (by (with_reducible repeat (first | apply Kd.R_alloc | apply Kd.R_drewN | apply Kd.R_drew)); exact (Kd.R_mono (Kd.R_far (p := ⟨gb427, 2, none⟩) (Kd.R_far (p := ⟨gb427, 1, none⟩) (Kd.R_far (p := ⟨gb427, 0, none⟩) (Kd.R_types HO_410005.out BK427.out (by decide)) (fun _ hk => hk.2) (.int .i64 ((rd_T59 l0 x7_1).f0))) (fun _ hk => hk.2) (.int .i64 ((rd_T59 l0 x7_1).f1))) (fun _ hk => hk.2) (.int .i64 ((rd_T59 l0 x7_1).f2))) (fun _ h_ => h_.1))) hb); replace HO_410007 := Goto.m0 (Kd.R_below (by (with_reducible repeat (first | apply Kd.R_alloc | apply Kd.R_drewN | apply Kd.R_drew)); exact (Kd.R_mono (Kd.R_far (p := ⟨gb427, 2, none⟩) (Kd.R_far (p := ⟨gb427, 1, none⟩) (Kd.R_far (p := ⟨gb427, 0, none⟩) (Kd.R_types HO_410007.out BK427.out (by decide)) (fun _ hk => hk.2) (.int .i64 ((rd_T59 l0 x7_1).f0))) (fun _ hk => hk.2) (.int .i64 ((rd_T59 l0 x7_1).f1))) (fun _ hk => hk.2) (.int .i64 ((rd_T59 l0 x7_1).f2))) (fun _ h_ => h_.1))) hb); replace BK409 := Goto.bb BK409 hb; replace BK427 := Goto.bp (.cells #[.int .i64 ((rd_T59 l0 x7_1).f0), .int .i64 ((rd_T59 l0 x7_1).f1), .int .i64 ((rd_T59 l0 x7_1).f2)] 59 (0, 0)) BK427 hb; replace HB := Goto.hs HB hb; clear hb hbox hg) | ((with_reducible refine gate_dst (N := 10) rfl ?_); (try (refine gate_guard (by rfl) ?_; dsimp only)); refine box_event ?hg (N := 10) ?hd (cs := #[.int .i64 0, .int .i64 0, .int .i64 0, .int .i64 0]) (t := 60) ?hr ?_; (case hd => rfl); (case hg => rfl); (case hr => first | (go_simp; done) | (go_simp; rfl)); intro gb429 hg w16 hbox hb; have BK429 := Goto.m0 (hbox); have GW429 := Goto.gs HB hg; have GE429 := Goto.gs HB hg; have NB409_429 := Goto.nl BK409 hg; have NB429_409 := Goto.nr BK409 hg; have NB427_429 := Goto.nl BK427 hg; have NB429_427 := Goto.nr BK427 hg; have NB428_429 := Goto.nl BK428 hg; have NB429_428 := Goto.nr BK428 hg; replace HO_410001 := Goto.m0 (Kd.R_below (Goto.rk HO_410001) hb); replace HO_410003 := Goto.m0 (Kd.R_below (Goto.rk HO_410003) hb); replace HO_410005 := Goto.m0 (Kd.R_below (Goto.rk HO_410005) hb); replace HO_410007 := Goto.m0 (Kd.R_below (Goto.rk HO_410007) hb); replace BK409 := Goto.bb BK409 hb; replace BK427 := Goto.bb BK427 hb; replace BK428 := Goto.bb BK428 hb; replace HB := Goto.hs HB hb; clear hb hbox hg))
       go_loopg [11] k1 (fun kq v11 w' => ∃ (x11_2 : Int) (x410000_2 : Int) (x410001_2 : List Int) (x410002_2 : Int) (x410003_2 : List Int) (x410004_2 : Int) (x410005_2 : List Int) (x410006_2 : Int) (x410007_2 : List Int) (x429000_2 : Int) (x429001_2 : Int) (x429002_2 : Int) (x429003_2 : Int) (x430000_2 : Int) (x430001_2 : Int) (x430002_2 : Int) (x430003_2 : Int) (u410001 : Value) (u410003 : Value) (u410005 : Value) (u410007 : Value), v11 = .int .i64 x11_2 ∧ Aside0 (tontinelaw9_ObjectApart.l1 kq l0 (wrap64 (Int.tmod a1 4)) x7_1 x11_2 x410000_2 x410001_2 x410002_2 x410003_2 x410004_2 x410005_2 x410006_2 x410007_2 ((rd_T59 l0 x7_1).f0) ((rd_T59 l0 x7_1).f1) ((rd_T59 l0 x7_1).f2) x429000_2 x429001_2 x429002_2 x429003_2 x430000_2 x430001_2 x430002_2 x430003_2 = some r) ∧ Aside0 (kq ≤ k1) ∧ Aside0 (Kd.R (Kd.int .i64) 3 w' w.heap.size (fun k_ => some k_ ≠ (u410003 : Value).ownBlock ∧ some k_ ≠ (u410005 : Value).ownBlock ∧ some k_ ≠ (u410007 : Value).ownBlock) u410001 x410001_2) ∧ Aside0 (Kd.R (Kd.int .i64) 3 w' w.heap.size (fun k_ => some k_ ≠ (u410001 : Value).ownBlock ∧ some k_ ≠ (u410005 : Value).ownBlock ∧ some k_ ≠ (u410007 : Value).ownBlock) u410003 x410003_2) ∧ Aside0 (Kd.R (Kd.int .i64) 3 w' w.heap.size (fun k_ => some k_ ≠ (u410001 : Value).ownBlock ∧ some k_ ≠ (u410003 : Value).ownBlock ∧ some k_ ≠ (u410007 : Value).ownBlock) u410005 x410005_2) ∧ Aside0 (Kd.R (Kd.int .i64) 3 w' w.heap.size (fun k_ => some k_ ≠ (u410001 : Value).ownBlock ∧ some k_ ≠ (u410003 : Value).ownBlock ∧ some k_ ≠ (u410005 : Value).ownBlock) u410007 x410007_2) ∧ Aside0 (w'.heap[gb409]? = some (.cells #[.int .i64 x410000_2, u410001, .int .i64 x410002_2, u410003, .int .i64 x410004_2, u410005, .int .i64 x410006_2, u410007] 79 (0, 0))) ∧ Aside0 (w'.heap[gb427]? = some (.cells #[.int .i64 ((rd_T59 l0 x7_1).f0), .int .i64 ((rd_T59 l0 x7_1).f1), .int .i64 ((rd_T59 l0 x7_1).f2)] 59 (0, 0))) ∧ Aside0 (w'.heap[gb428]? = some (.cells #[.int .i64 x429000_2, .int .i64 x429001_2, .int .i64 x429002_2, .int .i64 x429003_2] 60 (0, 0))) ∧ Aside0 (w'.heap[gb429]? = some (.cells #[.int .i64 x430000_2, .int .i64 x430001_2, .int .i64 x430002_2, .int .i64 x430003_2] 60 (0, 0))) ∧ Aside0 (Below w.heap.size w w'))
       case atStart => exact ⟨(0), (x410000_1), (x410001_1), (x410002_1), (x410003_1), (x410004_1), (x410005_1), (x410006_1), (x410007_1), (0), (0), (0), (0), (0), (0), (0), (0), (u410001), (u410003), (u410005), (u410007), (by first | rfl | (simp; done) | (simp [*]; done) | (congr 1; unfold wrap64; omega)), H', ⟨Nat.le_refl _⟩, ⟨Goto.rk HO_410001⟩, ⟨Goto.rk HO_410003⟩, ⟨Goto.rk HO_410005⟩, ⟨Goto.rk HO_410007⟩, ⟨Goto.bx BK409⟩, ⟨Goto.bx BK427⟩, ⟨Goto.bx BK428⟩, ⟨Goto.bx BK429⟩, ⟨Goto.hx HB⟩⟩
       case round =>
        clear H'
        try clear c1; try clear c2; try clear p2; try clear c4; try clear p4; try clear q4; try clear hx4; try clear c5; try clear c5b0; try clear c5b1; try clear p6; try clear c7; try clear c10; try clear c10b0; try clear c11; try clear c11b0; try clear c13; try clear hcz14_0; try clear hcz14_1; try clear hcz14_2; try clear hfz14_0; try clear hfz14_1; try clear hfz14_2; try clear hx426_0; try clear hx426_1; try clear hx426_2; try clear p2; try clear p426; try clear p6; try clear q426
        obtain ⟨x11_2, x410000_2, x410001_2, x410002_2, x410003_2, x410004_2, x410005_2, x410006_2, x410007_2, x429000_2, x429001_2, x429002_2, x429003_2, x430000_2, x430001_2, x430002_2, x430003_2, u410001, u410003, u410005, u410007, rfl, HA, HK2, HO_410001, HO_410003, HO_410005, HO_410007, BK409, BK427, BK428, BK429, HB⟩ := hrel
        cases gk with
        | zero => exact absurd HA.out (by simp [tontinelaw9_ObjectApart.l1])
        | succ k2 =>
         have H := HA.out; clear HA
         simp only [tontinelaw9_ObjectApart.l1] at H
         by_cases c17 : x11_2 < 4
         ·
          rw [if_pos c17] at H
          have c17b0 : decide (x11_2 < 4) = true := decide_eq_true c17
          clear c17
          replace H := Option.bind_eq_some_iff.mp H
          obtain ⟨⟨t430, t431, t432, t435, t436, t439, t440, t443, t444⟩, A180, H⟩ := H
          replace H : ((object_Objects_Row.f t431 t432 t435 t436 t439 t440 t443 t444 x11_2).bind fun bt447 => (if 0 ≤ x11_2 then (if x11_2 = 0 then (tontinelaw9_ObjectApart.l1 k2 l0 (wrap64 (Int.tmod a1 4)) x7_1 (wrap64 (x11_2 + 1)) bt447.2.1 bt447.2.2.1 bt447.2.2.2.1 bt447.2.2.2.2.1 bt447.2.2.2.2.2.1 bt447.2.2.2.2.2.2.1 bt447.2.2.2.2.2.2.2.1 bt447.2.2.2.2.2.2.2.2 ((rd_T59 l0 x7_1).f0) ((rd_T59 l0 x7_1).f1) ((rd_T59 l0 x7_1).f2) t430 x429001_2 x429002_2 x429003_2 (bt447.1.length : Int) x430001_2 x430002_2 x430003_2) else (if x11_2 = 1 then (tontinelaw9_ObjectApart.l1 k2 l0 (wrap64 (Int.tmod a1 4)) x7_1 (wrap64 (x11_2 + 1)) bt447.2.1 bt447.2.2.1 bt447.2.2.2.1 bt447.2.2.2.2.1 bt447.2.2.2.2.2.1 bt447.2.2.2.2.2.2.1 bt447.2.2.2.2.2.2.2.1 bt447.2.2.2.2.2.2.2.2 ((rd_T59 l0 x7_1).f0) ((rd_T59 l0 x7_1).f1) ((rd_T59 l0 x7_1).f2) x429000_2 t430 x429002_2 x429003_2 x430000_2 (bt447.1.length : Int) x430002_2 x430003_2) else (if x11_2 = 2 then (tontinelaw9_ObjectApart.l1 k2 l0 (wrap64 (Int.tmod a1 4)) x7_1 (wrap64 (x11_2 + 1)) bt447.2.1 bt447.2.2.1 bt447.2.2.2.1 bt447.2.2.2.2.1 bt447.2.2.2.2.2.1 bt447.2.2.2.2.2.2.1 bt447.2.2.2.2.2.2.2.1 bt447.2.2.2.2.2.2.2.2 ((rd_T59 l0 x7_1).f0) ((rd_T59 l0 x7_1).f1) ((rd_T59 l0 x7_1).f2) x429000_2 x429001_2 t430 x429003_2 x430000_2 x430001_2 (bt447.1.length : Int) x430003_2) else (if x11_2 = 3 then (tontinelaw9_ObjectApart.l1 k2 l0 (wrap64 (Int.tmod a1 4)) x7_1 (wrap64 (x11_2 + 1)) bt447.2.1 bt447.2.2.1 bt447.2.2.2.1 bt447.2.2.2.2.1 bt447.2.2.2.2.2.1 bt447.2.2.2.2.2.2.1 bt447.2.2.2.2.2.2.2.1 bt447.2.2.2.2.2.2.2.2 ((rd_T59 l0 x7_1).f0) ((rd_T59 l0 x7_1).f1) ((rd_T59 l0 x7_1).f2) x429000_2 x429001_2 x429002_2 t430 x430000_2 x430001_2 x430002_2 (bt447.1.length : Int)) else (none))))) else (none))) = some r := H
          have A18 := Goto.m0 A180
          clear A180
          replace H := Option.bind_eq_some_iff.mp H
          obtain ⟨⟨t447, t450, t451, t454, t455, t458, t459, t462, t463⟩, A190, H⟩ := H
          replace H : (if 0 ≤ x11_2 then (if x11_2 = 0 then (tontinelaw9_ObjectApart.l1 k2 l0 (wrap64 (Int.tmod a1 4)) x7_1 (wrap64 (x11_2 + 1)) t450 t451 t454 t455 t458 t459 t462 t463 ((rd_T59 l0 x7_1).f0) ((rd_T59 l0 x7_1).f1) ((rd_T59 l0 x7_1).f2) t430 x429001_2 x429002_2 x429003_2 (t447.length : Int) x430001_2 x430002_2 x430003_2) else (if x11_2 = 1 then (tontinelaw9_ObjectApart.l1 k2 l0 (wrap64 (Int.tmod a1 4)) x7_1 (wrap64 (x11_2 + 1)) t450 t451 t454 t455 t458 t459 t462 t463 ((rd_T59 l0 x7_1).f0) ((rd_T59 l0 x7_1).f1) ((rd_T59 l0 x7_1).f2) x429000_2 t430 x429002_2 x429003_2 x430000_2 (t447.length : Int) x430002_2 x430003_2) else (if x11_2 = 2 then (tontinelaw9_ObjectApart.l1 k2 l0 (wrap64 (Int.tmod a1 4)) x7_1 (wrap64 (x11_2 + 1)) t450 t451 t454 t455 t458 t459 t462 t463 ((rd_T59 l0 x7_1).f0) ((rd_T59 l0 x7_1).f1) ((rd_T59 l0 x7_1).f2) x429000_2 x429001_2 t430 x429003_2 x430000_2 x430001_2 (t447.length : Int) x430003_2) else (if x11_2 = 3 then (tontinelaw9_ObjectApart.l1 k2 l0 (wrap64 (Int.tmod a1 4)) x7_1 (wrap64 (x11_2 + 1)) t450 t451 t454 t455 t458 t459 t462 t463 ((rd_T59 l0 x7_1).f0) ((rd_T59 l0 x7_1).f1) ((rd_T59 l0 x7_1).f2) x429000_2 x429001_2 x429002_2 t430 x430000_2 x430001_2 x430002_2 (t447.length : Int)) else (none))))) else (none)) = some r := H
          have A19 := Goto.m0 A190
          clear A190
          by_cases c20 : 0 ≤ x11_2
          ·
           rw [if_pos c20] at H
           have c20b0 : decide (0 ≤ x11_2) = true := decide_eq_true c20
           clear c20
           by_cases c21 : x11_2 = 0
           ·
            rw [if_pos c21] at H
            have c21b0 : (x11_2 == 0) = true := beq_iff_eq.mpr c21
            have c21b1 : (x11_2 != 0) = false := bne_eq_false_iff_eq.mpr c21
            clear c21
            have hix22e : x11_2 = 0 := eq_of_beq (by first | (with_reducible assumption) | assumption)
            have hix22 : (x11_2).toNat = 0 := by rw [hix22e]; rfl
            have hix22c : (0 ≤ x11_2 ∧ x11_2 < (4 : Int)) = True := eq_true (by rw [hix22e]; decide)
            clear hix22e
            have hix23e : x11_2 = 0 := eq_of_beq (by first | (with_reducible assumption) | assumption)
            have hix23 : (x11_2).toNat = 0 := by rw [hix23e]; rfl
            have hix23c : (0 ≤ x11_2 ∧ x11_2 < (4 : Int)) = True := eq_true (by rw [hix23e]; decide)
            clear hix23e
            have H' := Goto.m0 H
            clear H
            try go_wp2
            replace HO_410001 := Goto.m0 (Kd.R_drew HO_410001.out); replace HO_410003 := Goto.m0 (Kd.R_drew HO_410003.out); replace HO_410005 := Goto.m0 (Kd.R_drew HO_410005.out); replace HO_410007 := Goto.m0 (Kd.R_drew HO_410007.out); replace BK409 := Goto.m0 (blk_drew BK409.out); replace BK427 := Goto.m0 (blk_drew BK427.out); replace BK428 := Goto.m0 (blk_drew BK428.out); replace BK429 := Goto.m0 (blk_drew BK429.out); replace HB := Goto.m0 (below_drew1 HB.out)
            refine start_ (n := 13) (S := fun w' => True) (ds := []) (.replicate 13 false) (by kernel_rfl) rfl rfl trivial (fun hHeld => ?_); refine with_tabW tontinelaw9_ObjectApart.tab16 tontinelaw9_ObjectApart.bits16 (fun HT_ HW_ => ?_)
            generalize wr.drew = w24 at HO_410001 HO_410003 HO_410005 HO_410007 BK409 BK427 BK428 BK429 HB hHeld ⊢
            refine Goto.pu 0 36 13 1 ?_
            refine Goto.pu 1 37 13 3 ?_
            refine Goto.pu 2 38 13 7 ?_
            refine Goto.pu 3 39 13 15 ?_
            refine Goto.pu 5 41 13 47 ?_
            refine Goto.pu 6 42 13 111 ?_
            refine one_ (i := 4) (N := some 40) (Goto.bs 13 127) rfl rfl (one_of HT_.out (by kernel_rfl)) (by decide) (fun K hK => ?_)
            refine goes_ Try.func24 (by kernel_rfl) rfl #[.pointer (some ⟨gb409, 0, none⟩), .int .i64 x11_2] (by rfl) rfl rfl (by (try simp only [List.map_toArray, List.map_cons, List.map_nil]); first | done | rfl | (simp only [List.length_drop, List.length_take]; rfl)) ?_
            with_reducible refine (object_Objects_Count.calls gb409 x410000_2 (fun k_ => some k_ = (u410001 : Value).ownBlock) u410001 x410001_2 x410002_2 (fun k_ => some k_ = (u410003 : Value).ownBlock) u410003 x410003_2 x410004_2 (fun k_ => some k_ = (u410005 : Value).ownBlock) u410005 x410005_2 x410006_2 (fun k_ => some k_ = (u410007 : Value).ownBlock) u410007 x410007_2 x11_2 t430 t431 t432 t435 t436 t439 t440 t443 t444 w _ ?side1 ?side2 ?side3 ?side4 ?side5 ?side6 ?side7 ?side8 ?side9 ?side10 ?side11 ?side12 ?side13 ?side14 ?side15 ?side16 ?side17 ?side18 ?side19 A18.out).mono ?_
            (case side1 => exact by (with_reducible repeat first | refine blk_drewN ?_ _ | refine blk_drew ?_ | refine blk_alloc ?_ _); exact BK409.out)
            (case side2 => exact GE409.out)
            (case side3 => repeat (first | (with_reducible first | exact HB.out | apply below_alloc | apply pw_below_drewN | apply below_drew1 | refine below_set ?_ GE409.out | refine below_set ?_ GE427.out | refine below_set ?_ GE428.out | refine below_set ?_ GE429.out) | exact HB.out))
            (case side4 => exact Kd.R_tight rfl HO_410001.out)
            (case side5 => exact fun k_ e_ => (HO_410001.out.1 k_ e_.symm).1)
            (case side6 => exact fun k_ e_ => (HO_410001.out.1 k_ e_.symm).2.1)
            (case side7 => exact fun k_ e_ => (HO_410001.out.1 k_ e_.symm).2.2)
            (case side8 => exact Kd.R_tight rfl HO_410003.out)
            (case side9 => exact fun k_ e_ => (HO_410003.out.1 k_ e_.symm).1)
            (case side10 => exact fun k_ e_ => (HO_410003.out.1 k_ e_.symm).2.1)
            (case side11 => exact fun k_ e_ => (HO_410003.out.1 k_ e_.symm).2.2)
            (case side12 => exact Kd.R_tight rfl HO_410005.out)
            (case side13 => exact fun k_ e_ => (HO_410005.out.1 k_ e_.symm).1)
            (case side14 => exact fun k_ e_ => (HO_410005.out.1 k_ e_.symm).2.1)
            (case side15 => exact fun k_ e_ => (HO_410005.out.1 k_ e_.symm).2.2)
            (case side16 => exact Kd.R_tight rfl HO_410007.out)
            (case side17 => exact fun k_ e_ => (HO_410007.out.1 k_ e_.symm).1)
            (case side18 => exact fun k_ e_ => (HO_410007.out.1 k_ e_.symm).2.1)
            (case side19 => exact fun k_ e_ => (HO_410007.out.1 k_ e_.symm).2.2)
            rintro e w25 ⟨v433, v437, v441, v445, rfl, ho0, ho1, ho2, ho3, hi, hb, hkp⟩
            refine ⟨_, rfl, ?_⟩
            have n0_ := Goto.m0 (hi)
            have n1_ := Goto.m0 (blk_kept (Goto.bx BK427) hkp (fun hs_ => Or.elim hs_ (fun hs_ => Or.elim hs_ (fun e_ => (fun e_ => (Kd.R_ne HO_410001.out BK427.out (by decide)) e_) e_) (fun e_ => Or.elim e_ (fun e_ => (fun e_ => (Kd.R_ne HO_410003.out BK427.out (by decide)) e_) e_) (fun e_ => Or.elim e_ (fun e_ => (fun e_ => (Kd.R_ne HO_410005.out BK427.out (by decide)) e_) e_) (fun e_ => (fun e_ => (Kd.R_ne HO_410007.out BK427.out (by decide)) e_) e_)))) (fun e_ => NB427_409.out e_)))
            have n2_ := Goto.m0 (blk_kept (Goto.bx BK428) hkp (fun hs_ => Or.elim hs_ (fun hs_ => Or.elim hs_ (fun e_ => (fun e_ => (Kd.R_ne HO_410001.out BK428.out (by decide)) e_) e_) (fun e_ => Or.elim e_ (fun e_ => (fun e_ => (Kd.R_ne HO_410003.out BK428.out (by decide)) e_) e_) (fun e_ => Or.elim e_ (fun e_ => (fun e_ => (Kd.R_ne HO_410005.out BK428.out (by decide)) e_) e_) (fun e_ => (fun e_ => (Kd.R_ne HO_410007.out BK428.out (by decide)) e_) e_)))) (fun e_ => NB428_409.out e_)))
            have n3_ := Goto.m0 (blk_kept (Goto.bx BK429) hkp (fun hs_ => Or.elim hs_ (fun hs_ => Or.elim hs_ (fun e_ => (fun e_ => (Kd.R_ne HO_410001.out BK429.out (by decide)) e_) e_) (fun e_ => Or.elim e_ (fun e_ => (fun e_ => (Kd.R_ne HO_410003.out BK429.out (by decide)) e_) e_) (fun e_ => Or.elim e_ (fun e_ => (fun e_ => (Kd.R_ne HO_410005.out BK429.out (by decide)) e_) e_) (fun e_ => (fun e_ => (Kd.R_ne HO_410007.out BK429.out (by decide)) e_) e_)))) (fun e_ => NB429_409.out e_)))
            have n4_ := Goto.m0 (Kd.R_mono (ok' := fun k_ => some k_ ≠ (v437 : Value).ownBlock ∧ some k_ ≠ (v441 : Value).ownBlock ∧ some k_ ≠ (v445 : Value).ownBlock) ho0 (fun k_ hk_ => ⟨hk_.2.1, hk_.2.2.1, hk_.2.2.2⟩))
            have n5_ := Goto.m0 (Kd.R_mono (ok' := fun k_ => some k_ ≠ (v433 : Value).ownBlock ∧ some k_ ≠ (v441 : Value).ownBlock ∧ some k_ ≠ (v445 : Value).ownBlock) ho1 (fun k_ hk_ => ⟨hk_.2.1, hk_.2.2.1, hk_.2.2.2⟩))
            have n6_ := Goto.m0 (Kd.R_mono (ok' := fun k_ => some k_ ≠ (v433 : Value).ownBlock ∧ some k_ ≠ (v437 : Value).ownBlock ∧ some k_ ≠ (v445 : Value).ownBlock) ho2 (fun k_ hk_ => ⟨hk_.2.1, hk_.2.2.1, hk_.2.2.2⟩))
            have n7_ := Goto.m0 (Kd.R_mono (ok' := fun k_ => some k_ ≠ (v433 : Value).ownBlock ∧ some k_ ≠ (v437 : Value).ownBlock ∧ some k_ ≠ (v441 : Value).ownBlock) ho3 (fun k_ hk_ => ⟨hk_.2.1, hk_.2.2.1, hk_.2.2.2⟩))
            have n8_ := Goto.m0 (hb)
            clear BK409; clear BK427; clear BK428; clear BK429; clear HB; clear HO_410001; clear HO_410003; clear HO_410005; clear HO_410007; have BK409 := n0_; have BK427 := n1_; have BK428 := n2_; have BK429 := n3_; have HO434 := n4_; have HO438 := n5_; have HO442 := n6_; have HO446 := n7_; have HB := n8_; clear n0_ n1_ n2_ n3_ n4_ n5_ n6_ n7_ n8_
            (try clear hb)
            (try clear hkp)
            (try clear ho0)
            (try clear ho1)
            (try clear ho2)
            (try clear ho3)
            refine hK.out _ _ trivial (fun hHeld => ?_)
            clear hK K
            refine norm_ (a' := ?_) ?_ ?_
            rotate_left
            ·
             show Act.put _ (some 40) _ = _
             exact Goto.ap
            refine Goto.pu 9 45 13 639 ?_
            refine one_ (i := 7) (N := some 43) (Goto.bs 13 767) rfl rfl (one_of HT_.out (by kernel_rfl)) (by decide) (fun K hK => ?_)
            refine goes_ Try.func25 (by kernel_rfl) rfl #[.pointer (some ⟨gb409, 0, none⟩), .int .i64 x11_2] (by rfl) rfl rfl (by (try simp only [List.map_toArray, List.map_cons, List.map_nil]); first | done | rfl | (simp only [List.length_drop, List.length_take]; rfl)) ?_
            with_reducible refine (object_Objects_Row.calls gb409 t431 (fun k_ => some k_ = (v433 : Value).ownBlock) v433 t432 t435 (fun k_ => some k_ = (v437 : Value).ownBlock) v437 t436 t439 (fun k_ => some k_ = (v441 : Value).ownBlock) v441 t440 t443 (fun k_ => some k_ = (v445 : Value).ownBlock) v445 t444 x11_2 t447 t450 t451 t454 t455 t458 t459 t462 t463 w _ ?side1 ?side2 ?side3 ?side4 ?side5 ?side6 ?side7 ?side8 ?side9 ?side10 ?side11 ?side12 ?side13 ?side14 ?side15 ?side16 ?side17 ?side18 ?side19 A19.out).mono ?_
            (case side1 => exact by (with_reducible repeat first | refine blk_drewN ?_ _ | refine blk_drew ?_ | refine blk_alloc ?_ _); exact BK409.out)
            (case side2 => exact GE409.out)
            (case side3 => repeat (first | (with_reducible first | exact HB.out | apply below_alloc | apply pw_below_drewN | apply below_drew1 | refine below_set ?_ GE409.out | refine below_set ?_ GE427.out | refine below_set ?_ GE428.out | refine below_set ?_ GE429.out) | exact HB.out))
            (case side4 => exact Kd.R_tight rfl HO434.out)
            (case side5 => exact fun k_ e_ => (HO434.out.1 k_ e_.symm).1)
            (case side6 => exact fun k_ e_ => (HO434.out.1 k_ e_.symm).2.1)
            (case side7 => exact fun k_ e_ => (HO434.out.1 k_ e_.symm).2.2)
            (case side8 => exact Kd.R_tight rfl HO438.out)
            (case side9 => exact fun k_ e_ => (HO438.out.1 k_ e_.symm).1)
            (case side10 => exact fun k_ e_ => (HO438.out.1 k_ e_.symm).2.1)
            (case side11 => exact fun k_ e_ => (HO438.out.1 k_ e_.symm).2.2)
            (case side12 => exact Kd.R_tight rfl HO442.out)
            (case side13 => exact fun k_ e_ => (HO442.out.1 k_ e_.symm).1)
            (case side14 => exact fun k_ e_ => (HO442.out.1 k_ e_.symm).2.1)
            (case side15 => exact fun k_ e_ => (HO442.out.1 k_ e_.symm).2.2)
            (case side16 => exact Kd.R_tight rfl HO446.out)
            (case side17 => exact fun k_ e_ => (HO446.out.1 k_ e_.symm).1)
            (case side18 => exact fun k_ e_ => (HO446.out.1 k_ e_.symm).2.1)
            (case side19 => exact fun k_ e_ => (HO446.out.1 k_ e_.symm).2.2)
            rintro e w26 ⟨v448, v452, v456, v460, v464, rfl, ho0, ho1, ho2, ho3, ho4, hi, hb, hkp⟩
            refine ⟨_, rfl, ?_⟩
            have n0_ := Goto.m0 (hi)
            have n1_ := Goto.m0 (blk_kept (Goto.bx BK427) hkp (fun hs_ => Or.elim hs_ (fun hs_ => Or.elim hs_ (fun e_ => (fun e_ => (Kd.R_ne HO434.out BK427.out (by decide)) e_) e_) (fun e_ => Or.elim e_ (fun e_ => (fun e_ => (Kd.R_ne HO438.out BK427.out (by decide)) e_) e_) (fun e_ => Or.elim e_ (fun e_ => (fun e_ => (Kd.R_ne HO442.out BK427.out (by decide)) e_) e_) (fun e_ => (fun e_ => (Kd.R_ne HO446.out BK427.out (by decide)) e_) e_)))) (fun e_ => NB427_409.out e_)))
            have n2_ := Goto.m0 (blk_kept (Goto.bx BK428) hkp (fun hs_ => Or.elim hs_ (fun hs_ => Or.elim hs_ (fun e_ => (fun e_ => (Kd.R_ne HO434.out BK428.out (by decide)) e_) e_) (fun e_ => Or.elim e_ (fun e_ => (fun e_ => (Kd.R_ne HO438.out BK428.out (by decide)) e_) e_) (fun e_ => Or.elim e_ (fun e_ => (fun e_ => (Kd.R_ne HO442.out BK428.out (by decide)) e_) e_) (fun e_ => (fun e_ => (Kd.R_ne HO446.out BK428.out (by decide)) e_) e_)))) (fun e_ => NB428_409.out e_)))
            have n3_ := Goto.m0 (blk_kept (Goto.bx BK429) hkp (fun hs_ => Or.elim hs_ (fun hs_ => Or.elim hs_ (fun e_ => (fun e_ => (Kd.R_ne HO434.out BK429.out (by decide)) e_) e_) (fun e_ => Or.elim e_ (fun e_ => (fun e_ => (Kd.R_ne HO438.out BK429.out (by decide)) e_) e_) (fun e_ => Or.elim e_ (fun e_ => (fun e_ => (Kd.R_ne HO442.out BK429.out (by decide)) e_) e_) (fun e_ => (fun e_ => (Kd.R_ne HO446.out BK429.out (by decide)) e_) e_)))) (fun e_ => NB429_409.out e_)))
            have n4_ := Goto.m0 (Kd.R_mono (ok' := fun k_ => some k_ ≠ (v452 : Value).ownBlock ∧ some k_ ≠ (v456 : Value).ownBlock ∧ some k_ ≠ (v460 : Value).ownBlock ∧ some k_ ≠ (v464 : Value).ownBlock) ho0 (fun k_ hk_ => ⟨hk_.2.1, hk_.2.2.1, hk_.2.2.2.1, hk_.2.2.2.2⟩))
            have n5_ := Goto.m0 (Kd.R_mono (ok' := fun k_ => some k_ ≠ (v448 : Value).ownBlock ∧ some k_ ≠ (v456 : Value).ownBlock ∧ some k_ ≠ (v460 : Value).ownBlock ∧ some k_ ≠ (v464 : Value).ownBlock) ho1 (fun k_ hk_ => ⟨hk_.2.1, hk_.2.2.1, hk_.2.2.2.1, hk_.2.2.2.2⟩))
            have n6_ := Goto.m0 (Kd.R_mono (ok' := fun k_ => some k_ ≠ (v448 : Value).ownBlock ∧ some k_ ≠ (v452 : Value).ownBlock ∧ some k_ ≠ (v460 : Value).ownBlock ∧ some k_ ≠ (v464 : Value).ownBlock) ho2 (fun k_ hk_ => ⟨hk_.2.1, hk_.2.2.1, hk_.2.2.2.1, hk_.2.2.2.2⟩))
            have n7_ := Goto.m0 (Kd.R_mono (ok' := fun k_ => some k_ ≠ (v448 : Value).ownBlock ∧ some k_ ≠ (v452 : Value).ownBlock ∧ some k_ ≠ (v456 : Value).ownBlock ∧ some k_ ≠ (v464 : Value).ownBlock) ho3 (fun k_ hk_ => ⟨hk_.2.1, hk_.2.2.1, hk_.2.2.2.1, hk_.2.2.2.2⟩))
            have n8_ := Goto.m0 (Kd.R_mono (ok' := fun k_ => some k_ ≠ (v448 : Value).ownBlock ∧ some k_ ≠ (v452 : Value).ownBlock ∧ some k_ ≠ (v456 : Value).ownBlock ∧ some k_ ≠ (v460 : Value).ownBlock) ho4 (fun k_ hk_ => ⟨hk_.2.1, hk_.2.2.1, hk_.2.2.2.1, hk_.2.2.2.2⟩))
            have n9_ := Goto.m0 (hb)
            clear BK409; clear BK427; clear BK428; clear BK429; clear HB; clear HO434; clear HO438; clear HO442; clear HO446; have BK409 := n0_; have BK427 := n1_; have BK428 := n2_; have BK429 := n3_; have HO449 := n4_; have HO453 := n5_; have HO457 := n6_; have HO461 := n7_; have HO465 := n8_; have HB := n9_; clear n0_ n1_ n2_ n3_ n4_ n5_ n6_ n7_ n8_ n9_
            (try clear hb)
            (try clear hkp)
            (try clear ho0)
            (try clear ho1)
            (try clear ho2)
            (try clear ho3)
            (try clear ho4)
            obtain ⟨Ao27, co27, eo27⟩ := Kd.R_slice HO449.out
            (first | subst eo27 | (injection eo27 with f1_ f2_ f3_; have f4_ := f1_.symm; have f5_ := f3_.symm; clear f1_ f2_ f3_; subst f4_; subst f5_))
            refine hK.out _ _ trivial (fun hHeld => ?_)
            clear hK K
            refine norm_ (a' := ?_) ?_ ?_
            rotate_left
            ·
             show Act.put _ (some 43) _ = _
             exact Goto.ap
            refine Goto.pu 8 44 13 1023 ?_
            refine one_ (i := 10) (N := none) (Goto.bs 13 2047) rfl rfl (one_of HT_.out (by kernel_rfl)) (by decide) (fun K hK => ?_)
            have hs28 : w26.cell? ⟨gb428, 0, none⟩ = some (.int .i64 x429000_2) := (blk_cell BK428.out 0).trans rfl; have hfs28 := Goto.bf BK428 0; have hns28_0 := NB409_428.out; have hns28_1 := NB427_428.out; have hns28_3 := NB429_428.out; have hms28_0 := NB428_409.out; have hms28_1 := NB428_427.out; have hms28_3 := NB428_429.out
            refine skip_ (w1 := ?_) (by rfl) rfl ?_ ?_
            rotate_left
            ·
             go_simp
             rfl
            refine hK.out _ _ trivial (fun hHeld => ?_)
            clear hK K
            refine Goto.pu 11 46 13 4095 ?_
            refine one_ (i := 12) (N := none) (Goto.bs 13 8191) rfl rfl (one_of HT_.out (by kernel_rfl)) (by decide) (fun K hK => ?_)
            have hs29 : w26.cell? ⟨gb429, 0, none⟩ = some (.int .i64 x430000_2) := (blk_cell BK429.out 0).trans rfl; have hfs29 := Goto.bf BK429 0; have hns29_0 := NB409_429.out; have hns29_1 := NB427_429.out; have hns29_2 := NB428_429.out; have hms29_0 := NB429_409.out; have hms29_1 := NB429_427.out; have hms29_2 := NB429_428.out
            refine skip_ (w1 := ?_) (by rfl) rfl ?_ ?_
            rotate_left
            ·
             go_simp
             rfl
            refine hK.out _ _ trivial (fun hHeld => ?_)
            clear hK K
            refine done_ (done_of HT_.out (by kernel_rfl)) ?_
            try go_wp2
            go_roundg k2
            case measure => have := HK1.out; have := HK2.out; omega
            case rel => exact ⟨(wrap64 (x11_2 + 1)), (t450), (t451), (t454), (t455), (t458), (t459), (t462), (t463), (t430), (x429001_2), (x429002_2), (x429003_2), ((t447.length : Int)), (x430001_2), (x430002_2), (x430003_2), (v452), (v456), (v460), (v464), (by first | rfl | (simp; done) | (simp [*]; done) | (congr 1; unfold wrap64; omega)), H', ⟨by have := HK1.out; have := HK2.out; omega⟩, ⟨by (with_reducible repeat (first | apply Kd.R_alloc | apply Kd.R_drewN | apply Kd.R_drew)); exact Kd.R_mono (Kd.R_far (p := ⟨gb429, 0, none⟩) (Kd.R_far (p := ⟨gb428, 0, none⟩) (Kd.R_types (Kd.R_types HO453.out BK428.out (by decide)) BK429.out (by decide)) (fun _ hk => hk.1.2) (.int .i64 t430)) (fun _ hk => hk.2) (.int .i64 (t447.length : Int))) (fun _ hk => ⟨hk.1.1.2.1, ⟨hk.1.1.2.2.1, hk.1.1.2.2.2⟩⟩)⟩, ⟨by (with_reducible repeat (first | apply Kd.R_alloc | apply Kd.R_drewN | apply Kd.R_drew)); exact Kd.R_mono (Kd.R_far (p := ⟨gb429, 0, none⟩) (Kd.R_far (p := ⟨gb428, 0, none⟩) (Kd.R_types (Kd.R_types HO457.out BK428.out (by decide)) BK429.out (by decide)) (fun _ hk => hk.1.2) (.int .i64 t430)) (fun _ hk => hk.2) (.int .i64 (t447.length : Int))) (fun _ hk => ⟨hk.1.1.2.1, ⟨hk.1.1.2.2.1, hk.1.1.2.2.2⟩⟩)⟩, ⟨by (with_reducible repeat (first | apply Kd.R_alloc | apply Kd.R_drewN | apply Kd.R_drew)); exact Kd.R_mono (Kd.R_far (p := ⟨gb429, 0, none⟩) (Kd.R_far (p := ⟨gb428, 0, none⟩) (Kd.R_types (Kd.R_types HO461.out BK428.out (by decide)) BK429.out (by decide)) (fun _ hk => hk.1.2) (.int .i64 t430)) (fun _ hk => hk.2) (.int .i64 (t447.length : Int))) (fun _ hk => ⟨hk.1.1.2.1, ⟨hk.1.1.2.2.1, hk.1.1.2.2.2⟩⟩)⟩, ⟨by (with_reducible repeat (first | apply Kd.R_alloc | apply Kd.R_drewN | apply Kd.R_drew)); exact Kd.R_mono (Kd.R_far (p := ⟨gb429, 0, none⟩) (Kd.R_far (p := ⟨gb428, 0, none⟩) (Kd.R_types (Kd.R_types HO465.out BK428.out (by decide)) BK429.out (by decide)) (fun _ hk => hk.1.2) (.int .i64 t430)) (fun _ hk => hk.2) (.int .i64 (t447.length : Int))) (fun _ hk => ⟨hk.1.1.2.1, ⟨hk.1.1.2.2.1, hk.1.1.2.2.2⟩⟩)⟩, ⟨Goto.bx BK409⟩, ⟨Goto.bx BK427⟩, ⟨Goto.bx BK428⟩, ⟨Goto.bx BK429⟩, ⟨Goto.hx HB⟩⟩
           ·
            rw [if_neg c21] at H
            have c21b0 : (x11_2 == 0) = false := beq_eq_false_iff_ne.mpr c21
            have c21b1 : (x11_2 != 0) = true := bne_iff_ne.mpr c21
            by_cases c30 : x11_2 = 1
            ·
             rw [if_pos c30] at H
             have c30b0 : (x11_2 == 1) = true := beq_iff_eq.mpr c30
             have c30b1 : (x11_2 != 1) = false := bne_eq_false_iff_eq.mpr c30
             clear c30
             have hix31e : x11_2 = 1 := eq_of_beq (by first | (with_reducible assumption) | assumption)
             have hix31 : (x11_2).toNat = 1 := by rw [hix31e]; rfl
             have hix31c : (0 ≤ x11_2 ∧ x11_2 < (4 : Int)) = True := eq_true (by rw [hix31e]; decide)
             clear hix31e
             have hix32e : x11_2 = 1 := eq_of_beq (by first | (with_reducible assumption) | assumption)
             have hix32 : (x11_2).toNat = 1 := by rw [hix32e]; rfl
             have hix32c : (0 ≤ x11_2 ∧ x11_2 < (4 : Int)) = True := eq_true (by rw [hix32e]; decide)
             clear hix32e
             have H' := Goto.m0 H
             clear H
             try go_wp2
             replace HO_410001 := Goto.m0 (Kd.R_drew HO_410001.out); replace HO_410003 := Goto.m0 (Kd.R_drew HO_410003.out); replace HO_410005 := Goto.m0 (Kd.R_drew HO_410005.out); replace HO_410007 := Goto.m0 (Kd.R_drew HO_410007.out); replace BK409 := Goto.m0 (blk_drew BK409.out); replace BK427 := Goto.m0 (blk_drew BK427.out); replace BK428 := Goto.m0 (blk_drew BK428.out); replace BK429 := Goto.m0 (blk_drew BK429.out); replace HB := Goto.m0 (below_drew1 HB.out)
             refine start_ (n := 13) (S := fun w' => True) (ds := []) (.replicate 13 false) (by kernel_rfl) rfl rfl trivial (fun hHeld => ?_); refine with_tabW tontinelaw9_ObjectApart.tab16 tontinelaw9_ObjectApart.bits16 (fun HT_ HW_ => ?_)
             generalize wr.drew = w33 at HO_410001 HO_410003 HO_410005 HO_410007 BK409 BK427 BK428 BK429 HB hHeld ⊢
             refine Goto.pu 0 36 13 1 ?_
             refine Goto.pu 1 37 13 3 ?_
             refine Goto.pu 2 38 13 7 ?_
             refine Goto.pu 3 39 13 15 ?_
             refine Goto.pu 5 41 13 47 ?_
             refine Goto.pu 6 42 13 111 ?_
             refine one_ (i := 4) (N := some 40) (Goto.bs 13 127) rfl rfl (one_of HT_.out (by kernel_rfl)) (by decide) (fun K hK => ?_)
             refine goes_ Try.func24 (by kernel_rfl) rfl #[.pointer (some ⟨gb409, 0, none⟩), .int .i64 x11_2] (by rfl) rfl rfl (by (try simp only [List.map_toArray, List.map_cons, List.map_nil]); first | done | rfl | (simp only [List.length_drop, List.length_take]; rfl)) ?_
             with_reducible refine (object_Objects_Count.calls gb409 x410000_2 (fun k_ => some k_ = (u410001 : Value).ownBlock) u410001 x410001_2 x410002_2 (fun k_ => some k_ = (u410003 : Value).ownBlock) u410003 x410003_2 x410004_2 (fun k_ => some k_ = (u410005 : Value).ownBlock) u410005 x410005_2 x410006_2 (fun k_ => some k_ = (u410007 : Value).ownBlock) u410007 x410007_2 x11_2 t430 t431 t432 t435 t436 t439 t440 t443 t444 w _ ?side1 ?side2 ?side3 ?side4 ?side5 ?side6 ?side7 ?side8 ?side9 ?side10 ?side11 ?side12 ?side13 ?side14 ?side15 ?side16 ?side17 ?side18 ?side19 A18.out).mono ?_
             (case side1 => exact by (with_reducible repeat first | refine blk_drewN ?_ _ | refine blk_drew ?_ | refine blk_alloc ?_ _); exact BK409.out)
             (case side2 => exact GE409.out)
             (case side3 => repeat (first | (with_reducible first | exact HB.out | apply below_alloc | apply pw_below_drewN | apply below_drew1 | refine below_set ?_ GE409.out | refine below_set ?_ GE427.out | refine below_set ?_ GE428.out | refine below_set ?_ GE429.out) | exact HB.out))
             (case side4 => exact Kd.R_tight rfl HO_410001.out)
             (case side5 => exact fun k_ e_ => (HO_410001.out.1 k_ e_.symm).1)
             (case side6 => exact fun k_ e_ => (HO_410001.out.1 k_ e_.symm).2.1)
             (case side7 => exact fun k_ e_ => (HO_410001.out.1 k_ e_.symm).2.2)
             (case side8 => exact Kd.R_tight rfl HO_410003.out)
             (case side9 => exact fun k_ e_ => (HO_410003.out.1 k_ e_.symm).1)
             (case side10 => exact fun k_ e_ => (HO_410003.out.1 k_ e_.symm).2.1)
             (case side11 => exact fun k_ e_ => (HO_410003.out.1 k_ e_.symm).2.2)
             (case side12 => exact Kd.R_tight rfl HO_410005.out)
             (case side13 => exact fun k_ e_ => (HO_410005.out.1 k_ e_.symm).1)
             (case side14 => exact fun k_ e_ => (HO_410005.out.1 k_ e_.symm).2.1)
             (case side15 => exact fun k_ e_ => (HO_410005.out.1 k_ e_.symm).2.2)
             (case side16 => exact Kd.R_tight rfl HO_410007.out)
             (case side17 => exact fun k_ e_ => (HO_410007.out.1 k_ e_.symm).1)
             (case side18 => exact fun k_ e_ => (HO_410007.out.1 k_ e_.symm).2.1)
             (case side19 => exact fun k_ e_ => (HO_410007.out.1 k_ e_.symm).2.2)
             rintro e w34 ⟨v433, v437, v441, v445, rfl, ho0, ho1, ho2, ho3, hi, hb, hkp⟩
             refine ⟨_, rfl, ?_⟩
             have n0_ := Goto.m0 (hi)
             have n1_ := Goto.m0 (blk_kept (Goto.bx BK427) hkp (fun hs_ => Or.elim hs_ (fun hs_ => Or.elim hs_ (fun e_ => (fun e_ => (Kd.R_ne HO_410001.out BK427.out (by decide)) e_) e_) (fun e_ => Or.elim e_ (fun e_ => (fun e_ => (Kd.R_ne HO_410003.out BK427.out (by decide)) e_) e_) (fun e_ => Or.elim e_ (fun e_ => (fun e_ => (Kd.R_ne HO_410005.out BK427.out (by decide)) e_) e_) (fun e_ => (fun e_ => (Kd.R_ne HO_410007.out BK427.out (by decide)) e_) e_)))) (fun e_ => NB427_409.out e_)))
             have n2_ := Goto.m0 (blk_kept (Goto.bx BK428) hkp (fun hs_ => Or.elim hs_ (fun hs_ => Or.elim hs_ (fun e_ => (fun e_ => (Kd.R_ne HO_410001.out BK428.out (by decide)) e_) e_) (fun e_ => Or.elim e_ (fun e_ => (fun e_ => (Kd.R_ne HO_410003.out BK428.out (by decide)) e_) e_) (fun e_ => Or.elim e_ (fun e_ => (fun e_ => (Kd.R_ne HO_410005.out BK428.out (by decide)) e_) e_) (fun e_ => (fun e_ => (Kd.R_ne HO_410007.out BK428.out (by decide)) e_) e_)))) (fun e_ => NB428_409.out e_)))
             have n3_ := Goto.m0 (blk_kept (Goto.bx BK429) hkp (fun hs_ => Or.elim hs_ (fun hs_ => Or.elim hs_ (fun e_ => (fun e_ => (Kd.R_ne HO_410001.out BK429.out (by decide)) e_) e_) (fun e_ => Or.elim e_ (fun e_ => (fun e_ => (Kd.R_ne HO_410003.out BK429.out (by decide)) e_) e_) (fun e_ => Or.elim e_ (fun e_ => (fun e_ => (Kd.R_ne HO_410005.out BK429.out (by decide)) e_) e_) (fun e_ => (fun e_ => (Kd.R_ne HO_410007.out BK429.out (by decide)) e_) e_)))) (fun e_ => NB429_409.out e_)))
             have n4_ := Goto.m0 (Kd.R_mono (ok' := fun k_ => some k_ ≠ (v437 : Value).ownBlock ∧ some k_ ≠ (v441 : Value).ownBlock ∧ some k_ ≠ (v445 : Value).ownBlock) ho0 (fun k_ hk_ => ⟨hk_.2.1, hk_.2.2.1, hk_.2.2.2⟩))
             have n5_ := Goto.m0 (Kd.R_mono (ok' := fun k_ => some k_ ≠ (v433 : Value).ownBlock ∧ some k_ ≠ (v441 : Value).ownBlock ∧ some k_ ≠ (v445 : Value).ownBlock) ho1 (fun k_ hk_ => ⟨hk_.2.1, hk_.2.2.1, hk_.2.2.2⟩))
             have n6_ := Goto.m0 (Kd.R_mono (ok' := fun k_ => some k_ ≠ (v433 : Value).ownBlock ∧ some k_ ≠ (v437 : Value).ownBlock ∧ some k_ ≠ (v445 : Value).ownBlock) ho2 (fun k_ hk_ => ⟨hk_.2.1, hk_.2.2.1, hk_.2.2.2⟩))
             have n7_ := Goto.m0 (Kd.R_mono (ok' := fun k_ => some k_ ≠ (v433 : Value).ownBlock ∧ some k_ ≠ (v437 : Value).ownBlock ∧ some k_ ≠ (v441 : Value).ownBlock) ho3 (fun k_ hk_ => ⟨hk_.2.1, hk_.2.2.1, hk_.2.2.2⟩))
             have n8_ := Goto.m0 (hb)
             clear BK409; clear BK427; clear BK428; clear BK429; clear HB; clear HO_410001; clear HO_410003; clear HO_410005; clear HO_410007; have BK409 := n0_; have BK427 := n1_; have BK428 := n2_; have BK429 := n3_; have HO434 := n4_; have HO438 := n5_; have HO442 := n6_; have HO446 := n7_; have HB := n8_; clear n0_ n1_ n2_ n3_ n4_ n5_ n6_ n7_ n8_
             (try clear hb)
             (try clear hkp)
             (try clear ho0)
             (try clear ho1)
             (try clear ho2)
             (try clear ho3)
             refine hK.out _ _ trivial (fun hHeld => ?_)
             clear hK K
             refine norm_ (a' := ?_) ?_ ?_
             rotate_left
             ·
              show Act.put _ (some 40) _ = _
              exact Goto.ap
             refine Goto.pu 9 45 13 639 ?_
             refine one_ (i := 7) (N := some 43) (Goto.bs 13 767) rfl rfl (one_of HT_.out (by kernel_rfl)) (by decide) (fun K hK => ?_)
             refine goes_ Try.func25 (by kernel_rfl) rfl #[.pointer (some ⟨gb409, 0, none⟩), .int .i64 x11_2] (by rfl) rfl rfl (by (try simp only [List.map_toArray, List.map_cons, List.map_nil]); first | done | rfl | (simp only [List.length_drop, List.length_take]; rfl)) ?_
             with_reducible refine (object_Objects_Row.calls gb409 t431 (fun k_ => some k_ = (v433 : Value).ownBlock) v433 t432 t435 (fun k_ => some k_ = (v437 : Value).ownBlock) v437 t436 t439 (fun k_ => some k_ = (v441 : Value).ownBlock) v441 t440 t443 (fun k_ => some k_ = (v445 : Value).ownBlock) v445 t444 x11_2 t447 t450 t451 t454 t455 t458 t459 t462 t463 w _ ?side1 ?side2 ?side3 ?side4 ?side5 ?side6 ?side7 ?side8 ?side9 ?side10 ?side11 ?side12 ?side13 ?side14 ?side15 ?side16 ?side17 ?side18 ?side19 A19.out).mono ?_
             (case side1 => exact by (with_reducible repeat first | refine blk_drewN ?_ _ | refine blk_drew ?_ | refine blk_alloc ?_ _); exact BK409.out)
             (case side2 => exact GE409.out)
             (case side3 => repeat (first | (with_reducible first | exact HB.out | apply below_alloc | apply pw_below_drewN | apply below_drew1 | refine below_set ?_ GE409.out | refine below_set ?_ GE427.out | refine below_set ?_ GE428.out | refine below_set ?_ GE429.out) | exact HB.out))
             (case side4 => exact Kd.R_tight rfl HO434.out)
             (case side5 => exact fun k_ e_ => (HO434.out.1 k_ e_.symm).1)
             (case side6 => exact fun k_ e_ => (HO434.out.1 k_ e_.symm).2.1)
             (case side7 => exact fun k_ e_ => (HO434.out.1 k_ e_.symm).2.2)
             (case side8 => exact Kd.R_tight rfl HO438.out)
             (case side9 => exact fun k_ e_ => (HO438.out.1 k_ e_.symm).1)
             (case side10 => exact fun k_ e_ => (HO438.out.1 k_ e_.symm).2.1)
             (case side11 => exact fun k_ e_ => (HO438.out.1 k_ e_.symm).2.2)
             (case side12 => exact Kd.R_tight rfl HO442.out)
             (case side13 => exact fun k_ e_ => (HO442.out.1 k_ e_.symm).1)
             (case side14 => exact fun k_ e_ => (HO442.out.1 k_ e_.symm).2.1)
             (case side15 => exact fun k_ e_ => (HO442.out.1 k_ e_.symm).2.2)
             (case side16 => exact Kd.R_tight rfl HO446.out)
             (case side17 => exact fun k_ e_ => (HO446.out.1 k_ e_.symm).1)
             (case side18 => exact fun k_ e_ => (HO446.out.1 k_ e_.symm).2.1)
             (case side19 => exact fun k_ e_ => (HO446.out.1 k_ e_.symm).2.2)
             rintro e w35 ⟨v448, v452, v456, v460, v464, rfl, ho0, ho1, ho2, ho3, ho4, hi, hb, hkp⟩
             refine ⟨_, rfl, ?_⟩
             have n0_ := Goto.m0 (hi)
             have n1_ := Goto.m0 (blk_kept (Goto.bx BK427) hkp (fun hs_ => Or.elim hs_ (fun hs_ => Or.elim hs_ (fun e_ => (fun e_ => (Kd.R_ne HO434.out BK427.out (by decide)) e_) e_) (fun e_ => Or.elim e_ (fun e_ => (fun e_ => (Kd.R_ne HO438.out BK427.out (by decide)) e_) e_) (fun e_ => Or.elim e_ (fun e_ => (fun e_ => (Kd.R_ne HO442.out BK427.out (by decide)) e_) e_) (fun e_ => (fun e_ => (Kd.R_ne HO446.out BK427.out (by decide)) e_) e_)))) (fun e_ => NB427_409.out e_)))
             have n2_ := Goto.m0 (blk_kept (Goto.bx BK428) hkp (fun hs_ => Or.elim hs_ (fun hs_ => Or.elim hs_ (fun e_ => (fun e_ => (Kd.R_ne HO434.out BK428.out (by decide)) e_) e_) (fun e_ => Or.elim e_ (fun e_ => (fun e_ => (Kd.R_ne HO438.out BK428.out (by decide)) e_) e_) (fun e_ => Or.elim e_ (fun e_ => (fun e_ => (Kd.R_ne HO442.out BK428.out (by decide)) e_) e_) (fun e_ => (fun e_ => (Kd.R_ne HO446.out BK428.out (by decide)) e_) e_)))) (fun e_ => NB428_409.out e_)))
             have n3_ := Goto.m0 (blk_kept (Goto.bx BK429) hkp (fun hs_ => Or.elim hs_ (fun hs_ => Or.elim hs_ (fun e_ => (fun e_ => (Kd.R_ne HO434.out BK429.out (by decide)) e_) e_) (fun e_ => Or.elim e_ (fun e_ => (fun e_ => (Kd.R_ne HO438.out BK429.out (by decide)) e_) e_) (fun e_ => Or.elim e_ (fun e_ => (fun e_ => (Kd.R_ne HO442.out BK429.out (by decide)) e_) e_) (fun e_ => (fun e_ => (Kd.R_ne HO446.out BK429.out (by decide)) e_) e_)))) (fun e_ => NB429_409.out e_)))
             have n4_ := Goto.m0 (Kd.R_mono (ok' := fun k_ => some k_ ≠ (v452 : Value).ownBlock ∧ some k_ ≠ (v456 : Value).ownBlock ∧ some k_ ≠ (v460 : Value).ownBlock ∧ some k_ ≠ (v464 : Value).ownBlock) ho0 (fun k_ hk_ => ⟨hk_.2.1, hk_.2.2.1, hk_.2.2.2.1, hk_.2.2.2.2⟩))
             have n5_ := Goto.m0 (Kd.R_mono (ok' := fun k_ => some k_ ≠ (v448 : Value).ownBlock ∧ some k_ ≠ (v456 : Value).ownBlock ∧ some k_ ≠ (v460 : Value).ownBlock ∧ some k_ ≠ (v464 : Value).ownBlock) ho1 (fun k_ hk_ => ⟨hk_.2.1, hk_.2.2.1, hk_.2.2.2.1, hk_.2.2.2.2⟩))
             have n6_ := Goto.m0 (Kd.R_mono (ok' := fun k_ => some k_ ≠ (v448 : Value).ownBlock ∧ some k_ ≠ (v452 : Value).ownBlock ∧ some k_ ≠ (v460 : Value).ownBlock ∧ some k_ ≠ (v464 : Value).ownBlock) ho2 (fun k_ hk_ => ⟨hk_.2.1, hk_.2.2.1, hk_.2.2.2.1, hk_.2.2.2.2⟩))
             have n7_ := Goto.m0 (Kd.R_mono (ok' := fun k_ => some k_ ≠ (v448 : Value).ownBlock ∧ some k_ ≠ (v452 : Value).ownBlock ∧ some k_ ≠ (v456 : Value).ownBlock ∧ some k_ ≠ (v464 : Value).ownBlock) ho3 (fun k_ hk_ => ⟨hk_.2.1, hk_.2.2.1, hk_.2.2.2.1, hk_.2.2.2.2⟩))
             have n8_ := Goto.m0 (Kd.R_mono (ok' := fun k_ => some k_ ≠ (v448 : Value).ownBlock ∧ some k_ ≠ (v452 : Value).ownBlock ∧ some k_ ≠ (v456 : Value).ownBlock ∧ some k_ ≠ (v460 : Value).ownBlock) ho4 (fun k_ hk_ => ⟨hk_.2.1, hk_.2.2.1, hk_.2.2.2.1, hk_.2.2.2.2⟩))
             have n9_ := Goto.m0 (hb)
             clear BK409; clear BK427; clear BK428; clear BK429; clear HB; clear HO434; clear HO438; clear HO442; clear HO446; have BK409 := n0_; have BK427 := n1_; have BK428 := n2_; have BK429 := n3_; have HO449 := n4_; have HO453 := n5_; have HO457 := n6_; have HO461 := n7_; have HO465 := n8_; have HB := n9_; clear n0_ n1_ n2_ n3_ n4_ n5_ n6_ n7_ n8_ n9_
             (try clear hb)
             (try clear hkp)
             (try clear ho0)
             (try clear ho1)
             (try clear ho2)
             (try clear ho3)
             (try clear ho4)
             obtain ⟨Ao36, co36, eo36⟩ := Kd.R_slice HO449.out
             (first | subst eo36 | (injection eo36 with f1_ f2_ f3_; have f4_ := f1_.symm; have f5_ := f3_.symm; clear f1_ f2_ f3_; subst f4_; subst f5_))
             refine hK.out _ _ trivial (fun hHeld => ?_)
             clear hK K
             refine norm_ (a' := ?_) ?_ ?_
             rotate_left
             ·
              show Act.put _ (some 43) _ = _
              exact Goto.ap
             refine Goto.pu 8 44 13 1023 ?_
             refine one_ (i := 10) (N := none) (Goto.bs 13 2047) rfl rfl (one_of HT_.out (by kernel_rfl)) (by decide) (fun K hK => ?_)
             have hs37 : w35.cell? ⟨gb428, 1, none⟩ = some (.int .i64 x429001_2) := (blk_cell BK428.out 1).trans rfl; have hfs37 := Goto.bf BK428 1; have hns37_0 := NB409_428.out; have hns37_1 := NB427_428.out; have hns37_3 := NB429_428.out; have hms37_0 := NB428_409.out; have hms37_1 := NB428_427.out; have hms37_3 := NB428_429.out
             refine skip_ (w1 := ?_) (by rfl) rfl ?_ ?_
             rotate_left
             ·
              go_simp
              rfl
             refine hK.out _ _ trivial (fun hHeld => ?_)
             clear hK K
             refine Goto.pu 11 46 13 4095 ?_
             refine one_ (i := 12) (N := none) (Goto.bs 13 8191) rfl rfl (one_of HT_.out (by kernel_rfl)) (by decide) (fun K hK => ?_)
             have hs38 : w35.cell? ⟨gb429, 1, none⟩ = some (.int .i64 x430001_2) := (blk_cell BK429.out 1).trans rfl; have hfs38 := Goto.bf BK429 1; have hns38_0 := NB409_429.out; have hns38_1 := NB427_429.out; have hns38_2 := NB428_429.out; have hms38_0 := NB429_409.out; have hms38_1 := NB429_427.out; have hms38_2 := NB429_428.out
             refine skip_ (w1 := ?_) (by rfl) rfl ?_ ?_
             rotate_left
             ·
              go_simp
              rfl
             refine hK.out _ _ trivial (fun hHeld => ?_)
             clear hK K
             refine done_ (done_of HT_.out (by kernel_rfl)) ?_
             try go_wp2
             go_roundg k2
             case measure => have := HK1.out; have := HK2.out; omega
             case rel => exact ⟨(wrap64 (x11_2 + 1)), (t450), (t451), (t454), (t455), (t458), (t459), (t462), (t463), (x429000_2), (t430), (x429002_2), (x429003_2), (x430000_2), ((t447.length : Int)), (x430002_2), (x430003_2), (v452), (v456), (v460), (v464), (by first | rfl | (simp; done) | (simp [*]; done) | (congr 1; unfold wrap64; omega)), H', ⟨by have := HK1.out; have := HK2.out; omega⟩, ⟨by (with_reducible repeat (first | apply Kd.R_alloc | apply Kd.R_drewN | apply Kd.R_drew)); exact Kd.R_mono (Kd.R_far (p := ⟨gb429, 1, none⟩) (Kd.R_far (p := ⟨gb428, 1, none⟩) (Kd.R_types (Kd.R_types HO453.out BK428.out (by decide)) BK429.out (by decide)) (fun _ hk => hk.1.2) (.int .i64 t430)) (fun _ hk => hk.2) (.int .i64 (t447.length : Int))) (fun _ hk => ⟨hk.1.1.2.1, ⟨hk.1.1.2.2.1, hk.1.1.2.2.2⟩⟩)⟩, ⟨by (with_reducible repeat (first | apply Kd.R_alloc | apply Kd.R_drewN | apply Kd.R_drew)); exact Kd.R_mono (Kd.R_far (p := ⟨gb429, 1, none⟩) (Kd.R_far (p := ⟨gb428, 1, none⟩) (Kd.R_types (Kd.R_types HO457.out BK428.out (by decide)) BK429.out (by decide)) (fun _ hk => hk.1.2) (.int .i64 t430)) (fun _ hk => hk.2) (.int .i64 (t447.length : Int))) (fun _ hk => ⟨hk.1.1.2.1, ⟨hk.1.1.2.2.1, hk.1.1.2.2.2⟩⟩)⟩, ⟨by (with_reducible repeat (first | apply Kd.R_alloc | apply Kd.R_drewN | apply Kd.R_drew)); exact Kd.R_mono (Kd.R_far (p := ⟨gb429, 1, none⟩) (Kd.R_far (p := ⟨gb428, 1, none⟩) (Kd.R_types (Kd.R_types HO461.out BK428.out (by decide)) BK429.out (by decide)) (fun _ hk => hk.1.2) (.int .i64 t430)) (fun _ hk => hk.2) (.int .i64 (t447.length : Int))) (fun _ hk => ⟨hk.1.1.2.1, ⟨hk.1.1.2.2.1, hk.1.1.2.2.2⟩⟩)⟩, ⟨by (with_reducible repeat (first | apply Kd.R_alloc | apply Kd.R_drewN | apply Kd.R_drew)); exact Kd.R_mono (Kd.R_far (p := ⟨gb429, 1, none⟩) (Kd.R_far (p := ⟨gb428, 1, none⟩) (Kd.R_types (Kd.R_types HO465.out BK428.out (by decide)) BK429.out (by decide)) (fun _ hk => hk.1.2) (.int .i64 t430)) (fun _ hk => hk.2) (.int .i64 (t447.length : Int))) (fun _ hk => ⟨hk.1.1.2.1, ⟨hk.1.1.2.2.1, hk.1.1.2.2.2⟩⟩)⟩, ⟨Goto.bx BK409⟩, ⟨Goto.bx BK427⟩, ⟨Goto.bx BK428⟩, ⟨Goto.bx BK429⟩, ⟨Goto.hx HB⟩⟩
            ·
             rw [if_neg c30] at H
             have c30b0 : (x11_2 == 1) = false := beq_eq_false_iff_ne.mpr c30
             have c30b1 : (x11_2 != 1) = true := bne_iff_ne.mpr c30
             by_cases c39 : x11_2 = 2
             ·
              rw [if_pos c39] at H
              have c39b0 : (x11_2 == 2) = true := beq_iff_eq.mpr c39
              have c39b1 : (x11_2 != 2) = false := bne_eq_false_iff_eq.mpr c39
              clear c39
              have hix40e : x11_2 = 2 := eq_of_beq (by first | (with_reducible assumption) | assumption)
              have hix40 : (x11_2).toNat = 2 := by rw [hix40e]; rfl
              have hix40c : (0 ≤ x11_2 ∧ x11_2 < (4 : Int)) = True := eq_true (by rw [hix40e]; decide)
              clear hix40e
              have hix41e : x11_2 = 2 := eq_of_beq (by first | (with_reducible assumption) | assumption)
              have hix41 : (x11_2).toNat = 2 := by rw [hix41e]; rfl
              have hix41c : (0 ≤ x11_2 ∧ x11_2 < (4 : Int)) = True := eq_true (by rw [hix41e]; decide)
              clear hix41e
              have H' := Goto.m0 H
              clear H
              try go_wp2
              replace HO_410001 := Goto.m0 (Kd.R_drew HO_410001.out); replace HO_410003 := Goto.m0 (Kd.R_drew HO_410003.out); replace HO_410005 := Goto.m0 (Kd.R_drew HO_410005.out); replace HO_410007 := Goto.m0 (Kd.R_drew HO_410007.out); replace BK409 := Goto.m0 (blk_drew BK409.out); replace BK427 := Goto.m0 (blk_drew BK427.out); replace BK428 := Goto.m0 (blk_drew BK428.out); replace BK429 := Goto.m0 (blk_drew BK429.out); replace HB := Goto.m0 (below_drew1 HB.out)
              refine start_ (n := 13) (S := fun w' => True) (ds := []) (.replicate 13 false) (by kernel_rfl) rfl rfl trivial (fun hHeld => ?_); refine with_tabW tontinelaw9_ObjectApart.tab16 tontinelaw9_ObjectApart.bits16 (fun HT_ HW_ => ?_)
              generalize wr.drew = w42 at HO_410001 HO_410003 HO_410005 HO_410007 BK409 BK427 BK428 BK429 HB hHeld ⊢
              refine Goto.pu 0 36 13 1 ?_
              refine Goto.pu 1 37 13 3 ?_
              refine Goto.pu 2 38 13 7 ?_
              refine Goto.pu 3 39 13 15 ?_
              refine Goto.pu 5 41 13 47 ?_
              refine Goto.pu 6 42 13 111 ?_
              refine one_ (i := 4) (N := some 40) (Goto.bs 13 127) rfl rfl (one_of HT_.out (by kernel_rfl)) (by decide) (fun K hK => ?_)
              refine goes_ Try.func24 (by kernel_rfl) rfl #[.pointer (some ⟨gb409, 0, none⟩), .int .i64 x11_2] (by rfl) rfl rfl (by (try simp only [List.map_toArray, List.map_cons, List.map_nil]); first | done | rfl | (simp only [List.length_drop, List.length_take]; rfl)) ?_
              with_reducible refine (object_Objects_Count.calls gb409 x410000_2 (fun k_ => some k_ = (u410001 : Value).ownBlock) u410001 x410001_2 x410002_2 (fun k_ => some k_ = (u410003 : Value).ownBlock) u410003 x410003_2 x410004_2 (fun k_ => some k_ = (u410005 : Value).ownBlock) u410005 x410005_2 x410006_2 (fun k_ => some k_ = (u410007 : Value).ownBlock) u410007 x410007_2 x11_2 t430 t431 t432 t435 t436 t439 t440 t443 t444 w _ ?side1 ?side2 ?side3 ?side4 ?side5 ?side6 ?side7 ?side8 ?side9 ?side10 ?side11 ?side12 ?side13 ?side14 ?side15 ?side16 ?side17 ?side18 ?side19 A18.out).mono ?_
              (case side1 => exact by (with_reducible repeat first | refine blk_drewN ?_ _ | refine blk_drew ?_ | refine blk_alloc ?_ _); exact BK409.out)
              (case side2 => exact GE409.out)
              (case side3 => repeat (first | (with_reducible first | exact HB.out | apply below_alloc | apply pw_below_drewN | apply below_drew1 | refine below_set ?_ GE409.out | refine below_set ?_ GE427.out | refine below_set ?_ GE428.out | refine below_set ?_ GE429.out) | exact HB.out))
              (case side4 => exact Kd.R_tight rfl HO_410001.out)
              (case side5 => exact fun k_ e_ => (HO_410001.out.1 k_ e_.symm).1)
              (case side6 => exact fun k_ e_ => (HO_410001.out.1 k_ e_.symm).2.1)
              (case side7 => exact fun k_ e_ => (HO_410001.out.1 k_ e_.symm).2.2)
              (case side8 => exact Kd.R_tight rfl HO_410003.out)
              (case side9 => exact fun k_ e_ => (HO_410003.out.1 k_ e_.symm).1)
              (case side10 => exact fun k_ e_ => (HO_410003.out.1 k_ e_.symm).2.1)
              (case side11 => exact fun k_ e_ => (HO_410003.out.1 k_ e_.symm).2.2)
              (case side12 => exact Kd.R_tight rfl HO_410005.out)
              (case side13 => exact fun k_ e_ => (HO_410005.out.1 k_ e_.symm).1)
              (case side14 => exact fun k_ e_ => (HO_410005.out.1 k_ e_.symm).2.1)
              (case side15 => exact fun k_ e_ => (HO_410005.out.1 k_ e_.symm).2.2)
              (case side16 => exact Kd.R_tight rfl HO_410007.out)
              (case side17 => exact fun k_ e_ => (HO_410007.out.1 k_ e_.symm).1)
              (case side18 => exact fun k_ e_ => (HO_410007.out.1 k_ e_.symm).2.1)
              (case side19 => exact fun k_ e_ => (HO_410007.out.1 k_ e_.symm).2.2)
              rintro e w43 ⟨v433, v437, v441, v445, rfl, ho0, ho1, ho2, ho3, hi, hb, hkp⟩
              refine ⟨_, rfl, ?_⟩
              have n0_ := Goto.m0 (hi)
              have n1_ := Goto.m0 (blk_kept (Goto.bx BK427) hkp (fun hs_ => Or.elim hs_ (fun hs_ => Or.elim hs_ (fun e_ => (fun e_ => (Kd.R_ne HO_410001.out BK427.out (by decide)) e_) e_) (fun e_ => Or.elim e_ (fun e_ => (fun e_ => (Kd.R_ne HO_410003.out BK427.out (by decide)) e_) e_) (fun e_ => Or.elim e_ (fun e_ => (fun e_ => (Kd.R_ne HO_410005.out BK427.out (by decide)) e_) e_) (fun e_ => (fun e_ => (Kd.R_ne HO_410007.out BK427.out (by decide)) e_) e_)))) (fun e_ => NB427_409.out e_)))
              have n2_ := Goto.m0 (blk_kept (Goto.bx BK428) hkp (fun hs_ => Or.elim hs_ (fun hs_ => Or.elim hs_ (fun e_ => (fun e_ => (Kd.R_ne HO_410001.out BK428.out (by decide)) e_) e_) (fun e_ => Or.elim e_ (fun e_ => (fun e_ => (Kd.R_ne HO_410003.out BK428.out (by decide)) e_) e_) (fun e_ => Or.elim e_ (fun e_ => (fun e_ => (Kd.R_ne HO_410005.out BK428.out (by decide)) e_) e_) (fun e_ => (fun e_ => (Kd.R_ne HO_410007.out BK428.out (by decide)) e_) e_)))) (fun e_ => NB428_409.out e_)))
              have n3_ := Goto.m0 (blk_kept (Goto.bx BK429) hkp (fun hs_ => Or.elim hs_ (fun hs_ => Or.elim hs_ (fun e_ => (fun e_ => (Kd.R_ne HO_410001.out BK429.out (by decide)) e_) e_) (fun e_ => Or.elim e_ (fun e_ => (fun e_ => (Kd.R_ne HO_410003.out BK429.out (by decide)) e_) e_) (fun e_ => Or.elim e_ (fun e_ => (fun e_ => (Kd.R_ne HO_410005.out BK429.out (by decide)) e_) e_) (fun e_ => (fun e_ => (Kd.R_ne HO_410007.out BK429.out (by decide)) e_) e_)))) (fun e_ => NB429_409.out e_)))
              have n4_ := Goto.m0 (Kd.R_mono (ok' := fun k_ => some k_ ≠ (v437 : Value).ownBlock ∧ some k_ ≠ (v441 : Value).ownBlock ∧ some k_ ≠ (v445 : Value).ownBlock) ho0 (fun k_ hk_ => ⟨hk_.2.1, hk_.2.2.1, hk_.2.2.2⟩))
              have n5_ := Goto.m0 (Kd.R_mono (ok' := fun k_ => some k_ ≠ (v433 : Value).ownBlock ∧ some k_ ≠ (v441 : Value).ownBlock ∧ some k_ ≠ (v445 : Value).ownBlock) ho1 (fun k_ hk_ => ⟨hk_.2.1, hk_.2.2.1, hk_.2.2.2⟩))
              have n6_ := Goto.m0 (Kd.R_mono (ok' := fun k_ => some k_ ≠ (v433 : Value).ownBlock ∧ some k_ ≠ (v437 : Value).ownBlock ∧ some k_ ≠ (v445 : Value).ownBlock) ho2 (fun k_ hk_ => ⟨hk_.2.1, hk_.2.2.1, hk_.2.2.2⟩))
              have n7_ := Goto.m0 (Kd.R_mono (ok' := fun k_ => some k_ ≠ (v433 : Value).ownBlock ∧ some k_ ≠ (v437 : Value).ownBlock ∧ some k_ ≠ (v441 : Value).ownBlock) ho3 (fun k_ hk_ => ⟨hk_.2.1, hk_.2.2.1, hk_.2.2.2⟩))
              have n8_ := Goto.m0 (hb)
              clear BK409; clear BK427; clear BK428; clear BK429; clear HB; clear HO_410001; clear HO_410003; clear HO_410005; clear HO_410007; have BK409 := n0_; have BK427 := n1_; have BK428 := n2_; have BK429 := n3_; have HO434 := n4_; have HO438 := n5_; have HO442 := n6_; have HO446 := n7_; have HB := n8_; clear n0_ n1_ n2_ n3_ n4_ n5_ n6_ n7_ n8_
              (try clear hb)
              (try clear hkp)
              (try clear ho0)
              (try clear ho1)
              (try clear ho2)
              (try clear ho3)
              refine hK.out _ _ trivial (fun hHeld => ?_)
              clear hK K
              refine norm_ (a' := ?_) ?_ ?_
              rotate_left
              ·
               show Act.put _ (some 40) _ = _
               exact Goto.ap
              refine Goto.pu 9 45 13 639 ?_
              refine one_ (i := 7) (N := some 43) (Goto.bs 13 767) rfl rfl (one_of HT_.out (by kernel_rfl)) (by decide) (fun K hK => ?_)
              refine goes_ Try.func25 (by kernel_rfl) rfl #[.pointer (some ⟨gb409, 0, none⟩), .int .i64 x11_2] (by rfl) rfl rfl (by (try simp only [List.map_toArray, List.map_cons, List.map_nil]); first | done | rfl | (simp only [List.length_drop, List.length_take]; rfl)) ?_
              with_reducible refine (object_Objects_Row.calls gb409 t431 (fun k_ => some k_ = (v433 : Value).ownBlock) v433 t432 t435 (fun k_ => some k_ = (v437 : Value).ownBlock) v437 t436 t439 (fun k_ => some k_ = (v441 : Value).ownBlock) v441 t440 t443 (fun k_ => some k_ = (v445 : Value).ownBlock) v445 t444 x11_2 t447 t450 t451 t454 t455 t458 t459 t462 t463 w _ ?side1 ?side2 ?side3 ?side4 ?side5 ?side6 ?side7 ?side8 ?side9 ?side10 ?side11 ?side12 ?side13 ?side14 ?side15 ?side16 ?side17 ?side18 ?side19 A19.out).mono ?_
              (case side1 => exact by (with_reducible repeat first | refine blk_drewN ?_ _ | refine blk_drew ?_ | refine blk_alloc ?_ _); exact BK409.out)
              (case side2 => exact GE409.out)
              (case side3 => repeat (first | (with_reducible first | exact HB.out | apply below_alloc | apply pw_below_drewN | apply below_drew1 | refine below_set ?_ GE409.out | refine below_set ?_ GE427.out | refine below_set ?_ GE428.out | refine below_set ?_ GE429.out) | exact HB.out))
              (case side4 => exact Kd.R_tight rfl HO434.out)
              (case side5 => exact fun k_ e_ => (HO434.out.1 k_ e_.symm).1)
              (case side6 => exact fun k_ e_ => (HO434.out.1 k_ e_.symm).2.1)
              (case side7 => exact fun k_ e_ => (HO434.out.1 k_ e_.symm).2.2)
              (case side8 => exact Kd.R_tight rfl HO438.out)
              (case side9 => exact fun k_ e_ => (HO438.out.1 k_ e_.symm).1)
              (case side10 => exact fun k_ e_ => (HO438.out.1 k_ e_.symm).2.1)
              (case side11 => exact fun k_ e_ => (HO438.out.1 k_ e_.symm).2.2)
              (case side12 => exact Kd.R_tight rfl HO442.out)
              (case side13 => exact fun k_ e_ => (HO442.out.1 k_ e_.symm).1)
              (case side14 => exact fun k_ e_ => (HO442.out.1 k_ e_.symm).2.1)
              (case side15 => exact fun k_ e_ => (HO442.out.1 k_ e_.symm).2.2)
              (case side16 => exact Kd.R_tight rfl HO446.out)
              (case side17 => exact fun k_ e_ => (HO446.out.1 k_ e_.symm).1)
              (case side18 => exact fun k_ e_ => (HO446.out.1 k_ e_.symm).2.1)
              (case side19 => exact fun k_ e_ => (HO446.out.1 k_ e_.symm).2.2)
              rintro e w44 ⟨v448, v452, v456, v460, v464, rfl, ho0, ho1, ho2, ho3, ho4, hi, hb, hkp⟩
              refine ⟨_, rfl, ?_⟩
              have n0_ := Goto.m0 (hi)
              have n1_ := Goto.m0 (blk_kept (Goto.bx BK427) hkp (fun hs_ => Or.elim hs_ (fun hs_ => Or.elim hs_ (fun e_ => (fun e_ => (Kd.R_ne HO434.out BK427.out (by decide)) e_) e_) (fun e_ => Or.elim e_ (fun e_ => (fun e_ => (Kd.R_ne HO438.out BK427.out (by decide)) e_) e_) (fun e_ => Or.elim e_ (fun e_ => (fun e_ => (Kd.R_ne HO442.out BK427.out (by decide)) e_) e_) (fun e_ => (fun e_ => (Kd.R_ne HO446.out BK427.out (by decide)) e_) e_)))) (fun e_ => NB427_409.out e_)))
              have n2_ := Goto.m0 (blk_kept (Goto.bx BK428) hkp (fun hs_ => Or.elim hs_ (fun hs_ => Or.elim hs_ (fun e_ => (fun e_ => (Kd.R_ne HO434.out BK428.out (by decide)) e_) e_) (fun e_ => Or.elim e_ (fun e_ => (fun e_ => (Kd.R_ne HO438.out BK428.out (by decide)) e_) e_) (fun e_ => Or.elim e_ (fun e_ => (fun e_ => (Kd.R_ne HO442.out BK428.out (by decide)) e_) e_) (fun e_ => (fun e_ => (Kd.R_ne HO446.out BK428.out (by decide)) e_) e_)))) (fun e_ => NB428_409.out e_)))
              have n3_ := Goto.m0 (blk_kept (Goto.bx BK429) hkp (fun hs_ => Or.elim hs_ (fun hs_ => Or.elim hs_ (fun e_ => (fun e_ => (Kd.R_ne HO434.out BK429.out (by decide)) e_) e_) (fun e_ => Or.elim e_ (fun e_ => (fun e_ => (Kd.R_ne HO438.out BK429.out (by decide)) e_) e_) (fun e_ => Or.elim e_ (fun e_ => (fun e_ => (Kd.R_ne HO442.out BK429.out (by decide)) e_) e_) (fun e_ => (fun e_ => (Kd.R_ne HO446.out BK429.out (by decide)) e_) e_)))) (fun e_ => NB429_409.out e_)))
              have n4_ := Goto.m0 (Kd.R_mono (ok' := fun k_ => some k_ ≠ (v452 : Value).ownBlock ∧ some k_ ≠ (v456 : Value).ownBlock ∧ some k_ ≠ (v460 : Value).ownBlock ∧ some k_ ≠ (v464 : Value).ownBlock) ho0 (fun k_ hk_ => ⟨hk_.2.1, hk_.2.2.1, hk_.2.2.2.1, hk_.2.2.2.2⟩))
              have n5_ := Goto.m0 (Kd.R_mono (ok' := fun k_ => some k_ ≠ (v448 : Value).ownBlock ∧ some k_ ≠ (v456 : Value).ownBlock ∧ some k_ ≠ (v460 : Value).ownBlock ∧ some k_ ≠ (v464 : Value).ownBlock) ho1 (fun k_ hk_ => ⟨hk_.2.1, hk_.2.2.1, hk_.2.2.2.1, hk_.2.2.2.2⟩))
              have n6_ := Goto.m0 (Kd.R_mono (ok' := fun k_ => some k_ ≠ (v448 : Value).ownBlock ∧ some k_ ≠ (v452 : Value).ownBlock ∧ some k_ ≠ (v460 : Value).ownBlock ∧ some k_ ≠ (v464 : Value).ownBlock) ho2 (fun k_ hk_ => ⟨hk_.2.1, hk_.2.2.1, hk_.2.2.2.1, hk_.2.2.2.2⟩))
              have n7_ := Goto.m0 (Kd.R_mono (ok' := fun k_ => some k_ ≠ (v448 : Value).ownBlock ∧ some k_ ≠ (v452 : Value).ownBlock ∧ some k_ ≠ (v456 : Value).ownBlock ∧ some k_ ≠ (v464 : Value).ownBlock) ho3 (fun k_ hk_ => ⟨hk_.2.1, hk_.2.2.1, hk_.2.2.2.1, hk_.2.2.2.2⟩))
              have n8_ := Goto.m0 (Kd.R_mono (ok' := fun k_ => some k_ ≠ (v448 : Value).ownBlock ∧ some k_ ≠ (v452 : Value).ownBlock ∧ some k_ ≠ (v456 : Value).ownBlock ∧ some k_ ≠ (v460 : Value).ownBlock) ho4 (fun k_ hk_ => ⟨hk_.2.1, hk_.2.2.1, hk_.2.2.2.1, hk_.2.2.2.2⟩))
              have n9_ := Goto.m0 (hb)
              clear BK409; clear BK427; clear BK428; clear BK429; clear HB; clear HO434; clear HO438; clear HO442; clear HO446; have BK409 := n0_; have BK427 := n1_; have BK428 := n2_; have BK429 := n3_; have HO449 := n4_; have HO453 := n5_; have HO457 := n6_; have HO461 := n7_; have HO465 := n8_; have HB := n9_; clear n0_ n1_ n2_ n3_ n4_ n5_ n6_ n7_ n8_ n9_
              (try clear hb)
              (try clear hkp)
              (try clear ho0)
              (try clear ho1)
              (try clear ho2)
              (try clear ho3)
              (try clear ho4)
              obtain ⟨Ao45, co45, eo45⟩ := Kd.R_slice HO449.out
              (first | subst eo45 | (injection eo45 with f1_ f2_ f3_; have f4_ := f1_.symm; have f5_ := f3_.symm; clear f1_ f2_ f3_; subst f4_; subst f5_))
              refine hK.out _ _ trivial (fun hHeld => ?_)
              clear hK K
              refine norm_ (a' := ?_) ?_ ?_
              rotate_left
              ·
               show Act.put _ (some 43) _ = _
               exact Goto.ap
              refine Goto.pu 8 44 13 1023 ?_
              refine one_ (i := 10) (N := none) (Goto.bs 13 2047) rfl rfl (one_of HT_.out (by kernel_rfl)) (by decide) (fun K hK => ?_)
              have hs46 : w44.cell? ⟨gb428, 2, none⟩ = some (.int .i64 x429002_2) := (blk_cell BK428.out 2).trans rfl; have hfs46 := Goto.bf BK428 2; have hns46_0 := NB409_428.out; have hns46_1 := NB427_428.out; have hns46_3 := NB429_428.out; have hms46_0 := NB428_409.out; have hms46_1 := NB428_427.out; have hms46_3 := NB428_429.out
              refine skip_ (w1 := ?_) (by rfl) rfl ?_ ?_
              rotate_left
              ·
               go_simp
               rfl
              refine hK.out _ _ trivial (fun hHeld => ?_)
              clear hK K
              refine Goto.pu 11 46 13 4095 ?_
              refine one_ (i := 12) (N := none) (Goto.bs 13 8191) rfl rfl (one_of HT_.out (by kernel_rfl)) (by decide) (fun K hK => ?_)
              have hs47 : w44.cell? ⟨gb429, 2, none⟩ = some (.int .i64 x430002_2) := (blk_cell BK429.out 2).trans rfl; have hfs47 := Goto.bf BK429 2; have hns47_0 := NB409_429.out; have hns47_1 := NB427_429.out; have hns47_2 := NB428_429.out; have hms47_0 := NB429_409.out; have hms47_1 := NB429_427.out; have hms47_2 := NB429_428.out
              refine skip_ (w1 := ?_) (by rfl) rfl ?_ ?_
              rotate_left
              ·
               go_simp
               rfl
              refine hK.out _ _ trivial (fun hHeld => ?_)
              clear hK K
              refine done_ (done_of HT_.out (by kernel_rfl)) ?_
              try go_wp2
              go_roundg k2
              case measure => have := HK1.out; have := HK2.out; omega
              case rel => exact ⟨(wrap64 (x11_2 + 1)), (t450), (t451), (t454), (t455), (t458), (t459), (t462), (t463), (x429000_2), (x429001_2), (t430), (x429003_2), (x430000_2), (x430001_2), ((t447.length : Int)), (x430003_2), (v452), (v456), (v460), (v464), (by first | rfl | (simp; done) | (simp [*]; done) | (congr 1; unfold wrap64; omega)), H', ⟨by have := HK1.out; have := HK2.out; omega⟩, ⟨by (with_reducible repeat (first | apply Kd.R_alloc | apply Kd.R_drewN | apply Kd.R_drew)); exact Kd.R_mono (Kd.R_far (p := ⟨gb429, 2, none⟩) (Kd.R_far (p := ⟨gb428, 2, none⟩) (Kd.R_types (Kd.R_types HO453.out BK428.out (by decide)) BK429.out (by decide)) (fun _ hk => hk.1.2) (.int .i64 t430)) (fun _ hk => hk.2) (.int .i64 (t447.length : Int))) (fun _ hk => ⟨hk.1.1.2.1, ⟨hk.1.1.2.2.1, hk.1.1.2.2.2⟩⟩)⟩, ⟨by (with_reducible repeat (first | apply Kd.R_alloc | apply Kd.R_drewN | apply Kd.R_drew)); exact Kd.R_mono (Kd.R_far (p := ⟨gb429, 2, none⟩) (Kd.R_far (p := ⟨gb428, 2, none⟩) (Kd.R_types (Kd.R_types HO457.out BK428.out (by decide)) BK429.out (by decide)) (fun _ hk => hk.1.2) (.int .i64 t430)) (fun _ hk => hk.2) (.int .i64 (t447.length : Int))) (fun _ hk => ⟨hk.1.1.2.1, ⟨hk.1.1.2.2.1, hk.1.1.2.2.2⟩⟩)⟩, ⟨by (with_reducible repeat (first | apply Kd.R_alloc | apply Kd.R_drewN | apply Kd.R_drew)); exact Kd.R_mono (Kd.R_far (p := ⟨gb429, 2, none⟩) (Kd.R_far (p := ⟨gb428, 2, none⟩) (Kd.R_types (Kd.R_types HO461.out BK428.out (by decide)) BK429.out (by decide)) (fun _ hk => hk.1.2) (.int .i64 t430)) (fun _ hk => hk.2) (.int .i64 (t447.length : Int))) (fun _ hk => ⟨hk.1.1.2.1, ⟨hk.1.1.2.2.1, hk.1.1.2.2.2⟩⟩)⟩, ⟨by (with_reducible repeat (first | apply Kd.R_alloc | apply Kd.R_drewN | apply Kd.R_drew)); exact Kd.R_mono (Kd.R_far (p := ⟨gb429, 2, none⟩) (Kd.R_far (p := ⟨gb428, 2, none⟩) (Kd.R_types (Kd.R_types HO465.out BK428.out (by decide)) BK429.out (by decide)) (fun _ hk => hk.1.2) (.int .i64 t430)) (fun _ hk => hk.2) (.int .i64 (t447.length : Int))) (fun _ hk => ⟨hk.1.1.2.1, ⟨hk.1.1.2.2.1, hk.1.1.2.2.2⟩⟩)⟩, ⟨Goto.bx BK409⟩, ⟨Goto.bx BK427⟩, ⟨Goto.bx BK428⟩, ⟨Goto.bx BK429⟩, ⟨Goto.hx HB⟩⟩
             ·
              rw [if_neg c39] at H
              have c39b0 : (x11_2 == 2) = false := beq_eq_false_iff_ne.mpr c39
              have c39b1 : (x11_2 != 2) = true := bne_iff_ne.mpr c39
              by_cases c48 : x11_2 = 3
              ·
               rw [if_pos c48] at H
               have c48b0 : (x11_2 == 3) = true := beq_iff_eq.mpr c48
               have c48b1 : (x11_2 != 3) = false := bne_eq_false_iff_eq.mpr c48
               clear c48
               have hix49e : x11_2 = 3 := eq_of_beq (by first | (with_reducible assumption) | assumption)
               have hix49 : (x11_2).toNat = 3 := by rw [hix49e]; rfl
               have hix49c : (0 ≤ x11_2 ∧ x11_2 < (4 : Int)) = True := eq_true (by rw [hix49e]; decide)
               clear hix49e
               have hix50e : x11_2 = 3 := eq_of_beq (by first | (with_reducible assumption) | assumption)
               have hix50 : (x11_2).toNat = 3 := by rw [hix50e]; rfl
               have hix50c : (0 ≤ x11_2 ∧ x11_2 < (4 : Int)) = True := eq_true (by rw [hix50e]; decide)
               clear hix50e
               have H' := Goto.m0 H
               clear H
               try go_wp2
               replace HO_410001 := Goto.m0 (Kd.R_drew HO_410001.out); replace HO_410003 := Goto.m0 (Kd.R_drew HO_410003.out); replace HO_410005 := Goto.m0 (Kd.R_drew HO_410005.out); replace HO_410007 := Goto.m0 (Kd.R_drew HO_410007.out); replace BK409 := Goto.m0 (blk_drew BK409.out); replace BK427 := Goto.m0 (blk_drew BK427.out); replace BK428 := Goto.m0 (blk_drew BK428.out); replace BK429 := Goto.m0 (blk_drew BK429.out); replace HB := Goto.m0 (below_drew1 HB.out)
               refine start_ (n := 13) (S := fun w' => True) (ds := []) (.replicate 13 false) (by kernel_rfl) rfl rfl trivial (fun hHeld => ?_); refine with_tabW tontinelaw9_ObjectApart.tab16 tontinelaw9_ObjectApart.bits16 (fun HT_ HW_ => ?_)
               generalize wr.drew = w51 at HO_410001 HO_410003 HO_410005 HO_410007 BK409 BK427 BK428 BK429 HB hHeld ⊢
               refine Goto.pu 0 36 13 1 ?_
               refine Goto.pu 1 37 13 3 ?_
               refine Goto.pu 2 38 13 7 ?_
               refine Goto.pu 3 39 13 15 ?_
               refine Goto.pu 5 41 13 47 ?_
               refine Goto.pu 6 42 13 111 ?_
               refine one_ (i := 4) (N := some 40) (Goto.bs 13 127) rfl rfl (one_of HT_.out (by kernel_rfl)) (by decide) (fun K hK => ?_)
               refine goes_ Try.func24 (by kernel_rfl) rfl #[.pointer (some ⟨gb409, 0, none⟩), .int .i64 x11_2] (by rfl) rfl rfl (by (try simp only [List.map_toArray, List.map_cons, List.map_nil]); first | done | rfl | (simp only [List.length_drop, List.length_take]; rfl)) ?_
               with_reducible refine (object_Objects_Count.calls gb409 x410000_2 (fun k_ => some k_ = (u410001 : Value).ownBlock) u410001 x410001_2 x410002_2 (fun k_ => some k_ = (u410003 : Value).ownBlock) u410003 x410003_2 x410004_2 (fun k_ => some k_ = (u410005 : Value).ownBlock) u410005 x410005_2 x410006_2 (fun k_ => some k_ = (u410007 : Value).ownBlock) u410007 x410007_2 x11_2 t430 t431 t432 t435 t436 t439 t440 t443 t444 w _ ?side1 ?side2 ?side3 ?side4 ?side5 ?side6 ?side7 ?side8 ?side9 ?side10 ?side11 ?side12 ?side13 ?side14 ?side15 ?side16 ?side17 ?side18 ?side19 A18.out).mono ?_
               (case side1 => exact by (with_reducible repeat first | refine blk_drewN ?_ _ | refine blk_drew ?_ | refine blk_alloc ?_ _); exact BK409.out)
               (case side2 => exact GE409.out)
               (case side3 => repeat (first | (with_reducible first | exact HB.out | apply below_alloc | apply pw_below_drewN | apply below_drew1 | refine below_set ?_ GE409.out | refine below_set ?_ GE427.out | refine below_set ?_ GE428.out | refine below_set ?_ GE429.out) | exact HB.out))
               (case side4 => exact Kd.R_tight rfl HO_410001.out)
               (case side5 => exact fun k_ e_ => (HO_410001.out.1 k_ e_.symm).1)
               (case side6 => exact fun k_ e_ => (HO_410001.out.1 k_ e_.symm).2.1)
               (case side7 => exact fun k_ e_ => (HO_410001.out.1 k_ e_.symm).2.2)
               (case side8 => exact Kd.R_tight rfl HO_410003.out)
               (case side9 => exact fun k_ e_ => (HO_410003.out.1 k_ e_.symm).1)
               (case side10 => exact fun k_ e_ => (HO_410003.out.1 k_ e_.symm).2.1)
               (case side11 => exact fun k_ e_ => (HO_410003.out.1 k_ e_.symm).2.2)
               (case side12 => exact Kd.R_tight rfl HO_410005.out)
               (case side13 => exact fun k_ e_ => (HO_410005.out.1 k_ e_.symm).1)
               (case side14 => exact fun k_ e_ => (HO_410005.out.1 k_ e_.symm).2.1)
               (case side15 => exact fun k_ e_ => (HO_410005.out.1 k_ e_.symm).2.2)
               (case side16 => exact Kd.R_tight rfl HO_410007.out)
               (case side17 => exact fun k_ e_ => (HO_410007.out.1 k_ e_.symm).1)
               (case side18 => exact fun k_ e_ => (HO_410007.out.1 k_ e_.symm).2.1)
               (case side19 => exact fun k_ e_ => (HO_410007.out.1 k_ e_.symm).2.2)
               rintro e w52 ⟨v433, v437, v441, v445, rfl, ho0, ho1, ho2, ho3, hi, hb, hkp⟩
               refine ⟨_, rfl, ?_⟩
               have n0_ := Goto.m0 (hi)
               have n1_ := Goto.m0 (blk_kept (Goto.bx BK427) hkp (fun hs_ => Or.elim hs_ (fun hs_ => Or.elim hs_ (fun e_ => (fun e_ => (Kd.R_ne HO_410001.out BK427.out (by decide)) e_) e_) (fun e_ => Or.elim e_ (fun e_ => (fun e_ => (Kd.R_ne HO_410003.out BK427.out (by decide)) e_) e_) (fun e_ => Or.elim e_ (fun e_ => (fun e_ => (Kd.R_ne HO_410005.out BK427.out (by decide)) e_) e_) (fun e_ => (fun e_ => (Kd.R_ne HO_410007.out BK427.out (by decide)) e_) e_)))) (fun e_ => NB427_409.out e_)))
               have n2_ := Goto.m0 (blk_kept (Goto.bx BK428) hkp (fun hs_ => Or.elim hs_ (fun hs_ => Or.elim hs_ (fun e_ => (fun e_ => (Kd.R_ne HO_410001.out BK428.out (by decide)) e_) e_) (fun e_ => Or.elim e_ (fun e_ => (fun e_ => (Kd.R_ne HO_410003.out BK428.out (by decide)) e_) e_) (fun e_ => Or.elim e_ (fun e_ => (fun e_ => (Kd.R_ne HO_410005.out BK428.out (by decide)) e_) e_) (fun e_ => (fun e_ => (Kd.R_ne HO_410007.out BK428.out (by decide)) e_) e_)))) (fun e_ => NB428_409.out e_)))
               have n3_ := Goto.m0 (blk_kept (Goto.bx BK429) hkp (fun hs_ => Or.elim hs_ (fun hs_ => Or.elim hs_ (fun e_ => (fun e_ => (Kd.R_ne HO_410001.out BK429.out (by decide)) e_) e_) (fun e_ => Or.elim e_ (fun e_ => (fun e_ => (Kd.R_ne HO_410003.out BK429.out (by decide)) e_) e_) (fun e_ => Or.elim e_ (fun e_ => (fun e_ => (Kd.R_ne HO_410005.out BK429.out (by decide)) e_) e_) (fun e_ => (fun e_ => (Kd.R_ne HO_410007.out BK429.out (by decide)) e_) e_)))) (fun e_ => NB429_409.out e_)))
               have n4_ := Goto.m0 (Kd.R_mono (ok' := fun k_ => some k_ ≠ (v437 : Value).ownBlock ∧ some k_ ≠ (v441 : Value).ownBlock ∧ some k_ ≠ (v445 : Value).ownBlock) ho0 (fun k_ hk_ => ⟨hk_.2.1, hk_.2.2.1, hk_.2.2.2⟩))
               have n5_ := Goto.m0 (Kd.R_mono (ok' := fun k_ => some k_ ≠ (v433 : Value).ownBlock ∧ some k_ ≠ (v441 : Value).ownBlock ∧ some k_ ≠ (v445 : Value).ownBlock) ho1 (fun k_ hk_ => ⟨hk_.2.1, hk_.2.2.1, hk_.2.2.2⟩))
               have n6_ := Goto.m0 (Kd.R_mono (ok' := fun k_ => some k_ ≠ (v433 : Value).ownBlock ∧ some k_ ≠ (v437 : Value).ownBlock ∧ some k_ ≠ (v445 : Value).ownBlock) ho2 (fun k_ hk_ => ⟨hk_.2.1, hk_.2.2.1, hk_.2.2.2⟩))
               have n7_ := Goto.m0 (Kd.R_mono (ok' := fun k_ => some k_ ≠ (v433 : Value).ownBlock ∧ some k_ ≠ (v437 : Value).ownBlock ∧ some k_ ≠ (v441 : Value).ownBlock) ho3 (fun k_ hk_ => ⟨hk_.2.1, hk_.2.2.1, hk_.2.2.2⟩))
               have n8_ := Goto.m0 (hb)
               clear BK409; clear BK427; clear BK428; clear BK429; clear HB; clear HO_410001; clear HO_410003; clear HO_410005; clear HO_410007; have BK409 := n0_; have BK427 := n1_; have BK428 := n2_; have BK429 := n3_; have HO434 := n4_; have HO438 := n5_; have HO442 := n6_; have HO446 := n7_; have HB := n8_; clear n0_ n1_ n2_ n3_ n4_ n5_ n6_ n7_ n8_
               (try clear hb)
               (try clear hkp)
               (try clear ho0)
               (try clear ho1)
               (try clear ho2)
               (try clear ho3)
               refine hK.out _ _ trivial (fun hHeld => ?_)
               clear hK K
               refine norm_ (a' := ?_) ?_ ?_
               rotate_left
               ·
                show Act.put _ (some 40) _ = _
                exact Goto.ap
               refine Goto.pu 9 45 13 639 ?_
               refine one_ (i := 7) (N := some 43) (Goto.bs 13 767) rfl rfl (one_of HT_.out (by kernel_rfl)) (by decide) (fun K hK => ?_)
               refine goes_ Try.func25 (by kernel_rfl) rfl #[.pointer (some ⟨gb409, 0, none⟩), .int .i64 x11_2] (by rfl) rfl rfl (by (try simp only [List.map_toArray, List.map_cons, List.map_nil]); first | done | rfl | (simp only [List.length_drop, List.length_take]; rfl)) ?_
               with_reducible refine (object_Objects_Row.calls gb409 t431 (fun k_ => some k_ = (v433 : Value).ownBlock) v433 t432 t435 (fun k_ => some k_ = (v437 : Value).ownBlock) v437 t436 t439 (fun k_ => some k_ = (v441 : Value).ownBlock) v441 t440 t443 (fun k_ => some k_ = (v445 : Value).ownBlock) v445 t444 x11_2 t447 t450 t451 t454 t455 t458 t459 t462 t463 w _ ?side1 ?side2 ?side3 ?side4 ?side5 ?side6 ?side7 ?side8 ?side9 ?side10 ?side11 ?side12 ?side13 ?side14 ?side15 ?side16 ?side17 ?side18 ?side19 A19.out).mono ?_
               (case side1 => exact by (with_reducible repeat first | refine blk_drewN ?_ _ | refine blk_drew ?_ | refine blk_alloc ?_ _); exact BK409.out)
               (case side2 => exact GE409.out)
               (case side3 => repeat (first | (with_reducible first | exact HB.out | apply below_alloc | apply pw_below_drewN | apply below_drew1 | refine below_set ?_ GE409.out | refine below_set ?_ GE427.out | refine below_set ?_ GE428.out | refine below_set ?_ GE429.out) | exact HB.out))
               (case side4 => exact Kd.R_tight rfl HO434.out)
               (case side5 => exact fun k_ e_ => (HO434.out.1 k_ e_.symm).1)
               (case side6 => exact fun k_ e_ => (HO434.out.1 k_ e_.symm).2.1)
               (case side7 => exact fun k_ e_ => (HO434.out.1 k_ e_.symm).2.2)
               (case side8 => exact Kd.R_tight rfl HO438.out)
               (case side9 => exact fun k_ e_ => (HO438.out.1 k_ e_.symm).1)
               (case side10 => exact fun k_ e_ => (HO438.out.1 k_ e_.symm).2.1)
               (case side11 => exact fun k_ e_ => (HO438.out.1 k_ e_.symm).2.2)
               (case side12 => exact Kd.R_tight rfl HO442.out)
               (case side13 => exact fun k_ e_ => (HO442.out.1 k_ e_.symm).1)
               (case side14 => exact fun k_ e_ => (HO442.out.1 k_ e_.symm).2.1)
               (case side15 => exact fun k_ e_ => (HO442.out.1 k_ e_.symm).2.2)
               (case side16 => exact Kd.R_tight rfl HO446.out)
               (case side17 => exact fun k_ e_ => (HO446.out.1 k_ e_.symm).1)
               (case side18 => exact fun k_ e_ => (HO446.out.1 k_ e_.symm).2.1)
               (case side19 => exact fun k_ e_ => (HO446.out.1 k_ e_.symm).2.2)
               rintro e w53 ⟨v448, v452, v456, v460, v464, rfl, ho0, ho1, ho2, ho3, ho4, hi, hb, hkp⟩
               refine ⟨_, rfl, ?_⟩
               have n0_ := Goto.m0 (hi)
               have n1_ := Goto.m0 (blk_kept (Goto.bx BK427) hkp (fun hs_ => Or.elim hs_ (fun hs_ => Or.elim hs_ (fun e_ => (fun e_ => (Kd.R_ne HO434.out BK427.out (by decide)) e_) e_) (fun e_ => Or.elim e_ (fun e_ => (fun e_ => (Kd.R_ne HO438.out BK427.out (by decide)) e_) e_) (fun e_ => Or.elim e_ (fun e_ => (fun e_ => (Kd.R_ne HO442.out BK427.out (by decide)) e_) e_) (fun e_ => (fun e_ => (Kd.R_ne HO446.out BK427.out (by decide)) e_) e_)))) (fun e_ => NB427_409.out e_)))
               have n2_ := Goto.m0 (blk_kept (Goto.bx BK428) hkp (fun hs_ => Or.elim hs_ (fun hs_ => Or.elim hs_ (fun e_ => (fun e_ => (Kd.R_ne HO434.out BK428.out (by decide)) e_) e_) (fun e_ => Or.elim e_ (fun e_ => (fun e_ => (Kd.R_ne HO438.out BK428.out (by decide)) e_) e_) (fun e_ => Or.elim e_ (fun e_ => (fun e_ => (Kd.R_ne HO442.out BK428.out (by decide)) e_) e_) (fun e_ => (fun e_ => (Kd.R_ne HO446.out BK428.out (by decide)) e_) e_)))) (fun e_ => NB428_409.out e_)))
               have n3_ := Goto.m0 (blk_kept (Goto.bx BK429) hkp (fun hs_ => Or.elim hs_ (fun hs_ => Or.elim hs_ (fun e_ => (fun e_ => (Kd.R_ne HO434.out BK429.out (by decide)) e_) e_) (fun e_ => Or.elim e_ (fun e_ => (fun e_ => (Kd.R_ne HO438.out BK429.out (by decide)) e_) e_) (fun e_ => Or.elim e_ (fun e_ => (fun e_ => (Kd.R_ne HO442.out BK429.out (by decide)) e_) e_) (fun e_ => (fun e_ => (Kd.R_ne HO446.out BK429.out (by decide)) e_) e_)))) (fun e_ => NB429_409.out e_)))
               have n4_ := Goto.m0 (Kd.R_mono (ok' := fun k_ => some k_ ≠ (v452 : Value).ownBlock ∧ some k_ ≠ (v456 : Value).ownBlock ∧ some k_ ≠ (v460 : Value).ownBlock ∧ some k_ ≠ (v464 : Value).ownBlock) ho0 (fun k_ hk_ => ⟨hk_.2.1, hk_.2.2.1, hk_.2.2.2.1, hk_.2.2.2.2⟩))
               have n5_ := Goto.m0 (Kd.R_mono (ok' := fun k_ => some k_ ≠ (v448 : Value).ownBlock ∧ some k_ ≠ (v456 : Value).ownBlock ∧ some k_ ≠ (v460 : Value).ownBlock ∧ some k_ ≠ (v464 : Value).ownBlock) ho1 (fun k_ hk_ => ⟨hk_.2.1, hk_.2.2.1, hk_.2.2.2.1, hk_.2.2.2.2⟩))
               have n6_ := Goto.m0 (Kd.R_mono (ok' := fun k_ => some k_ ≠ (v448 : Value).ownBlock ∧ some k_ ≠ (v452 : Value).ownBlock ∧ some k_ ≠ (v460 : Value).ownBlock ∧ some k_ ≠ (v464 : Value).ownBlock) ho2 (fun k_ hk_ => ⟨hk_.2.1, hk_.2.2.1, hk_.2.2.2.1, hk_.2.2.2.2⟩))
               have n7_ := Goto.m0 (Kd.R_mono (ok' := fun k_ => some k_ ≠ (v448 : Value).ownBlock ∧ some k_ ≠ (v452 : Value).ownBlock ∧ some k_ ≠ (v456 : Value).ownBlock ∧ some k_ ≠ (v464 : Value).ownBlock) ho3 (fun k_ hk_ => ⟨hk_.2.1, hk_.2.2.1, hk_.2.2.2.1, hk_.2.2.2.2⟩))
               have n8_ := Goto.m0 (Kd.R_mono (ok' := fun k_ => some k_ ≠ (v448 : Value).ownBlock ∧ some k_ ≠ (v452 : Value).ownBlock ∧ some k_ ≠ (v456 : Value).ownBlock ∧ some k_ ≠ (v460 : Value).ownBlock) ho4 (fun k_ hk_ => ⟨hk_.2.1, hk_.2.2.1, hk_.2.2.2.1, hk_.2.2.2.2⟩))
               have n9_ := Goto.m0 (hb)
               clear BK409; clear BK427; clear BK428; clear BK429; clear HB; clear HO434; clear HO438; clear HO442; clear HO446; have BK409 := n0_; have BK427 := n1_; have BK428 := n2_; have BK429 := n3_; have HO449 := n4_; have HO453 := n5_; have HO457 := n6_; have HO461 := n7_; have HO465 := n8_; have HB := n9_; clear n0_ n1_ n2_ n3_ n4_ n5_ n6_ n7_ n8_ n9_
               (try clear hb)
               (try clear hkp)
               (try clear ho0)
               (try clear ho1)
               (try clear ho2)
               (try clear ho3)
               (try clear ho4)
               obtain ⟨Ao54, co54, eo54⟩ := Kd.R_slice HO449.out
               (first | subst eo54 | (injection eo54 with f1_ f2_ f3_; have f4_ := f1_.symm; have f5_ := f3_.symm; clear f1_ f2_ f3_; subst f4_; subst f5_))
               refine hK.out _ _ trivial (fun hHeld => ?_)
               clear hK K
               refine norm_ (a' := ?_) ?_ ?_
               rotate_left
               ·
                show Act.put _ (some 43) _ = _
                exact Goto.ap
               refine Goto.pu 8 44 13 1023 ?_
               refine one_ (i := 10) (N := none) (Goto.bs 13 2047) rfl rfl (one_of HT_.out (by kernel_rfl)) (by decide) (fun K hK => ?_)
               have hs55 : w53.cell? ⟨gb428, 3, none⟩ = some (.int .i64 x429003_2) := (blk_cell BK428.out 3).trans rfl; have hfs55 := Goto.bf BK428 3; have hns55_0 := NB409_428.out; have hns55_1 := NB427_428.out; have hns55_3 := NB429_428.out; have hms55_0 := NB428_409.out; have hms55_1 := NB428_427.out; have hms55_3 := NB428_429.out
               refine skip_ (w1 := ?_) (by rfl) rfl ?_ ?_
               rotate_left
               ·
                go_simp
                rfl
               refine hK.out _ _ trivial (fun hHeld => ?_)
               clear hK K
               refine Goto.pu 11 46 13 4095 ?_
               refine one_ (i := 12) (N := none) (Goto.bs 13 8191) rfl rfl (one_of HT_.out (by kernel_rfl)) (by decide) (fun K hK => ?_)
               have hs56 : w53.cell? ⟨gb429, 3, none⟩ = some (.int .i64 x430003_2) := (blk_cell BK429.out 3).trans rfl; have hfs56 := Goto.bf BK429 3; have hns56_0 := NB409_429.out; have hns56_1 := NB427_429.out; have hns56_2 := NB428_429.out; have hms56_0 := NB429_409.out; have hms56_1 := NB429_427.out; have hms56_2 := NB429_428.out
               refine skip_ (w1 := ?_) (by rfl) rfl ?_ ?_
               rotate_left
               ·
                go_simp
                rfl
               refine hK.out _ _ trivial (fun hHeld => ?_)
               clear hK K
               refine done_ (done_of HT_.out (by kernel_rfl)) ?_
               try go_wp2
               go_roundg k2
               case measure => have := HK1.out; have := HK2.out; omega
               case rel => exact ⟨(wrap64 (x11_2 + 1)), (t450), (t451), (t454), (t455), (t458), (t459), (t462), (t463), (x429000_2), (x429001_2), (x429002_2), (t430), (x430000_2), (x430001_2), (x430002_2), ((t447.length : Int)), (v452), (v456), (v460), (v464), (by first | rfl | (simp; done) | (simp [*]; done) | (congr 1; unfold wrap64; omega)), H', ⟨by have := HK1.out; have := HK2.out; omega⟩, ⟨by (with_reducible repeat (first | apply Kd.R_alloc | apply Kd.R_drewN | apply Kd.R_drew)); exact Kd.R_mono (Kd.R_far (p := ⟨gb429, 3, none⟩) (Kd.R_far (p := ⟨gb428, 3, none⟩) (Kd.R_types (Kd.R_types HO453.out BK428.out (by decide)) BK429.out (by decide)) (fun _ hk => hk.1.2) (.int .i64 t430)) (fun _ hk => hk.2) (.int .i64 (t447.length : Int))) (fun _ hk => ⟨hk.1.1.2.1, ⟨hk.1.1.2.2.1, hk.1.1.2.2.2⟩⟩)⟩, ⟨by (with_reducible repeat (first | apply Kd.R_alloc | apply Kd.R_drewN | apply Kd.R_drew)); exact Kd.R_mono (Kd.R_far (p := ⟨gb429, 3, none⟩) (Kd.R_far (p := ⟨gb428, 3, none⟩) (Kd.R_types (Kd.R_types HO457.out BK428.out (by decide)) BK429.out (by decide)) (fun _ hk => hk.1.2) (.int .i64 t430)) (fun _ hk => hk.2) (.int .i64 (t447.length : Int))) (fun _ hk => ⟨hk.1.1.2.1, ⟨hk.1.1.2.2.1, hk.1.1.2.2.2⟩⟩)⟩, ⟨by (with_reducible repeat (first | apply Kd.R_alloc | apply Kd.R_drewN | apply Kd.R_drew)); exact Kd.R_mono (Kd.R_far (p := ⟨gb429, 3, none⟩) (Kd.R_far (p := ⟨gb428, 3, none⟩) (Kd.R_types (Kd.R_types HO461.out BK428.out (by decide)) BK429.out (by decide)) (fun _ hk => hk.1.2) (.int .i64 t430)) (fun _ hk => hk.2) (.int .i64 (t447.length : Int))) (fun _ hk => ⟨hk.1.1.2.1, ⟨hk.1.1.2.2.1, hk.1.1.2.2.2⟩⟩)⟩, ⟨by (with_reducible repeat (first | apply Kd.R_alloc | apply Kd.R_drewN | apply Kd.R_drew)); exact Kd.R_mono (Kd.R_far (p := ⟨gb429, 3, none⟩) (Kd.R_far (p := ⟨gb428, 3, none⟩) (Kd.R_types (Kd.R_types HO465.out BK428.out (by decide)) BK429.out (by decide)) (fun _ hk => hk.1.2) (.int .i64 t430)) (fun _ hk => hk.2) (.int .i64 (t447.length : Int))) (fun _ hk => ⟨hk.1.1.2.1, ⟨hk.1.1.2.2.1, hk.1.1.2.2.2⟩⟩)⟩, ⟨Goto.bx BK409⟩, ⟨Goto.bx BK427⟩, ⟨Goto.bx BK428⟩, ⟨Goto.bx BK429⟩, ⟨Goto.hx HB⟩⟩
              ·
               rw [if_neg c48] at H
               exact absurd H (by simp)
          ·
           rw [if_neg c20] at H
           exact absurd H (by simp)
         ·
          rw [if_neg c17] at H
          have c17b0 : decide (x11_2 < 4) = false := decide_eq_false c17
          clear c17
          have HC57 := Goto.m0 H
          clear H; have hnb58 := NB427_409.out; have hnc58 := NB409_427.out; have hnb59 := NB427_428.out; have hnc59 := NB428_427.out; have hnb60 := NB427_429.out; have hnc60 := NB429_427.out
          have hcz61_0 := Goto.bc0 BK427
          have hcz61_1 := Goto.bc1 BK427
          have hcz61_2 := Goto.bc2 BK427
          have hfz61_0 := Goto.bf BK427 0; have hfz61_1 := Goto.bf BK427 1; have hfz61_2 := Goto.bf BK427 2
          go_upto_if 50 with (fail)
          go_cut [] (fun wc => ∃ (kq : Nat) (x410000_56 : Int) (x410001_56 : List Int) (x410002_56 : Int) (x410003_56 : List Int) (x410004_56 : Int) (x410005_56 : List Int) (x410006_56 : Int) (x410007_56 : List Int) (u410001 : Value) (u410003 : Value) (u410005 : Value) (u410007 : Value), Aside0 (tontinelaw9_ObjectApart.j2 kq l0 (wrap64 (Int.tmod a1 4)) x7_1 x410000_56 x410001_56 x410002_56 x410003_56 x410004_56 x410005_56 x410006_56 x410007_56 x429000_2 x429001_2 x429002_2 x429003_2 x430000_2 x430001_2 x430002_2 x430003_2 = some r) ∧ Aside0 (kq ≤ k2) ∧ Aside0 (Kd.R (Kd.int .i64) 3 wc w.heap.size (fun k_ => some k_ ≠ (u410003 : Value).ownBlock ∧ some k_ ≠ (u410005 : Value).ownBlock ∧ some k_ ≠ (u410007 : Value).ownBlock) u410001 x410001_56) ∧ Aside0 (Kd.R (Kd.int .i64) 3 wc w.heap.size (fun k_ => some k_ ≠ (u410001 : Value).ownBlock ∧ some k_ ≠ (u410005 : Value).ownBlock ∧ some k_ ≠ (u410007 : Value).ownBlock) u410003 x410003_56) ∧ Aside0 (Kd.R (Kd.int .i64) 3 wc w.heap.size (fun k_ => some k_ ≠ (u410001 : Value).ownBlock ∧ some k_ ≠ (u410003 : Value).ownBlock ∧ some k_ ≠ (u410007 : Value).ownBlock) u410005 x410005_56) ∧ Aside0 (Kd.R (Kd.int .i64) 3 wc w.heap.size (fun k_ => some k_ ≠ (u410001 : Value).ownBlock ∧ some k_ ≠ (u410003 : Value).ownBlock ∧ some k_ ≠ (u410005 : Value).ownBlock) u410007 x410007_56) ∧ Aside0 (wc.heap[gb409]? = some (.cells #[.int .i64 x410000_56, u410001, .int .i64 x410002_56, u410003, .int .i64 x410004_56, u410005, .int .i64 x410006_56, u410007] 79 (0, 0))) ∧ Aside0 (wc.heap[gb427]? = some (.cells #[.int .i64 ((rd_T59 l0 x7_1).f0), .int .i64 ((rd_T59 l0 x7_1).f1), .int .i64 ((rd_T59 l0 x7_1).f2)] 59 (0, 0))) ∧ Aside0 (wc.heap[gb428]? = some (.cells #[.int .i64 x429000_2, .int .i64 x429001_2, .int .i64 x429002_2, .int .i64 x429003_2] 60 (0, 0))) ∧ Aside0 (wc.heap[gb429]? = some (.cells #[.int .i64 x430000_2, .int .i64 x430001_2, .int .i64 x430002_2, .int .i64 x430003_2] 60 (0, 0))) ∧ Aside0 (Below w.heap.size w wc))
          case first =>
           have H := HC57.out; clear HC57
           by_cases c62 : (Int.tmod ((rd_T59 l0 x7_1).f0) 2) = 0
           ·
            rw [if_pos c62] at H
            have c62b0 : ((Int.tmod ((rd_T59 l0 x7_1).f0) 2) == 0) = true := beq_iff_eq.mpr c62
            have c62b1 : ((Int.tmod ((rd_T59 l0 x7_1).f0) 2) != 0) = false := bne_eq_false_iff_eq.mpr c62
            clear c62
            (first | rw [c62b0] | (simp only [i64_w, i32_w]; rw [c62b0]) | skip)
            replace H := Option.bind_eq_some_iff.mp H
            obtain ⟨⟨t466, t467, t468, t469, t472, t473, t476, t477, t480, t481⟩, A630, H⟩ := H
            replace H : (tontinelaw9_ObjectApart.j2 k2 l0 (wrap64 (Int.tmod a1 4)) x7_1 t468 t469 t472 t473 t476 t477 t480 t481 x429000_2 x429001_2 x429002_2 x429003_2 x430000_2 x430001_2 x430002_2 x430003_2) = some r := H
            have A63 := Goto.m0 A630
            clear A630
            have H' := Goto.m0 H
            clear H
            go_wp2_with (first | ((with_reducible refine gate_callee (f := 22) rfl ?_); refine goesL_ (some 54) rfl rfl Try.func22 (by kernel_rfl) rfl #[.pointer (some ⟨gb409, 0, none⟩), .int .i64 x7_1, .int .i64 (wrap64 (Int.tmod a1 4))] rfl (by (try simp only [List.map_toArray, List.map_cons, List.map_nil]); first | done | rfl | (simp only [List.length_drop, List.length_take]; rfl)) ?_; (with_reducible refine (object_Objects_Wait.calls k2 gb409 x410000_2 (fun k_ => some k_ = (u410001 : Value).ownBlock) u410001 x410001_2 x410002_2 (fun k_ => some k_ = (u410003 : Value).ownBlock) u410003 x410003_2 x410004_2 (fun k_ => some k_ = (u410005 : Value).ownBlock) u410005 x410005_2 x410006_2 (fun k_ => some k_ = (u410007 : Value).ownBlock) u410007 x410007_2 x7_1 (wrap64 (Int.tmod a1 4)) t466 t467 t468 t469 t472 t473 t476 t477 t480 t481 w _ ?side1 ?side2 ?side3 ?side4 ?side5 ?side6 ?side7 ?side8 ?side9 ?side10 ?side11 ?side12 ?side13 ?side14 ?side15 ?side16 ?side17 ?side18 ?side19 A63.out).mono ?_); (case side1 => exact by (with_reducible repeat first | refine blk_drewN ?_ _ | refine blk_drew ?_ | refine blk_alloc ?_ _); exact BK409.out); (case side2 => exact GE409.out); (case side3 => repeat (first | (with_reducible first | exact HB.out | apply below_alloc | apply pw_below_drewN | apply below_drew1 | refine below_set ?_ GE409.out | refine below_set ?_ GE427.out | refine below_set ?_ GE428.out | refine below_set ?_ GE429.out) | exact HB.out)); (case side4 => exact Kd.R_tight rfl HO_410001.out); (case side5 => exact fun k_ e_ => (HO_410001.out.1 k_ e_.symm).1); (case side6 => exact fun k_ e_ => (HO_410001.out.1 k_ e_.symm).2.1); (case side7 => exact fun k_ e_ => (HO_410001.out.1 k_ e_.symm).2.2); (case side8 => exact Kd.R_tight rfl HO_410003.out); (case side9 => exact fun k_ e_ => (HO_410003.out.1 k_ e_.symm).1); (case side10 => exact fun k_ e_ => (HO_410003.out.1 k_ e_.symm).2.1); (case side11 => exact fun k_ e_ => (HO_410003.out.1 k_ e_.symm).2.2); (case side12 => exact Kd.R_tight rfl HO_410005.out); (case side13 => exact fun k_ e_ => (HO_410005.out.1 k_ e_.symm).1); (case side14 => exact fun k_ e_ => (HO_410005.out.1 k_ e_.symm).2.1); (case side15 => exact fun k_ e_ => (HO_410005.out.1 k_ e_.symm).2.2); (case side16 => exact Kd.R_tight rfl HO_410007.out); (case side17 => exact fun k_ e_ => (HO_410007.out.1 k_ e_.symm).1); (case side18 => exact fun k_ e_ => (HO_410007.out.1 k_ e_.symm).2.1); (case side19 => exact fun k_ e_ => (HO_410007.out.1 k_ e_.symm).2.2); rintro e w64 ⟨v470, v474, v478, v482, rfl, ho0, ho1, ho2, ho3, hi, hb, hkp⟩; refine ⟨_, rfl, ?_⟩; have n0_ := Goto.m0 (hi); have n1_ := Goto.m0 (blk_kept (Goto.bx BK427) hkp (fun hs_ => Or.elim hs_ (fun hs_ => Or.elim hs_ (fun e_ => (fun e_ => (Kd.R_ne HO_410001.out BK427.out (by decide)) e_) e_) (fun e_ => Or.elim e_ (fun e_ => (fun e_ => (Kd.R_ne HO_410003.out BK427.out (by decide)) e_) e_) (fun e_ => Or.elim e_ (fun e_ => (fun e_ => (Kd.R_ne HO_410005.out BK427.out (by decide)) e_) e_) (fun e_ => (fun e_ => (Kd.R_ne HO_410007.out BK427.out (by decide)) e_) e_)))) (fun e_ => NB427_409.out e_))); have n2_ := Goto.m0 (blk_kept (Goto.bx BK428) hkp (fun hs_ => Or.elim hs_ (fun hs_ => Or.elim hs_ (fun e_ => (fun e_ => (Kd.R_ne HO_410001.out BK428.out (by decide)) e_) e_) (fun e_ => Or.elim e_ (fun e_ => (fun e_ => (Kd.R_ne HO_410003.out BK428.out (by decide)) e_) e_) (fun e_ => Or.elim e_ (fun e_ => (fun e_ => (Kd.R_ne HO_410005.out BK428.out (by decide)) e_) e_) (fun e_ => (fun e_ => (Kd.R_ne HO_410007.out BK428.out (by decide)) e_) e_)))) (fun e_ => NB428_409.out e_))); have n3_ := Goto.m0 (blk_kept (Goto.bx BK429) hkp (fun hs_ => Or.elim hs_ (fun hs_ => Or.elim hs_ (fun e_ => (fun e_ => (Kd.R_ne HO_410001.out BK429.out (by decide)) e_) e_) (fun e_ => Or.elim e_ (fun e_ => (fun e_ => (Kd.R_ne HO_410003.out BK429.out (by decide)) e_) e_) (fun e_ => Or.elim e_ (fun e_ => (fun e_ => (Kd.R_ne HO_410005.out BK429.out (by decide)) e_) e_) (fun e_ => (fun e_ => (Kd.R_ne HO_410007.out BK429.out (by decide)) e_) e_)))) (fun e_ => NB429_409.out e_))); have n4_ := Goto.m0 (Kd.R_mono (ok' := fun k_ => some k_ ≠ (v474 : Value).ownBlock ∧ some k_ ≠ (v478 : Value).ownBlock ∧ some k_ ≠ (v482 : Value).ownBlock) ho0 (fun k_ hk_ => ⟨hk_.2.1, hk_.2.2.1, hk_.2.2.2⟩)); have n5_ := Goto.m0 (Kd.R_mono (ok' := fun k_ => some k_ ≠ (v470 : Value).ownBlock ∧ some k_ ≠ (v478 : Value).ownBlock ∧ some k_ ≠ (v482 : Value).ownBlock) ho1 (fun k_ hk_ => ⟨hk_.2.1, hk_.2.2.1, hk_.2.2.2⟩)); have n6_ := Goto.m0 (Kd.R_mono (ok' := fun k_ => some k_ ≠ (v470 : Value).ownBlock ∧ some k_ ≠ (v474 : Value).ownBlock ∧ some k_ ≠ (v482 : Value).ownBlock) ho2 (fun k_ hk_ => ⟨hk_.2.1, hk_.2.2.1, hk_.2.2.2⟩)); have n7_ := Goto.m0 (Kd.R_mono (ok' := fun k_ => some k_ ≠ (v470 : Value).ownBlock ∧ some k_ ≠ (v474 : Value).ownBlock ∧ some k_ ≠ (v478 : Value).ownBlock) ho3 (fun k_ hk_ => ⟨hk_.2.1, hk_.2.2.1, hk_.2.2.2⟩)); have n8_ := Goto.m0 (hb); clear BK409; clear BK427; clear BK428; clear BK429; clear HB; clear HO_410001; clear HO_410003; clear HO_410005; clear HO_410007; have BK409 := n0_; have BK427 := n1_; have BK428 := n2_; have BK429 := n3_; have HO471 := n4_; have HO475 := n5_; have HO479 := n6_; have HO483 := n7_; have HB := n8_; clear n0_ n1_ n2_ n3_ n4_ n5_ n6_ n7_ n8_; (try clear hb); (try clear hkp); (try clear ho0); (try clear ho1); (try clear ho2); (try clear ho3); (try simp only [errW_none, errW_some])))
            go_meet
            case rel => exact ⟨_, (t468), (t469), (t472), (t473), (t476), (t477), (t480), (t481), (v470), (v474), (v478), (v482), H', ⟨by have := HK1.out; have := HK2.out; first | omega | exact Nat.le_refl _⟩, ⟨Goto.rk HO471⟩, ⟨Goto.rk HO475⟩, ⟨Goto.rk HO479⟩, ⟨Goto.rk HO483⟩, ⟨Goto.bx BK409⟩, ⟨Goto.bx BK427⟩, ⟨Goto.bx BK428⟩, ⟨Goto.bx BK429⟩, ⟨Goto.hx HB⟩⟩
           ·
            rw [if_neg c62] at H
            have c62b0 : ((Int.tmod ((rd_T59 l0 x7_1).f0) 2) == 0) = false := beq_eq_false_iff_ne.mpr c62
            have c62b1 : ((Int.tmod ((rd_T59 l0 x7_1).f0) 2) != 0) = true := bne_iff_ne.mpr c62
            (first | rw [c62b0] | (simp only [i64_w, i32_w]; rw [c62b0]) | skip)
            replace H := Option.bind_eq_some_iff.mp H
            obtain ⟨⟨t484, t485, t486, t487, t488, t491, t492, t495, t496, t499, t500⟩, A650, H⟩ := H
            replace H : (tontinelaw9_ObjectApart.j2 k2 l0 (wrap64 (Int.tmod a1 4)) x7_1 t487 t488 t491 t492 t495 t496 t499 t500 x429000_2 x429001_2 x429002_2 x429003_2 x430000_2 x430001_2 x430002_2 x430003_2) = some r := H
            have A65 := Goto.m0 A650
            clear A650
            have H' := Goto.m0 H
            clear H
            go_wp2_with (first | ((with_reducible refine gate_callee (f := 23) rfl ?_); refine goesL_ (some 57) rfl rfl Try.func23 (by kernel_rfl) rfl #[.pointer (some ⟨gb409, 0, none⟩), .int .i64 (wrap64 (Int.tmod a1 4))] rfl (by (try simp only [List.map_toArray, List.map_cons, List.map_nil]); first | done | rfl | (simp only [List.length_drop, List.length_take]; rfl)) ?_; (with_reducible refine (object_Objects_Signal.calls gb409 x410000_2 (fun k_ => some k_ = (u410001 : Value).ownBlock) u410001 x410001_2 x410002_2 (fun k_ => some k_ = (u410003 : Value).ownBlock) u410003 x410003_2 x410004_2 (fun k_ => some k_ = (u410005 : Value).ownBlock) u410005 x410005_2 x410006_2 (fun k_ => some k_ = (u410007 : Value).ownBlock) u410007 x410007_2 (wrap64 (Int.tmod a1 4)) t484 t485 t486 t487 t488 t491 t492 t495 t496 t499 t500 w _ ?side1 ?side2 ?side3 ?side4 ?side5 ?side6 ?side7 ?side8 ?side9 ?side10 ?side11 ?side12 ?side13 ?side14 ?side15 ?side16 ?side17 ?side18 ?side19 A65.out).mono ?_); (case side1 => exact by (with_reducible repeat first | refine blk_drewN ?_ _ | refine blk_drew ?_ | refine blk_alloc ?_ _); exact BK409.out); (case side2 => exact GE409.out); (case side3 => repeat (first | (with_reducible first | exact HB.out | apply below_alloc | apply pw_below_drewN | apply below_drew1 | refine below_set ?_ GE409.out | refine below_set ?_ GE427.out | refine below_set ?_ GE428.out | refine below_set ?_ GE429.out) | exact HB.out)); (case side4 => exact Kd.R_tight rfl HO_410001.out); (case side5 => exact fun k_ e_ => (HO_410001.out.1 k_ e_.symm).1); (case side6 => exact fun k_ e_ => (HO_410001.out.1 k_ e_.symm).2.1); (case side7 => exact fun k_ e_ => (HO_410001.out.1 k_ e_.symm).2.2); (case side8 => exact Kd.R_tight rfl HO_410003.out); (case side9 => exact fun k_ e_ => (HO_410003.out.1 k_ e_.symm).1); (case side10 => exact fun k_ e_ => (HO_410003.out.1 k_ e_.symm).2.1); (case side11 => exact fun k_ e_ => (HO_410003.out.1 k_ e_.symm).2.2); (case side12 => exact Kd.R_tight rfl HO_410005.out); (case side13 => exact fun k_ e_ => (HO_410005.out.1 k_ e_.symm).1); (case side14 => exact fun k_ e_ => (HO_410005.out.1 k_ e_.symm).2.1); (case side15 => exact fun k_ e_ => (HO_410005.out.1 k_ e_.symm).2.2); (case side16 => exact Kd.R_tight rfl HO_410007.out); (case side17 => exact fun k_ e_ => (HO_410007.out.1 k_ e_.symm).1); (case side18 => exact fun k_ e_ => (HO_410007.out.1 k_ e_.symm).2.1); (case side19 => exact fun k_ e_ => (HO_410007.out.1 k_ e_.symm).2.2); rintro e w66 ⟨v489, v493, v497, v501, rfl, ho0, ho1, ho2, ho3, hi, hb, hkp⟩; refine ⟨_, rfl, ?_⟩; have n0_ := Goto.m0 (hi); have n1_ := Goto.m0 (blk_kept (Goto.bx BK427) hkp (fun hs_ => Or.elim hs_ (fun hs_ => Or.elim hs_ (fun e_ => (fun e_ => (Kd.R_ne HO_410001.out BK427.out (by decide)) e_) e_) (fun e_ => Or.elim e_ (fun e_ => (fun e_ => (Kd.R_ne HO_410003.out BK427.out (by decide)) e_) e_) (fun e_ => Or.elim e_ (fun e_ => (fun e_ => (Kd.R_ne HO_410005.out BK427.out (by decide)) e_) e_) (fun e_ => (fun e_ => (Kd.R_ne HO_410007.out BK427.out (by decide)) e_) e_)))) (fun e_ => NB427_409.out e_))); have n2_ := Goto.m0 (blk_kept (Goto.bx BK428) hkp (fun hs_ => Or.elim hs_ (fun hs_ => Or.elim hs_ (fun e_ => (fun e_ => (Kd.R_ne HO_410001.out BK428.out (by decide)) e_) e_) (fun e_ => Or.elim e_ (fun e_ => (fun e_ => (Kd.R_ne HO_410003.out BK428.out (by decide)) e_) e_) (fun e_ => Or.elim e_ (fun e_ => (fun e_ => (Kd.R_ne HO_410005.out BK428.out (by decide)) e_) e_) (fun e_ => (fun e_ => (Kd.R_ne HO_410007.out BK428.out (by decide)) e_) e_)))) (fun e_ => NB428_409.out e_))); have n3_ := Goto.m0 (blk_kept (Goto.bx BK429) hkp (fun hs_ => Or.elim hs_ (fun hs_ => Or.elim hs_ (fun e_ => (fun e_ => (Kd.R_ne HO_410001.out BK429.out (by decide)) e_) e_) (fun e_ => Or.elim e_ (fun e_ => (fun e_ => (Kd.R_ne HO_410003.out BK429.out (by decide)) e_) e_) (fun e_ => Or.elim e_ (fun e_ => (fun e_ => (Kd.R_ne HO_410005.out BK429.out (by decide)) e_) e_) (fun e_ => (fun e_ => (Kd.R_ne HO_410007.out BK429.out (by decide)) e_) e_)))) (fun e_ => NB429_409.out e_))); have n4_ := Goto.m0 (Kd.R_mono (ok' := fun k_ => some k_ ≠ (v493 : Value).ownBlock ∧ some k_ ≠ (v497 : Value).ownBlock ∧ some k_ ≠ (v501 : Value).ownBlock) ho0 (fun k_ hk_ => ⟨hk_.2.1, hk_.2.2.1, hk_.2.2.2⟩)); have n5_ := Goto.m0 (Kd.R_mono (ok' := fun k_ => some k_ ≠ (v489 : Value).ownBlock ∧ some k_ ≠ (v497 : Value).ownBlock ∧ some k_ ≠ (v501 : Value).ownBlock) ho1 (fun k_ hk_ => ⟨hk_.2.1, hk_.2.2.1, hk_.2.2.2⟩)); have n6_ := Goto.m0 (Kd.R_mono (ok' := fun k_ => some k_ ≠ (v489 : Value).ownBlock ∧ some k_ ≠ (v493 : Value).ownBlock ∧ some k_ ≠ (v501 : Value).ownBlock) ho2 (fun k_ hk_ => ⟨hk_.2.1, hk_.2.2.1, hk_.2.2.2⟩)); have n7_ := Goto.m0 (Kd.R_mono (ok' := fun k_ => some k_ ≠ (v489 : Value).ownBlock ∧ some k_ ≠ (v493 : Value).ownBlock ∧ some k_ ≠ (v497 : Value).ownBlock) ho3 (fun k_ hk_ => ⟨hk_.2.1, hk_.2.2.1, hk_.2.2.2⟩)); have n8_ := Goto.m0 (hb); clear BK409; clear BK427; clear BK428; clear BK429; clear HB; clear HO_410001; clear HO_410003; clear HO_410005; clear HO_410007; have BK409 := n0_; have BK427 := n1_; have BK428 := n2_; have BK429 := n3_; have HO490 := n4_; have HO494 := n5_; have HO498 := n6_; have HO502 := n7_; have HB := n8_; clear n0_ n1_ n2_ n3_ n4_ n5_ n6_ n7_ n8_; (try clear hb); (try clear hkp); (try clear ho0); (try clear ho1); (try clear ho2); (try clear ho3); (try simp only [errW_none, errW_some])))
            go_meet
            case rel => exact ⟨_, (t487), (t488), (t491), (t492), (t495), (t496), (t499), (t500), (v489), (v493), (v497), (v501), H', ⟨by have := HK1.out; have := HK2.out; first | omega | exact Nat.le_refl _⟩, ⟨Goto.rk HO490⟩, ⟨Goto.rk HO494⟩, ⟨Goto.rk HO498⟩, ⟨Goto.rk HO502⟩, ⟨Goto.bx BK409⟩, ⟨Goto.bx BK427⟩, ⟨Goto.bx BK428⟩, ⟨Goto.bx BK429⟩, ⟨Goto.hx HB⟩⟩
          case rest =>
           clear HC57; try clear c1; try clear c2; try clear p2; try clear c3; try clear c4; try clear c5; try clear c6; try clear p6; try clear c17; try clear c17b0; try clear c20; try clear c22; try clear c23; try clear c24; try clear c25; try clear c39; try clear c39b0; try clear c39b1; try clear c48; try clear c48b0; try clear c48b1; try clear c58; try clear c59; try clear c60; try clear c62; try clear c62b0; try clear c62b1; try clear p64; try clear hcz61_0; try clear hcz61_1; try clear hcz61_2; try clear hfz61_0; try clear hfz61_1; try clear hfz61_2
           obtain ⟨kq, x410000_56, x410001_56, x410002_56, x410003_56, x410004_56, x410005_56, x410006_56, x410007_56, u410001, u410003, u410005, u410007, HA, HJ56, HO_410001, HO_410003, HO_410005, HO_410007, BK409, BK427, BK428, BK429, HB⟩ := hcut
           cases kq with
           | zero => exact absurd HA.out (by simp [tontinelaw9_ObjectApart.j2])
           | succ kj56 =>
            have H := HA.out; clear HA
            simp only [tontinelaw9_ObjectApart.j2] at H
            have H' := Goto.m0 H
            clear H
            go_wp2
            go_loopg [12] kj56 (fun kq v12 w' => ∃ (x12_4 : Int) (x410000_4 : Int) (x410001_4 : List Int) (x410002_4 : Int) (x410003_4 : List Int) (x410004_4 : Int) (x410005_4 : List Int) (x410006_4 : Int) (x410007_4 : List Int) (u410001 : Value) (u410003 : Value) (u410005 : Value) (u410007 : Value), v12 = .int .i64 x12_4 ∧ Aside0 (tontinelaw9_ObjectApart.l2 kq l0 (wrap64 (Int.tmod a1 4)) x7_1 x12_4 x410000_4 x410001_4 x410002_4 x410003_4 x410004_4 x410005_4 x410006_4 x410007_4 x429000_2 x429001_2 x429002_2 x429003_2 x430000_2 x430001_2 x430002_2 x430003_2 = some r) ∧ Aside0 (kq ≤ kj56) ∧ Aside0 (Kd.R (Kd.int .i64) 3 w' w.heap.size (fun k_ => some k_ ≠ (u410003 : Value).ownBlock ∧ some k_ ≠ (u410005 : Value).ownBlock ∧ some k_ ≠ (u410007 : Value).ownBlock) u410001 x410001_4) ∧ Aside0 (Kd.R (Kd.int .i64) 3 w' w.heap.size (fun k_ => some k_ ≠ (u410001 : Value).ownBlock ∧ some k_ ≠ (u410005 : Value).ownBlock ∧ some k_ ≠ (u410007 : Value).ownBlock) u410003 x410003_4) ∧ Aside0 (Kd.R (Kd.int .i64) 3 w' w.heap.size (fun k_ => some k_ ≠ (u410001 : Value).ownBlock ∧ some k_ ≠ (u410003 : Value).ownBlock ∧ some k_ ≠ (u410007 : Value).ownBlock) u410005 x410005_4) ∧ Aside0 (Kd.R (Kd.int .i64) 3 w' w.heap.size (fun k_ => some k_ ≠ (u410001 : Value).ownBlock ∧ some k_ ≠ (u410003 : Value).ownBlock ∧ some k_ ≠ (u410005 : Value).ownBlock) u410007 x410007_4) ∧ Aside0 (w'.heap[gb409]? = some (.cells #[.int .i64 x410000_4, u410001, .int .i64 x410002_4, u410003, .int .i64 x410004_4, u410005, .int .i64 x410006_4, u410007] 79 (0, 0))) ∧ Aside0 (w'.heap[gb427]? = some (.cells #[.int .i64 ((rd_T59 l0 x7_1).f0), .int .i64 ((rd_T59 l0 x7_1).f1), .int .i64 ((rd_T59 l0 x7_1).f2)] 59 (0, 0))) ∧ Aside0 (w'.heap[gb428]? = some (.cells #[.int .i64 x429000_2, .int .i64 x429001_2, .int .i64 x429002_2, .int .i64 x429003_2] 60 (0, 0))) ∧ Aside0 (w'.heap[gb429]? = some (.cells #[.int .i64 x430000_2, .int .i64 x430001_2, .int .i64 x430002_2, .int .i64 x430003_2] 60 (0, 0))) ∧ Aside0 (Below w.heap.size w w'))
            case atStart => exact ⟨(0), (x410000_56), (x410001_56), (x410002_56), (x410003_56), (x410004_56), (x410005_56), (x410006_56), (x410007_56), (u410001), (u410003), (u410005), (u410007), (by first | rfl | (simp; done) | (simp [*]; done) | (congr 1; unfold wrap64; omega)), H', ⟨Nat.le_refl _⟩, ⟨Goto.rk HO_410001⟩, ⟨Goto.rk HO_410003⟩, ⟨Goto.rk HO_410005⟩, ⟨Goto.rk HO_410007⟩, ⟨Goto.bx BK409⟩, ⟨Goto.bx BK427⟩, ⟨Goto.bx BK428⟩, ⟨Goto.bx BK429⟩, ⟨Goto.hx HB⟩⟩
            case round =>
             clear H'
             try clear c1; try clear c2; try clear p2; try clear c3; try clear c4; try clear c5; try clear c6; try clear p6; try clear c17; try clear c17b0; try clear c20; try clear c22; try clear c23; try clear c24; try clear c25; try clear c39; try clear c39b0; try clear c39b1; try clear c48; try clear c48b0; try clear c48b1; try clear c58; try clear c59; try clear c60; try clear c62; try clear c62b0; try clear c62b1; try clear p64; try clear hcz61_0; try clear hcz61_1; try clear hcz61_2; try clear hfz61_0; try clear hfz61_1; try clear hfz61_2; try clear p2; try clear p6; try clear p64
             obtain ⟨x12_4, x410000_4, x410001_4, x410002_4, x410003_4, x410004_4, x410005_4, x410006_4, x410007_4, u410001, u410003, u410005, u410007, rfl, HA, HK4, HO_410001, HO_410003, HO_410005, HO_410007, BK409, BK427, BK428, BK429, HB⟩ := hrel
             cases gk with
             | zero => exact absurd HA.out (by simp [tontinelaw9_ObjectApart.l2])
             | succ k4 =>
              have H := HA.out; clear HA
              simp only [tontinelaw9_ObjectApart.l2] at H
              by_cases c67 : x12_4 < 4
              ·
               rw [if_pos c67] at H
               have c67b0 : decide (x12_4 < 4) = true := decide_eq_true c67
               clear c67
               by_cases c68 : x12_4 = (wrap64 (Int.tmod a1 4))
               ·
                rw [if_pos c68] at H
                have c68b0 : (x12_4 == (wrap64 (Int.tmod a1 4))) = true := beq_iff_eq.mpr c68
                have c68b1 : (x12_4 != (wrap64 (Int.tmod a1 4))) = false := bne_eq_false_iff_eq.mpr c68
                clear c68
                have H' := Goto.m0 H
                clear H
                try go_wp2
                replace HO_410001 := Goto.m0 (Kd.R_drew HO_410001.out); replace HO_410003 := Goto.m0 (Kd.R_drew HO_410003.out); replace HO_410005 := Goto.m0 (Kd.R_drew HO_410005.out); replace HO_410007 := Goto.m0 (Kd.R_drew HO_410007.out); replace BK409 := Goto.m0 (blk_drew BK409.out); replace BK427 := Goto.m0 (blk_drew BK427.out); replace BK428 := Goto.m0 (blk_drew BK428.out); replace BK429 := Goto.m0 (blk_drew BK429.out); replace HB := Goto.m0 (below_drew1 HB.out)
                refine start_ (n := 22) (S := fun w' => True) (ds := []) (.replicate 22 false) (by kernel_rfl) rfl rfl trivial (fun hHeld => ?_); refine with_tabW tontinelaw9_ObjectApart.tab23 tontinelaw9_ObjectApart.bits23 (fun HT_ HW_ => ?_)
                generalize wr.drew = w69 at HO_410001 HO_410003 HO_410005 HO_410007 BK409 BK427 BK428 BK429 HB hHeld ⊢
                refine Goto.pu 0 62 22 1 ?_
                refine Goto.pu 1 63 22 3 ?_
                refine Goto.pu 2 64 22 7 ?_
                refine Goto.pu 3 65 22 15 ?_
                refine pure_ (i := 4) (N := some 66) (v := undef) (a' := ?_) (Goto.bs 22 31) rfl rfl (any_of HT_.out (by kernel_rfl)) (fun _ _ _ h => h) (Or.inr ⟨by rfl, rfl⟩) ?_ ?_
                rotate_left
                ·
                 exact Goto.ap
                refine pure_ (i := 5) (N := some 67) (v := undef) (a' := ?_) (Goto.bs 22 63) rfl rfl (any_of HT_.out (by kernel_rfl)) (fun _ _ _ h => h) (Or.inr ⟨by rfl, rfl⟩) ?_ ?_
                rotate_left
                ·
                 exact Goto.ap
                refine pure_ (i := 6) (N := some 68) (v := undef) (a' := ?_) (Goto.bs 22 127) rfl rfl (any_of HT_.out (by kernel_rfl)) (fun _ _ _ h => h) (Or.inr ⟨by rfl, rfl⟩) ?_ ?_
                rotate_left
                ·
                 exact Goto.ap
                refine pure_ (i := 7) (N := some 69) (v := undef) (a' := ?_) (Goto.bs 22 255) rfl rfl (any_of HT_.out (by kernel_rfl)) (fun _ _ _ h => h) (Or.inr ⟨by rfl, rfl⟩) ?_ ?_
                rotate_left
                ·
                 exact Goto.ap
                refine pure_ (i := 8) (N := some 70) (v := undef) (a' := ?_) (Goto.bs 22 511) rfl rfl (any_of HT_.out (by kernel_rfl)) (fun _ _ _ h => h) (Or.inr ⟨by rfl, rfl⟩) ?_ ?_
                rotate_left
                ·
                 exact Goto.ap
                refine pure_ (i := 9) (N := some 71) (v := undef) (a' := ?_) (Goto.bs 22 1023) rfl rfl (any_of HT_.out (by kernel_rfl)) (fun _ _ _ h => h) (Or.inr ⟨by rfl, rfl⟩) ?_ ?_
                rotate_left
                ·
                 exact Goto.ap
                refine pure_ (i := 10) (N := some 72) (v := undef) (a' := ?_) (Goto.bs 22 2047) rfl rfl (any_of HT_.out (by kernel_rfl)) (fun _ _ _ h => h) (Or.inr ⟨by rfl, rfl⟩) ?_ ?_
                rotate_left
                ·
                 exact Goto.ap
                refine pure_ (i := 11) (N := some 73) (v := undef) (a' := ?_) (Goto.bs 22 4095) rfl rfl (any_of HT_.out (by kernel_rfl)) (fun _ _ _ h => h) (Or.inr ⟨by rfl, rfl⟩) ?_ ?_
                rotate_left
                ·
                 exact Goto.ap
                refine pure_ (i := 12) (N := some 74) (v := undef) (a' := ?_) (Goto.bs 22 8191) rfl rfl (any_of HT_.out (by kernel_rfl)) (fun _ _ _ h => h) (Or.inr ⟨by rfl, rfl⟩) ?_ ?_
                rotate_left
                ·
                 exact Goto.ap
                refine pure_ (i := 13) (N := some 75) (v := undef) (a' := ?_) (Goto.bs 22 16383) rfl rfl (any_of HT_.out (by kernel_rfl)) (fun _ _ _ h => h) (Or.inr ⟨by rfl, rfl⟩) ?_ ?_
                rotate_left
                ·
                 exact Goto.ap
                refine pure_ (i := 14) (N := some 76) (v := undef) (a' := ?_) (Goto.bs 22 32767) rfl rfl (any_of HT_.out (by kernel_rfl)) (fun _ _ _ h => h) (Or.inr ⟨by rfl, rfl⟩) ?_ ?_
                rotate_left
                ·
                 exact Goto.ap
                refine pure_ (i := 15) (N := some 77) (v := undef) (a' := ?_) (Goto.bs 22 65535) rfl rfl (any_of HT_.out (by kernel_rfl)) (fun _ _ _ h => h) (Or.inr ⟨by rfl, rfl⟩) ?_ ?_
                rotate_left
                ·
                 exact Goto.ap
                refine pure_ (i := 16) (N := some 78) (v := undef) (a' := ?_) (Goto.bs 22 131071) rfl rfl (any_of HT_.out (by kernel_rfl)) (fun _ _ _ h => h) (Or.inr ⟨by rfl, rfl⟩) ?_ ?_
                rotate_left
                ·
                 exact Goto.ap
                refine pure_ (i := 17) (N := some 79) (v := undef) (a' := ?_) (Goto.bs 22 262143) rfl rfl (any_of HT_.out (by kernel_rfl)) (fun _ _ _ h => h) (Or.inr ⟨by rfl, rfl⟩) ?_ ?_
                rotate_left
                ·
                 exact Goto.ap
                refine pure_ (i := 18) (N := some 80) (v := undef) (a' := ?_) (Goto.bs 22 524287) rfl rfl (any_of HT_.out (by kernel_rfl)) (fun _ _ _ h => h) (Or.inr ⟨by rfl, rfl⟩) ?_ ?_
                rotate_left
                ·
                 exact Goto.ap
                refine pure_ (i := 19) (N := some 81) (v := undef) (a' := ?_) (Goto.bs 22 1048575) rfl rfl (any_of HT_.out (by kernel_rfl)) (fun _ _ _ h => h) (Or.inr ⟨by rfl, rfl⟩) ?_ ?_
                rotate_left
                ·
                 exact Goto.ap
                refine pure_ (i := 20) (N := some 82) (v := undef) (a' := ?_) (Goto.bs 22 2097151) rfl rfl (any_of HT_.out (by kernel_rfl)) (fun _ _ _ h => h) (Or.inr ⟨by rfl, rfl⟩) ?_ ?_
                rotate_left
                ·
                 exact Goto.ap
                refine Goto.pu 21 83 22 4194303 ?_
                refine done_ (done_of HT_.out (by kernel_rfl)) ?_
                try go_wp2
                go_roundg k4
                case measure => have := HK1.out; have := HK2.out; have := HJ56.out; have := HK4.out; omega
                case rel => exact ⟨(wrap64 (x12_4 + 1)), (x410000_4), (x410001_4), (x410002_4), (x410003_4), (x410004_4), (x410005_4), (x410006_4), (x410007_4), (u410001), (u410003), (u410005), (u410007), (by first | rfl | (simp; done) | (simp [*]; done) | (congr 1; unfold wrap64; omega)), H', ⟨by have := HK1.out; have := HK2.out; have := HJ56.out; have := HK4.out; omega⟩, ⟨Goto.rk HO_410001⟩, ⟨Goto.rk HO_410003⟩, ⟨Goto.rk HO_410005⟩, ⟨Goto.rk HO_410007⟩, ⟨Goto.bx BK409⟩, ⟨Goto.bx BK427⟩, ⟨Goto.bx BK428⟩, ⟨Goto.bx BK429⟩, ⟨Goto.hx HB⟩⟩
               ·
                rw [if_neg c68] at H
                have c68b0 : (x12_4 == (wrap64 (Int.tmod a1 4))) = false := beq_eq_false_iff_ne.mpr c68
                have c68b1 : (x12_4 != (wrap64 (Int.tmod a1 4))) = true := bne_iff_ne.mpr c68
                replace H := Option.bind_eq_some_iff.mp H
                obtain ⟨⟨t503, t504, t505, t508, t509, t512, t513, t516, t517⟩, A700, H⟩ := H
                replace H : (if 0 ≤ x12_4 then (if x12_4 = 0 then (if t503 = x429000_2 then ((object_Objects_Row.f t504 t505 t508 t509 t512 t513 t516 t517 x12_4).bind fun bt520 => (if (bt520.1.length : Int) = x430000_2 then (tontinelaw9_ObjectApart.l2 k4 l0 (wrap64 (Int.tmod a1 4)) x7_1 (wrap64 (x12_4 + 1)) bt520.2.1 bt520.2.2.1 bt520.2.2.2.1 bt520.2.2.2.2.1 bt520.2.2.2.2.2.1 bt520.2.2.2.2.2.2.1 bt520.2.2.2.2.2.2.2.1 bt520.2.2.2.2.2.2.2.2 x429000_2 x429001_2 x429002_2 x429003_2 x430000_2 x430001_2 x430002_2 x430003_2) else (some false))) else (some false)) else (if x12_4 = 1 then (if t503 = x429001_2 then ((object_Objects_Row.f t504 t505 t508 t509 t512 t513 t516 t517 x12_4).bind fun bt539 => (if (bt539.1.length : Int) = x430001_2 then (tontinelaw9_ObjectApart.l2 k4 l0 (wrap64 (Int.tmod a1 4)) x7_1 (wrap64 (x12_4 + 1)) bt539.2.1 bt539.2.2.1 bt539.2.2.2.1 bt539.2.2.2.2.1 bt539.2.2.2.2.2.1 bt539.2.2.2.2.2.2.1 bt539.2.2.2.2.2.2.2.1 bt539.2.2.2.2.2.2.2.2 x429000_2 x429001_2 x429002_2 x429003_2 x430000_2 x430001_2 x430002_2 x430003_2) else (some false))) else (some false)) else (if x12_4 = 2 then (if t503 = x429002_2 then ((object_Objects_Row.f t504 t505 t508 t509 t512 t513 t516 t517 x12_4).bind fun bt558 => (if (bt558.1.length : Int) = x430002_2 then (tontinelaw9_ObjectApart.l2 k4 l0 (wrap64 (Int.tmod a1 4)) x7_1 (wrap64 (x12_4 + 1)) bt558.2.1 bt558.2.2.1 bt558.2.2.2.1 bt558.2.2.2.2.1 bt558.2.2.2.2.2.1 bt558.2.2.2.2.2.2.1 bt558.2.2.2.2.2.2.2.1 bt558.2.2.2.2.2.2.2.2 x429000_2 x429001_2 x429002_2 x429003_2 x430000_2 x430001_2 x430002_2 x430003_2) else (some false))) else (some false)) else (if x12_4 = 3 then (if t503 = x429003_2 then ((object_Objects_Row.f t504 t505 t508 t509 t512 t513 t516 t517 x12_4).bind fun bt577 => (if (bt577.1.length : Int) = x430003_2 then (tontinelaw9_ObjectApart.l2 k4 l0 (wrap64 (Int.tmod a1 4)) x7_1 (wrap64 (x12_4 + 1)) bt577.2.1 bt577.2.2.1 bt577.2.2.2.1 bt577.2.2.2.2.1 bt577.2.2.2.2.2.1 bt577.2.2.2.2.2.2.1 bt577.2.2.2.2.2.2.2.1 bt577.2.2.2.2.2.2.2.2 x429000_2 x429001_2 x429002_2 x429003_2 x430000_2 x430001_2 x430002_2 x430003_2) else (some false))) else (some false)) else (none))))) else (none)) = some r := H
                have A70 := Goto.m0 A700
                clear A700
                by_cases c71 : 0 ≤ x12_4
                ·
                 rw [if_pos c71] at H
                 have c71b0 : decide (0 ≤ x12_4) = true := decide_eq_true c71
                 clear c71
                 by_cases c72 : x12_4 = 0
                 ·
                  rw [if_pos c72] at H
                  have c72b0 : (x12_4 == 0) = true := beq_iff_eq.mpr c72
                  have c72b1 : (x12_4 != 0) = false := bne_eq_false_iff_eq.mpr c72
                  clear c72
                  have hix73e : x12_4 = 0 := eq_of_beq (by first | (with_reducible assumption) | assumption)
                  have hix73 : (x12_4).toNat = 0 := by rw [hix73e]; rfl
                  have hix73c : (0 ≤ x12_4 ∧ x12_4 < (4 : Int)) = True := eq_true (by rw [hix73e]; decide)
                  clear hix73e
                  by_cases c74 : t503 = x429000_2
                  ·
                   rw [if_pos c74] at H
                   have c74b0 : (t503 == x429000_2) = true := beq_iff_eq.mpr c74
                   have c74b1 : (t503 != x429000_2) = false := bne_eq_false_iff_eq.mpr c74
                   clear c74
                   replace H := Option.bind_eq_some_iff.mp H
                   obtain ⟨⟨t520, t523, t524, t527, t528, t531, t532, t535, t536⟩, A750, H⟩ := H
                   replace H : (if (t520.length : Int) = x430000_2 then (tontinelaw9_ObjectApart.l2 k4 l0 (wrap64 (Int.tmod a1 4)) x7_1 (wrap64 (x12_4 + 1)) t523 t524 t527 t528 t531 t532 t535 t536 x429000_2 x429001_2 x429002_2 x429003_2 x430000_2 x430001_2 x430002_2 x430003_2) else (some false)) = some r := H
                   have A75 := Goto.m0 A750
                   clear A750
                   have hix76e : x12_4 = 0 := eq_of_beq (by first | (with_reducible assumption) | assumption)
                   have hix76 : (x12_4).toNat = 0 := by rw [hix76e]; rfl
                   have hix76c : (0 ≤ x12_4 ∧ x12_4 < (4 : Int)) = True := eq_true (by rw [hix76e]; decide)
                   clear hix76e
                   by_cases c77 : (t520.length : Int) = x430000_2
                   ·
                    rw [if_pos c77] at H
                    have c77b0 : ((t520.length : Int) == x430000_2) = true := beq_iff_eq.mpr c77
                    have c77b1 : ((t520.length : Int) != x430000_2) = false := bne_eq_false_iff_eq.mpr c77
                    clear c77
                    have H' := Goto.m0 H
                    clear H
                    try go_wp2
                    replace HO_410001 := Goto.m0 (Kd.R_drew HO_410001.out); replace HO_410003 := Goto.m0 (Kd.R_drew HO_410003.out); replace HO_410005 := Goto.m0 (Kd.R_drew HO_410005.out); replace HO_410007 := Goto.m0 (Kd.R_drew HO_410007.out); replace BK409 := Goto.m0 (blk_drew BK409.out); replace BK427 := Goto.m0 (blk_drew BK427.out); replace BK428 := Goto.m0 (blk_drew BK428.out); replace BK429 := Goto.m0 (blk_drew BK429.out); replace HB := Goto.m0 (below_drew1 HB.out)
                    refine start_ (n := 22) (S := fun w' => w'.cell? ⟨gb428, 0, none⟩ = some (.int .i64 x429000_2) ∧ w'.cell? ⟨gb428, 1, none⟩ = some (.int .i64 x429001_2) ∧ w'.cell? ⟨gb428, 2, none⟩ = some (.int .i64 x429002_2) ∧ w'.cell? ⟨gb428, 3, none⟩ = some (.int .i64 x429003_2) ∧ w'.cell? ⟨gb429, 0, none⟩ = some (.int .i64 x430000_2) ∧ w'.cell? ⟨gb429, 1, none⟩ = some (.int .i64 x430001_2) ∧ w'.cell? ⟨gb429, 2, none⟩ = some (.int .i64 x430002_2) ∧ w'.cell? ⟨gb429, 3, none⟩ = some (.int .i64 x430003_2)) (ds := []) (.replicate 22 false) (by kernel_rfl) rfl rfl ⟨(blk_cell BK428.out 0).trans rfl, (blk_cell BK428.out 1).trans rfl, (blk_cell BK428.out 2).trans rfl, (blk_cell BK428.out 3).trans rfl, (blk_cell BK429.out 0).trans rfl, (blk_cell BK429.out 1).trans rfl, (blk_cell BK429.out 2).trans rfl, (blk_cell BK429.out 3).trans rfl⟩ (fun hHeld => ?_); refine with_tabW tontinelaw9_ObjectApart.tab23 tontinelaw9_ObjectApart.bits23 (fun HT_ HW_ => ?_)
                    generalize wr.drew = w78 at HO_410001 HO_410003 HO_410005 HO_410007 BK409 BK427 BK428 BK429 HB hHeld ⊢
                    refine Goto.pu 0 62 22 1 ?_
                    refine Goto.pu 1 63 22 3 ?_
                    refine Goto.pu 2 64 22 7 ?_
                    refine Goto.pu 3 65 22 15 ?_
                    refine Goto.pu 4 66 22 31 ?_
                    refine Goto.pu 5 67 22 63 ?_
                    refine Goto.pu 7 69 22 191 ?_
                    refine Goto.pu 8 70 22 447 ?_
                    refine take_ (i := 9) (N := some 71) (v := ?_) (a' := ?_) (Goto.bs 22 959) rfl rfl (take_ofW HT_.out HW_.out (by kernel_rfl)) (fun _ _ _ h => h) (Or.inl ⟨by rfl, ?_⟩) hHeld ?_ ?_
                    rotate_left
                    ·
                     rintro w' ⟨s0, s1, s2, s3, s4, s5, s6, s7⟩
                     go_simp
                     with_reducible rfl
                    rotate_left
                    ·
                     exact Goto.ap
                    refine one_ (i := 6) (N := some 68) (Goto.bs 22 1023) rfl rfl (one_of HT_.out (by kernel_rfl)) (by decide) (fun K hK => ?_)
                    refine goes_ Try.func24 (by kernel_rfl) rfl #[.pointer (some ⟨gb409, 0, none⟩), .int .i64 x12_4] (by rfl) rfl rfl (by (try simp only [List.map_toArray, List.map_cons, List.map_nil]); first | done | rfl | (simp only [List.length_drop, List.length_take]; rfl)) ?_
                    with_reducible refine (object_Objects_Count.calls gb409 x410000_4 (fun k_ => some k_ = (u410001 : Value).ownBlock) u410001 x410001_4 x410002_4 (fun k_ => some k_ = (u410003 : Value).ownBlock) u410003 x410003_4 x410004_4 (fun k_ => some k_ = (u410005 : Value).ownBlock) u410005 x410005_4 x410006_4 (fun k_ => some k_ = (u410007 : Value).ownBlock) u410007 x410007_4 x12_4 t503 t504 t505 t508 t509 t512 t513 t516 t517 w _ ?side1 ?side2 ?side3 ?side4 ?side5 ?side6 ?side7 ?side8 ?side9 ?side10 ?side11 ?side12 ?side13 ?side14 ?side15 ?side16 ?side17 ?side18 ?side19 A70.out).mono ?_
                    (case side1 => exact by (with_reducible repeat first | refine blk_drewN ?_ _ | refine blk_drew ?_ | refine blk_alloc ?_ _); exact BK409.out)
                    (case side2 => exact GE409.out)
                    (case side3 => repeat (first | (with_reducible first | exact HB.out | apply below_alloc | apply pw_below_drewN | apply below_drew1 | refine below_set ?_ GE409.out | refine below_set ?_ GE427.out | refine below_set ?_ GE428.out | refine below_set ?_ GE429.out) | exact HB.out))
                    (case side4 => exact Kd.R_tight rfl HO_410001.out)
                    (case side5 => exact fun k_ e_ => (HO_410001.out.1 k_ e_.symm).1)
                    (case side6 => exact fun k_ e_ => (HO_410001.out.1 k_ e_.symm).2.1)
                    (case side7 => exact fun k_ e_ => (HO_410001.out.1 k_ e_.symm).2.2)
                    (case side8 => exact Kd.R_tight rfl HO_410003.out)
                    (case side9 => exact fun k_ e_ => (HO_410003.out.1 k_ e_.symm).1)
                    (case side10 => exact fun k_ e_ => (HO_410003.out.1 k_ e_.symm).2.1)
                    (case side11 => exact fun k_ e_ => (HO_410003.out.1 k_ e_.symm).2.2)
                    (case side12 => exact Kd.R_tight rfl HO_410005.out)
                    (case side13 => exact fun k_ e_ => (HO_410005.out.1 k_ e_.symm).1)
                    (case side14 => exact fun k_ e_ => (HO_410005.out.1 k_ e_.symm).2.1)
                    (case side15 => exact fun k_ e_ => (HO_410005.out.1 k_ e_.symm).2.2)
                    (case side16 => exact Kd.R_tight rfl HO_410007.out)
                    (case side17 => exact fun k_ e_ => (HO_410007.out.1 k_ e_.symm).1)
                    (case side18 => exact fun k_ e_ => (HO_410007.out.1 k_ e_.symm).2.1)
                    (case side19 => exact fun k_ e_ => (HO_410007.out.1 k_ e_.symm).2.2)
                    rintro e w79 ⟨v506, v510, v514, v518, rfl, ho0, ho1, ho2, ho3, hi, hb, hkp⟩
                    refine ⟨_, rfl, ?_⟩
                    have n0_ := Goto.m0 (hi)
                    have n1_ := Goto.m0 (blk_kept (Goto.bx BK427) hkp (fun hs_ => Or.elim hs_ (fun hs_ => Or.elim hs_ (fun e_ => (fun e_ => (Kd.R_ne HO_410001.out BK427.out (by decide)) e_) e_) (fun e_ => Or.elim e_ (fun e_ => (fun e_ => (Kd.R_ne HO_410003.out BK427.out (by decide)) e_) e_) (fun e_ => Or.elim e_ (fun e_ => (fun e_ => (Kd.R_ne HO_410005.out BK427.out (by decide)) e_) e_) (fun e_ => (fun e_ => (Kd.R_ne HO_410007.out BK427.out (by decide)) e_) e_)))) (fun e_ => NB427_409.out e_)))
                    have n2_ := Goto.m0 (blk_kept (Goto.bx BK428) hkp (fun hs_ => Or.elim hs_ (fun hs_ => Or.elim hs_ (fun e_ => (fun e_ => (Kd.R_ne HO_410001.out BK428.out (by decide)) e_) e_) (fun e_ => Or.elim e_ (fun e_ => (fun e_ => (Kd.R_ne HO_410003.out BK428.out (by decide)) e_) e_) (fun e_ => Or.elim e_ (fun e_ => (fun e_ => (Kd.R_ne HO_410005.out BK428.out (by decide)) e_) e_) (fun e_ => (fun e_ => (Kd.R_ne HO_410007.out BK428.out (by decide)) e_) e_)))) (fun e_ => NB428_409.out e_)))
                    have n3_ := Goto.m0 (blk_kept (Goto.bx BK429) hkp (fun hs_ => Or.elim hs_ (fun hs_ => Or.elim hs_ (fun e_ => (fun e_ => (Kd.R_ne HO_410001.out BK429.out (by decide)) e_) e_) (fun e_ => Or.elim e_ (fun e_ => (fun e_ => (Kd.R_ne HO_410003.out BK429.out (by decide)) e_) e_) (fun e_ => Or.elim e_ (fun e_ => (fun e_ => (Kd.R_ne HO_410005.out BK429.out (by decide)) e_) e_) (fun e_ => (fun e_ => (Kd.R_ne HO_410007.out BK429.out (by decide)) e_) e_)))) (fun e_ => NB429_409.out e_)))
                    have n4_ := Goto.m0 (Kd.R_mono (ok' := fun k_ => some k_ ≠ (v510 : Value).ownBlock ∧ some k_ ≠ (v514 : Value).ownBlock ∧ some k_ ≠ (v518 : Value).ownBlock) ho0 (fun k_ hk_ => ⟨hk_.2.1, hk_.2.2.1, hk_.2.2.2⟩))
                    have n5_ := Goto.m0 (Kd.R_mono (ok' := fun k_ => some k_ ≠ (v506 : Value).ownBlock ∧ some k_ ≠ (v514 : Value).ownBlock ∧ some k_ ≠ (v518 : Value).ownBlock) ho1 (fun k_ hk_ => ⟨hk_.2.1, hk_.2.2.1, hk_.2.2.2⟩))
                    have n6_ := Goto.m0 (Kd.R_mono (ok' := fun k_ => some k_ ≠ (v506 : Value).ownBlock ∧ some k_ ≠ (v510 : Value).ownBlock ∧ some k_ ≠ (v518 : Value).ownBlock) ho2 (fun k_ hk_ => ⟨hk_.2.1, hk_.2.2.1, hk_.2.2.2⟩))
                    have n7_ := Goto.m0 (Kd.R_mono (ok' := fun k_ => some k_ ≠ (v506 : Value).ownBlock ∧ some k_ ≠ (v510 : Value).ownBlock ∧ some k_ ≠ (v514 : Value).ownBlock) ho3 (fun k_ hk_ => ⟨hk_.2.1, hk_.2.2.1, hk_.2.2.2⟩))
                    have n8_ := Goto.m0 (hb)
                    clear BK409; clear BK427; clear BK428; clear BK429; clear HB; clear HO_410001; clear HO_410003; clear HO_410005; clear HO_410007; have BK409 := n0_; have BK427 := n1_; have BK428 := n2_; have BK429 := n3_; have HO507 := n4_; have HO511 := n5_; have HO515 := n6_; have HO519 := n7_; have HB := n8_; clear n0_ n1_ n2_ n3_ n4_ n5_ n6_ n7_ n8_
                    (try clear hb)
                    (try clear hkp)
                    (try clear ho0)
                    (try clear ho1)
                    (try clear ho2)
                    (try clear ho3)
                    refine hK.out _ _ ⟨(blk_cell BK428.out 0).trans rfl, (blk_cell BK428.out 1).trans rfl, (blk_cell BK428.out 2).trans rfl, (blk_cell BK428.out 3).trans rfl, (blk_cell BK429.out 0).trans rfl, (blk_cell BK429.out 1).trans rfl, (blk_cell BK429.out 2).trans rfl, (blk_cell BK429.out 3).trans rfl⟩ (fun hHeld => ?_)
                    clear hK K
                    refine norm_ (a' := ?_) ?_ ?_
                    rotate_left
                    ·
                     show Act.put _ (some 68) _ = _
                     exact Goto.ap
                    refine Goto.pu 10 72 22 2047 ?_
                    refine Goto.pu 11 73 22 4095 ?_
                    refine Goto.pu 12 74 22 8191 ?_
                    refine Goto.pu 13 75 22 16383 ?_
                    refine Goto.pu 16 78 22 81919 ?_
                    refine Goto.pu 17 79 22 212991 ?_
                    refine take_ (i := 18) (N := some 80) (v := ?_) (a' := ?_) (Goto.bs 22 475135) rfl rfl (take_ofW HT_.out HW_.out (by kernel_rfl)) (fun _ _ _ h => h) (Or.inl ⟨by rfl, ?_⟩) hHeld ?_ ?_
                    rotate_left
                    ·
                     rintro w' ⟨s0, s1, s2, s3, s4, s5, s6, s7⟩
                     go_simp
                     with_reducible rfl
                    rotate_left
                    ·
                     exact Goto.ap
                    refine one_ (i := 14) (N := some 76) (Goto.bs 22 491519) rfl rfl (one_of HT_.out (by kernel_rfl)) (by decide) (fun K hK => ?_)
                    refine goes_ Try.func25 (by kernel_rfl) rfl #[.pointer (some ⟨gb409, 0, none⟩), .int .i64 x12_4] (by rfl) rfl rfl (by (try simp only [List.map_toArray, List.map_cons, List.map_nil]); first | done | rfl | (simp only [List.length_drop, List.length_take]; rfl)) ?_
                    with_reducible refine (object_Objects_Row.calls gb409 t504 (fun k_ => some k_ = (v506 : Value).ownBlock) v506 t505 t508 (fun k_ => some k_ = (v510 : Value).ownBlock) v510 t509 t512 (fun k_ => some k_ = (v514 : Value).ownBlock) v514 t513 t516 (fun k_ => some k_ = (v518 : Value).ownBlock) v518 t517 x12_4 t520 t523 t524 t527 t528 t531 t532 t535 t536 w _ ?side1 ?side2 ?side3 ?side4 ?side5 ?side6 ?side7 ?side8 ?side9 ?side10 ?side11 ?side12 ?side13 ?side14 ?side15 ?side16 ?side17 ?side18 ?side19 A75.out).mono ?_
                    (case side1 => exact by (with_reducible repeat first | refine blk_drewN ?_ _ | refine blk_drew ?_ | refine blk_alloc ?_ _); exact BK409.out)
                    (case side2 => exact GE409.out)
                    (case side3 => repeat (first | (with_reducible first | exact HB.out | apply below_alloc | apply pw_below_drewN | apply below_drew1 | refine below_set ?_ GE409.out | refine below_set ?_ GE427.out | refine below_set ?_ GE428.out | refine below_set ?_ GE429.out) | exact HB.out))
                    (case side4 => exact Kd.R_tight rfl HO507.out)
                    (case side5 => exact fun k_ e_ => (HO507.out.1 k_ e_.symm).1)
                    (case side6 => exact fun k_ e_ => (HO507.out.1 k_ e_.symm).2.1)
                    (case side7 => exact fun k_ e_ => (HO507.out.1 k_ e_.symm).2.2)
                    (case side8 => exact Kd.R_tight rfl HO511.out)
                    (case side9 => exact fun k_ e_ => (HO511.out.1 k_ e_.symm).1)
                    (case side10 => exact fun k_ e_ => (HO511.out.1 k_ e_.symm).2.1)
                    (case side11 => exact fun k_ e_ => (HO511.out.1 k_ e_.symm).2.2)
                    (case side12 => exact Kd.R_tight rfl HO515.out)
                    (case side13 => exact fun k_ e_ => (HO515.out.1 k_ e_.symm).1)
                    (case side14 => exact fun k_ e_ => (HO515.out.1 k_ e_.symm).2.1)
                    (case side15 => exact fun k_ e_ => (HO515.out.1 k_ e_.symm).2.2)
                    (case side16 => exact Kd.R_tight rfl HO519.out)
                    (case side17 => exact fun k_ e_ => (HO519.out.1 k_ e_.symm).1)
                    (case side18 => exact fun k_ e_ => (HO519.out.1 k_ e_.symm).2.1)
                    (case side19 => exact fun k_ e_ => (HO519.out.1 k_ e_.symm).2.2)
                    rintro e w80 ⟨v521, v525, v529, v533, v537, rfl, ho0, ho1, ho2, ho3, ho4, hi, hb, hkp⟩
                    refine ⟨_, rfl, ?_⟩
                    have n0_ := Goto.m0 (hi)
                    have n1_ := Goto.m0 (blk_kept (Goto.bx BK427) hkp (fun hs_ => Or.elim hs_ (fun hs_ => Or.elim hs_ (fun e_ => (fun e_ => (Kd.R_ne HO507.out BK427.out (by decide)) e_) e_) (fun e_ => Or.elim e_ (fun e_ => (fun e_ => (Kd.R_ne HO511.out BK427.out (by decide)) e_) e_) (fun e_ => Or.elim e_ (fun e_ => (fun e_ => (Kd.R_ne HO515.out BK427.out (by decide)) e_) e_) (fun e_ => (fun e_ => (Kd.R_ne HO519.out BK427.out (by decide)) e_) e_)))) (fun e_ => NB427_409.out e_)))
                    have n2_ := Goto.m0 (blk_kept (Goto.bx BK428) hkp (fun hs_ => Or.elim hs_ (fun hs_ => Or.elim hs_ (fun e_ => (fun e_ => (Kd.R_ne HO507.out BK428.out (by decide)) e_) e_) (fun e_ => Or.elim e_ (fun e_ => (fun e_ => (Kd.R_ne HO511.out BK428.out (by decide)) e_) e_) (fun e_ => Or.elim e_ (fun e_ => (fun e_ => (Kd.R_ne HO515.out BK428.out (by decide)) e_) e_) (fun e_ => (fun e_ => (Kd.R_ne HO519.out BK428.out (by decide)) e_) e_)))) (fun e_ => NB428_409.out e_)))
                    have n3_ := Goto.m0 (blk_kept (Goto.bx BK429) hkp (fun hs_ => Or.elim hs_ (fun hs_ => Or.elim hs_ (fun e_ => (fun e_ => (Kd.R_ne HO507.out BK429.out (by decide)) e_) e_) (fun e_ => Or.elim e_ (fun e_ => (fun e_ => (Kd.R_ne HO511.out BK429.out (by decide)) e_) e_) (fun e_ => Or.elim e_ (fun e_ => (fun e_ => (Kd.R_ne HO515.out BK429.out (by decide)) e_) e_) (fun e_ => (fun e_ => (Kd.R_ne HO519.out BK429.out (by decide)) e_) e_)))) (fun e_ => NB429_409.out e_)))
                    have n4_ := Goto.m0 (Kd.R_mono (ok' := fun k_ => some k_ ≠ (v525 : Value).ownBlock ∧ some k_ ≠ (v529 : Value).ownBlock ∧ some k_ ≠ (v533 : Value).ownBlock ∧ some k_ ≠ (v537 : Value).ownBlock) ho0 (fun k_ hk_ => ⟨hk_.2.1, hk_.2.2.1, hk_.2.2.2.1, hk_.2.2.2.2⟩))
                    have n5_ := Goto.m0 (Kd.R_mono (ok' := fun k_ => some k_ ≠ (v521 : Value).ownBlock ∧ some k_ ≠ (v529 : Value).ownBlock ∧ some k_ ≠ (v533 : Value).ownBlock ∧ some k_ ≠ (v537 : Value).ownBlock) ho1 (fun k_ hk_ => ⟨hk_.2.1, hk_.2.2.1, hk_.2.2.2.1, hk_.2.2.2.2⟩))
                    have n6_ := Goto.m0 (Kd.R_mono (ok' := fun k_ => some k_ ≠ (v521 : Value).ownBlock ∧ some k_ ≠ (v525 : Value).ownBlock ∧ some k_ ≠ (v533 : Value).ownBlock ∧ some k_ ≠ (v537 : Value).ownBlock) ho2 (fun k_ hk_ => ⟨hk_.2.1, hk_.2.2.1, hk_.2.2.2.1, hk_.2.2.2.2⟩))
                    have n7_ := Goto.m0 (Kd.R_mono (ok' := fun k_ => some k_ ≠ (v521 : Value).ownBlock ∧ some k_ ≠ (v525 : Value).ownBlock ∧ some k_ ≠ (v529 : Value).ownBlock ∧ some k_ ≠ (v537 : Value).ownBlock) ho3 (fun k_ hk_ => ⟨hk_.2.1, hk_.2.2.1, hk_.2.2.2.1, hk_.2.2.2.2⟩))
                    have n8_ := Goto.m0 (Kd.R_mono (ok' := fun k_ => some k_ ≠ (v521 : Value).ownBlock ∧ some k_ ≠ (v525 : Value).ownBlock ∧ some k_ ≠ (v529 : Value).ownBlock ∧ some k_ ≠ (v533 : Value).ownBlock) ho4 (fun k_ hk_ => ⟨hk_.2.1, hk_.2.2.1, hk_.2.2.2.1, hk_.2.2.2.2⟩))
                    have n9_ := Goto.m0 (hb)
                    clear BK409; clear BK427; clear BK428; clear BK429; clear HB; clear HO507; clear HO511; clear HO515; clear HO519; have BK409 := n0_; have BK427 := n1_; have BK428 := n2_; have BK429 := n3_; have HO522 := n4_; have HO526 := n5_; have HO530 := n6_; have HO534 := n7_; have HO538 := n8_; have HB := n9_; clear n0_ n1_ n2_ n3_ n4_ n5_ n6_ n7_ n8_ n9_
                    (try clear hb)
                    (try clear hkp)
                    (try clear ho0)
                    (try clear ho1)
                    (try clear ho2)
                    (try clear ho3)
                    (try clear ho4)
                    obtain ⟨Ao81, co81, eo81⟩ := Kd.R_slice HO522.out
                    (first | subst eo81 | (injection eo81 with f1_ f2_ f3_; have f4_ := f1_.symm; have f5_ := f3_.symm; clear f1_ f2_ f3_; subst f4_; subst f5_))
                    refine hK.out _ _ ⟨(blk_cell BK428.out 0).trans rfl, (blk_cell BK428.out 1).trans rfl, (blk_cell BK428.out 2).trans rfl, (blk_cell BK428.out 3).trans rfl, (blk_cell BK429.out 0).trans rfl, (blk_cell BK429.out 1).trans rfl, (blk_cell BK429.out 2).trans rfl, (blk_cell BK429.out 3).trans rfl⟩ (fun hHeld => ?_)
                    clear hK K
                    refine norm_ (a' := ?_) ?_ ?_
                    rotate_left
                    ·
                     show Act.put _ (some 76) _ = _
                     exact Goto.ap
                    refine Goto.pu 15 77 22 524287 ?_
                    refine Goto.pu 19 81 22 1048575 ?_
                    refine Goto.pu 20 82 22 2097151 ?_
                    refine Goto.pu 21 83 22 4194303 ?_
                    refine done_ (done_of HT_.out (by kernel_rfl)) ?_
                    try go_wp2
                    go_roundg k4
                    case measure => have := HK1.out; have := HK2.out; have := HJ56.out; have := HK4.out; omega
                    case rel => exact ⟨(wrap64 (x12_4 + 1)), (t523), (t524), (t527), (t528), (t531), (t532), (t535), (t536), (v525), (v529), (v533), (v537), (by first | rfl | (simp; done) | (simp [*]; done) | (congr 1; unfold wrap64; omega)), H', ⟨by have := HK1.out; have := HK2.out; have := HJ56.out; have := HK4.out; omega⟩, ⟨by (with_reducible repeat (first | apply Kd.R_alloc | apply Kd.R_drewN | apply Kd.R_drew)); exact Kd.R_mono HO526.out (fun _ hk => ⟨hk.2.1, ⟨hk.2.2.1, hk.2.2.2⟩⟩)⟩, ⟨by (with_reducible repeat (first | apply Kd.R_alloc | apply Kd.R_drewN | apply Kd.R_drew)); exact Kd.R_mono HO530.out (fun _ hk => ⟨hk.2.1, ⟨hk.2.2.1, hk.2.2.2⟩⟩)⟩, ⟨by (with_reducible repeat (first | apply Kd.R_alloc | apply Kd.R_drewN | apply Kd.R_drew)); exact Kd.R_mono HO534.out (fun _ hk => ⟨hk.2.1, ⟨hk.2.2.1, hk.2.2.2⟩⟩)⟩, ⟨by (with_reducible repeat (first | apply Kd.R_alloc | apply Kd.R_drewN | apply Kd.R_drew)); exact Kd.R_mono HO538.out (fun _ hk => ⟨hk.2.1, ⟨hk.2.2.1, hk.2.2.2⟩⟩)⟩, ⟨Goto.bx BK409⟩, ⟨Goto.bx BK427⟩, ⟨Goto.bx BK428⟩, ⟨Goto.bx BK429⟩, ⟨Goto.hx HB⟩⟩
                   ·
                    rw [if_neg c77] at H
                    have c77b0 : ((t520.length : Int) == x430000_2) = false := beq_eq_false_iff_ne.mpr c77
                    have c77b1 : ((t520.length : Int) != x430000_2) = true := bne_iff_ne.mpr c77
                    exact absurd ((Option.some.inj H).trans HRT.out) (by decide)
                  ·
                   rw [if_neg c74] at H
                   have c74b0 : (t503 == x429000_2) = false := beq_eq_false_iff_ne.mpr c74
                   have c74b1 : (t503 != x429000_2) = true := bne_iff_ne.mpr c74
                   exact absurd ((Option.some.inj H).trans HRT.out) (by decide)
                 ·
                  rw [if_neg c72] at H
                  have c72b0 : (x12_4 == 0) = false := beq_eq_false_iff_ne.mpr c72
                  have c72b1 : (x12_4 != 0) = true := bne_iff_ne.mpr c72
                  by_cases c82 : x12_4 = 1
                  ·
                   rw [if_pos c82] at H
                   have c82b0 : (x12_4 == 1) = true := beq_iff_eq.mpr c82
                   have c82b1 : (x12_4 != 1) = false := bne_eq_false_iff_eq.mpr c82
                   clear c82
                   have hix83e : x12_4 = 1 := eq_of_beq (by first | (with_reducible assumption) | assumption)
                   have hix83 : (x12_4).toNat = 1 := by rw [hix83e]; rfl
                   have hix83c : (0 ≤ x12_4 ∧ x12_4 < (4 : Int)) = True := eq_true (by rw [hix83e]; decide)
                   clear hix83e
                   by_cases c84 : t503 = x429001_2
                   ·
                    rw [if_pos c84] at H
                    have c84b0 : (t503 == x429001_2) = true := beq_iff_eq.mpr c84
                    have c84b1 : (t503 != x429001_2) = false := bne_eq_false_iff_eq.mpr c84
                    clear c84
                    replace H := Option.bind_eq_some_iff.mp H
                    obtain ⟨⟨t539, t542, t543, t546, t547, t550, t551, t554, t555⟩, A850, H⟩ := H
                    replace H : (if (t539.length : Int) = x430001_2 then (tontinelaw9_ObjectApart.l2 k4 l0 (wrap64 (Int.tmod a1 4)) x7_1 (wrap64 (x12_4 + 1)) t542 t543 t546 t547 t550 t551 t554 t555 x429000_2 x429001_2 x429002_2 x429003_2 x430000_2 x430001_2 x430002_2 x430003_2) else (some false)) = some r := H
                    have A85 := Goto.m0 A850
                    clear A850
                    have hix86e : x12_4 = 1 := eq_of_beq (by first | (with_reducible assumption) | assumption)
                    have hix86 : (x12_4).toNat = 1 := by rw [hix86e]; rfl
                    have hix86c : (0 ≤ x12_4 ∧ x12_4 < (4 : Int)) = True := eq_true (by rw [hix86e]; decide)
                    clear hix86e
                    by_cases c87 : (t539.length : Int) = x430001_2
                    ·
                     rw [if_pos c87] at H
                     have c87b0 : ((t539.length : Int) == x430001_2) = true := beq_iff_eq.mpr c87
                     have c87b1 : ((t539.length : Int) != x430001_2) = false := bne_eq_false_iff_eq.mpr c87
                     clear c87
                     have H' := Goto.m0 H
                     clear H
                     try go_wp2
                     replace HO_410001 := Goto.m0 (Kd.R_drew HO_410001.out); replace HO_410003 := Goto.m0 (Kd.R_drew HO_410003.out); replace HO_410005 := Goto.m0 (Kd.R_drew HO_410005.out); replace HO_410007 := Goto.m0 (Kd.R_drew HO_410007.out); replace BK409 := Goto.m0 (blk_drew BK409.out); replace BK427 := Goto.m0 (blk_drew BK427.out); replace BK428 := Goto.m0 (blk_drew BK428.out); replace BK429 := Goto.m0 (blk_drew BK429.out); replace HB := Goto.m0 (below_drew1 HB.out)
                     refine start_ (n := 22) (S := fun w' => w'.cell? ⟨gb428, 0, none⟩ = some (.int .i64 x429000_2) ∧ w'.cell? ⟨gb428, 1, none⟩ = some (.int .i64 x429001_2) ∧ w'.cell? ⟨gb428, 2, none⟩ = some (.int .i64 x429002_2) ∧ w'.cell? ⟨gb428, 3, none⟩ = some (.int .i64 x429003_2) ∧ w'.cell? ⟨gb429, 0, none⟩ = some (.int .i64 x430000_2) ∧ w'.cell? ⟨gb429, 1, none⟩ = some (.int .i64 x430001_2) ∧ w'.cell? ⟨gb429, 2, none⟩ = some (.int .i64 x430002_2) ∧ w'.cell? ⟨gb429, 3, none⟩ = some (.int .i64 x430003_2)) (ds := []) (.replicate 22 false) (by kernel_rfl) rfl rfl ⟨(blk_cell BK428.out 0).trans rfl, (blk_cell BK428.out 1).trans rfl, (blk_cell BK428.out 2).trans rfl, (blk_cell BK428.out 3).trans rfl, (blk_cell BK429.out 0).trans rfl, (blk_cell BK429.out 1).trans rfl, (blk_cell BK429.out 2).trans rfl, (blk_cell BK429.out 3).trans rfl⟩ (fun hHeld => ?_); refine with_tabW tontinelaw9_ObjectApart.tab23 tontinelaw9_ObjectApart.bits23 (fun HT_ HW_ => ?_)
                     generalize wr.drew = w88 at HO_410001 HO_410003 HO_410005 HO_410007 BK409 BK427 BK428 BK429 HB hHeld ⊢
                     refine Goto.pu 0 62 22 1 ?_
                     refine Goto.pu 1 63 22 3 ?_
                     refine Goto.pu 2 64 22 7 ?_
                     refine Goto.pu 3 65 22 15 ?_
                     refine Goto.pu 4 66 22 31 ?_
                     refine Goto.pu 5 67 22 63 ?_
                     refine Goto.pu 7 69 22 191 ?_
                     refine Goto.pu 8 70 22 447 ?_
                     refine take_ (i := 9) (N := some 71) (v := ?_) (a' := ?_) (Goto.bs 22 959) rfl rfl (take_ofW HT_.out HW_.out (by kernel_rfl)) (fun _ _ _ h => h) (Or.inl ⟨by rfl, ?_⟩) hHeld ?_ ?_
                     rotate_left
                     ·
                      rintro w' ⟨s0, s1, s2, s3, s4, s5, s6, s7⟩
                      go_simp
                      with_reducible rfl
                     rotate_left
                     ·
                      exact Goto.ap
                     refine one_ (i := 6) (N := some 68) (Goto.bs 22 1023) rfl rfl (one_of HT_.out (by kernel_rfl)) (by decide) (fun K hK => ?_)
                     refine goes_ Try.func24 (by kernel_rfl) rfl #[.pointer (some ⟨gb409, 0, none⟩), .int .i64 x12_4] (by rfl) rfl rfl (by (try simp only [List.map_toArray, List.map_cons, List.map_nil]); first | done | rfl | (simp only [List.length_drop, List.length_take]; rfl)) ?_
                     with_reducible refine (object_Objects_Count.calls gb409 x410000_4 (fun k_ => some k_ = (u410001 : Value).ownBlock) u410001 x410001_4 x410002_4 (fun k_ => some k_ = (u410003 : Value).ownBlock) u410003 x410003_4 x410004_4 (fun k_ => some k_ = (u410005 : Value).ownBlock) u410005 x410005_4 x410006_4 (fun k_ => some k_ = (u410007 : Value).ownBlock) u410007 x410007_4 x12_4 t503 t504 t505 t508 t509 t512 t513 t516 t517 w _ ?side1 ?side2 ?side3 ?side4 ?side5 ?side6 ?side7 ?side8 ?side9 ?side10 ?side11 ?side12 ?side13 ?side14 ?side15 ?side16 ?side17 ?side18 ?side19 A70.out).mono ?_
                     (case side1 => exact by (with_reducible repeat first | refine blk_drewN ?_ _ | refine blk_drew ?_ | refine blk_alloc ?_ _); exact BK409.out)
                     (case side2 => exact GE409.out)
                     (case side3 => repeat (first | (with_reducible first | exact HB.out | apply below_alloc | apply pw_below_drewN | apply below_drew1 | refine below_set ?_ GE409.out | refine below_set ?_ GE427.out | refine below_set ?_ GE428.out | refine below_set ?_ GE429.out) | exact HB.out))
                     (case side4 => exact Kd.R_tight rfl HO_410001.out)
                     (case side5 => exact fun k_ e_ => (HO_410001.out.1 k_ e_.symm).1)
                     (case side6 => exact fun k_ e_ => (HO_410001.out.1 k_ e_.symm).2.1)
                     (case side7 => exact fun k_ e_ => (HO_410001.out.1 k_ e_.symm).2.2)
                     (case side8 => exact Kd.R_tight rfl HO_410003.out)
                     (case side9 => exact fun k_ e_ => (HO_410003.out.1 k_ e_.symm).1)
                     (case side10 => exact fun k_ e_ => (HO_410003.out.1 k_ e_.symm).2.1)
                     (case side11 => exact fun k_ e_ => (HO_410003.out.1 k_ e_.symm).2.2)
                     (case side12 => exact Kd.R_tight rfl HO_410005.out)
                     (case side13 => exact fun k_ e_ => (HO_410005.out.1 k_ e_.symm).1)
                     (case side14 => exact fun k_ e_ => (HO_410005.out.1 k_ e_.symm).2.1)
                     (case side15 => exact fun k_ e_ => (HO_410005.out.1 k_ e_.symm).2.2)
                     (case side16 => exact Kd.R_tight rfl HO_410007.out)
                     (case side17 => exact fun k_ e_ => (HO_410007.out.1 k_ e_.symm).1)
                     (case side18 => exact fun k_ e_ => (HO_410007.out.1 k_ e_.symm).2.1)
                     (case side19 => exact fun k_ e_ => (HO_410007.out.1 k_ e_.symm).2.2)
                     rintro e w89 ⟨v506, v510, v514, v518, rfl, ho0, ho1, ho2, ho3, hi, hb, hkp⟩
                     refine ⟨_, rfl, ?_⟩
                     have n0_ := Goto.m0 (hi)
                     have n1_ := Goto.m0 (blk_kept (Goto.bx BK427) hkp (fun hs_ => Or.elim hs_ (fun hs_ => Or.elim hs_ (fun e_ => (fun e_ => (Kd.R_ne HO_410001.out BK427.out (by decide)) e_) e_) (fun e_ => Or.elim e_ (fun e_ => (fun e_ => (Kd.R_ne HO_410003.out BK427.out (by decide)) e_) e_) (fun e_ => Or.elim e_ (fun e_ => (fun e_ => (Kd.R_ne HO_410005.out BK427.out (by decide)) e_) e_) (fun e_ => (fun e_ => (Kd.R_ne HO_410007.out BK427.out (by decide)) e_) e_)))) (fun e_ => NB427_409.out e_)))
                     have n2_ := Goto.m0 (blk_kept (Goto.bx BK428) hkp (fun hs_ => Or.elim hs_ (fun hs_ => Or.elim hs_ (fun e_ => (fun e_ => (Kd.R_ne HO_410001.out BK428.out (by decide)) e_) e_) (fun e_ => Or.elim e_ (fun e_ => (fun e_ => (Kd.R_ne HO_410003.out BK428.out (by decide)) e_) e_) (fun e_ => Or.elim e_ (fun e_ => (fun e_ => (Kd.R_ne HO_410005.out BK428.out (by decide)) e_) e_) (fun e_ => (fun e_ => (Kd.R_ne HO_410007.out BK428.out (by decide)) e_) e_)))) (fun e_ => NB428_409.out e_)))
                     have n3_ := Goto.m0 (blk_kept (Goto.bx BK429) hkp (fun hs_ => Or.elim hs_ (fun hs_ => Or.elim hs_ (fun e_ => (fun e_ => (Kd.R_ne HO_410001.out BK429.out (by decide)) e_) e_) (fun e_ => Or.elim e_ (fun e_ => (fun e_ => (Kd.R_ne HO_410003.out BK429.out (by decide)) e_) e_) (fun e_ => Or.elim e_ (fun e_ => (fun e_ => (Kd.R_ne HO_410005.out BK429.out (by decide)) e_) e_) (fun e_ => (fun e_ => (Kd.R_ne HO_410007.out BK429.out (by decide)) e_) e_)))) (fun e_ => NB429_409.out e_)))
                     have n4_ := Goto.m0 (Kd.R_mono (ok' := fun k_ => some k_ ≠ (v510 : Value).ownBlock ∧ some k_ ≠ (v514 : Value).ownBlock ∧ some k_ ≠ (v518 : Value).ownBlock) ho0 (fun k_ hk_ => ⟨hk_.2.1, hk_.2.2.1, hk_.2.2.2⟩))
                     have n5_ := Goto.m0 (Kd.R_mono (ok' := fun k_ => some k_ ≠ (v506 : Value).ownBlock ∧ some k_ ≠ (v514 : Value).ownBlock ∧ some k_ ≠ (v518 : Value).ownBlock) ho1 (fun k_ hk_ => ⟨hk_.2.1, hk_.2.2.1, hk_.2.2.2⟩))
                     have n6_ := Goto.m0 (Kd.R_mono (ok' := fun k_ => some k_ ≠ (v506 : Value).ownBlock ∧ some k_ ≠ (v510 : Value).ownBlock ∧ some k_ ≠ (v518 : Value).ownBlock) ho2 (fun k_ hk_ => ⟨hk_.2.1, hk_.2.2.1, hk_.2.2.2⟩))
                     have n7_ := Goto.m0 (Kd.R_mono (ok' := fun k_ => some k_ ≠ (v506 : Value).ownBlock ∧ some k_ ≠ (v510 : Value).ownBlock ∧ some k_ ≠ (v514 : Value).ownBlock) ho3 (fun k_ hk_ => ⟨hk_.2.1, hk_.2.2.1, hk_.2.2.2⟩))
                     have n8_ := Goto.m0 (hb)
                     clear BK409; clear BK427; clear BK428; clear BK429; clear HB; clear HO_410001; clear HO_410003; clear HO_410005; clear HO_410007; have BK409 := n0_; have BK427 := n1_; have BK428 := n2_; have BK429 := n3_; have HO507 := n4_; have HO511 := n5_; have HO515 := n6_; have HO519 := n7_; have HB := n8_; clear n0_ n1_ n2_ n3_ n4_ n5_ n6_ n7_ n8_
                     (try clear hb)
                     (try clear hkp)
                     (try clear ho0)
                     (try clear ho1)
                     (try clear ho2)
                     (try clear ho3)
                     refine hK.out _ _ ⟨(blk_cell BK428.out 0).trans rfl, (blk_cell BK428.out 1).trans rfl, (blk_cell BK428.out 2).trans rfl, (blk_cell BK428.out 3).trans rfl, (blk_cell BK429.out 0).trans rfl, (blk_cell BK429.out 1).trans rfl, (blk_cell BK429.out 2).trans rfl, (blk_cell BK429.out 3).trans rfl⟩ (fun hHeld => ?_)
                     clear hK K
                     refine norm_ (a' := ?_) ?_ ?_
                     rotate_left
                     ·
                      show Act.put _ (some 68) _ = _
                      exact Goto.ap
                     refine Goto.pu 10 72 22 2047 ?_
                     refine Goto.pu 11 73 22 4095 ?_
                     refine Goto.pu 12 74 22 8191 ?_
                     refine Goto.pu 13 75 22 16383 ?_
                     refine Goto.pu 16 78 22 81919 ?_
                     refine Goto.pu 17 79 22 212991 ?_
                     refine take_ (i := 18) (N := some 80) (v := ?_) (a' := ?_) (Goto.bs 22 475135) rfl rfl (take_ofW HT_.out HW_.out (by kernel_rfl)) (fun _ _ _ h => h) (Or.inl ⟨by rfl, ?_⟩) hHeld ?_ ?_
                     rotate_left
                     ·
                      rintro w' ⟨s0, s1, s2, s3, s4, s5, s6, s7⟩
                      go_simp
                      with_reducible rfl
                     rotate_left
                     ·
                      exact Goto.ap
                     refine one_ (i := 14) (N := some 76) (Goto.bs 22 491519) rfl rfl (one_of HT_.out (by kernel_rfl)) (by decide) (fun K hK => ?_)
                     refine goes_ Try.func25 (by kernel_rfl) rfl #[.pointer (some ⟨gb409, 0, none⟩), .int .i64 x12_4] (by rfl) rfl rfl (by (try simp only [List.map_toArray, List.map_cons, List.map_nil]); first | done | rfl | (simp only [List.length_drop, List.length_take]; rfl)) ?_
                     with_reducible refine (object_Objects_Row.calls gb409 t504 (fun k_ => some k_ = (v506 : Value).ownBlock) v506 t505 t508 (fun k_ => some k_ = (v510 : Value).ownBlock) v510 t509 t512 (fun k_ => some k_ = (v514 : Value).ownBlock) v514 t513 t516 (fun k_ => some k_ = (v518 : Value).ownBlock) v518 t517 x12_4 t539 t542 t543 t546 t547 t550 t551 t554 t555 w _ ?side1 ?side2 ?side3 ?side4 ?side5 ?side6 ?side7 ?side8 ?side9 ?side10 ?side11 ?side12 ?side13 ?side14 ?side15 ?side16 ?side17 ?side18 ?side19 A85.out).mono ?_
                     (case side1 => exact by (with_reducible repeat first | refine blk_drewN ?_ _ | refine blk_drew ?_ | refine blk_alloc ?_ _); exact BK409.out)
                     (case side2 => exact GE409.out)
                     (case side3 => repeat (first | (with_reducible first | exact HB.out | apply below_alloc | apply pw_below_drewN | apply below_drew1 | refine below_set ?_ GE409.out | refine below_set ?_ GE427.out | refine below_set ?_ GE428.out | refine below_set ?_ GE429.out) | exact HB.out))
                     (case side4 => exact Kd.R_tight rfl HO507.out)
                     (case side5 => exact fun k_ e_ => (HO507.out.1 k_ e_.symm).1)
                     (case side6 => exact fun k_ e_ => (HO507.out.1 k_ e_.symm).2.1)
                     (case side7 => exact fun k_ e_ => (HO507.out.1 k_ e_.symm).2.2)
                     (case side8 => exact Kd.R_tight rfl HO511.out)
                     (case side9 => exact fun k_ e_ => (HO511.out.1 k_ e_.symm).1)
                     (case side10 => exact fun k_ e_ => (HO511.out.1 k_ e_.symm).2.1)
                     (case side11 => exact fun k_ e_ => (HO511.out.1 k_ e_.symm).2.2)
                     (case side12 => exact Kd.R_tight rfl HO515.out)
                     (case side13 => exact fun k_ e_ => (HO515.out.1 k_ e_.symm).1)
                     (case side14 => exact fun k_ e_ => (HO515.out.1 k_ e_.symm).2.1)
                     (case side15 => exact fun k_ e_ => (HO515.out.1 k_ e_.symm).2.2)
                     (case side16 => exact Kd.R_tight rfl HO519.out)
                     (case side17 => exact fun k_ e_ => (HO519.out.1 k_ e_.symm).1)
                     (case side18 => exact fun k_ e_ => (HO519.out.1 k_ e_.symm).2.1)
                     (case side19 => exact fun k_ e_ => (HO519.out.1 k_ e_.symm).2.2)
                     rintro e w90 ⟨v540, v544, v548, v552, v556, rfl, ho0, ho1, ho2, ho3, ho4, hi, hb, hkp⟩
                     refine ⟨_, rfl, ?_⟩
                     have n0_ := Goto.m0 (hi)
                     have n1_ := Goto.m0 (blk_kept (Goto.bx BK427) hkp (fun hs_ => Or.elim hs_ (fun hs_ => Or.elim hs_ (fun e_ => (fun e_ => (Kd.R_ne HO507.out BK427.out (by decide)) e_) e_) (fun e_ => Or.elim e_ (fun e_ => (fun e_ => (Kd.R_ne HO511.out BK427.out (by decide)) e_) e_) (fun e_ => Or.elim e_ (fun e_ => (fun e_ => (Kd.R_ne HO515.out BK427.out (by decide)) e_) e_) (fun e_ => (fun e_ => (Kd.R_ne HO519.out BK427.out (by decide)) e_) e_)))) (fun e_ => NB427_409.out e_)))
                     have n2_ := Goto.m0 (blk_kept (Goto.bx BK428) hkp (fun hs_ => Or.elim hs_ (fun hs_ => Or.elim hs_ (fun e_ => (fun e_ => (Kd.R_ne HO507.out BK428.out (by decide)) e_) e_) (fun e_ => Or.elim e_ (fun e_ => (fun e_ => (Kd.R_ne HO511.out BK428.out (by decide)) e_) e_) (fun e_ => Or.elim e_ (fun e_ => (fun e_ => (Kd.R_ne HO515.out BK428.out (by decide)) e_) e_) (fun e_ => (fun e_ => (Kd.R_ne HO519.out BK428.out (by decide)) e_) e_)))) (fun e_ => NB428_409.out e_)))
                     have n3_ := Goto.m0 (blk_kept (Goto.bx BK429) hkp (fun hs_ => Or.elim hs_ (fun hs_ => Or.elim hs_ (fun e_ => (fun e_ => (Kd.R_ne HO507.out BK429.out (by decide)) e_) e_) (fun e_ => Or.elim e_ (fun e_ => (fun e_ => (Kd.R_ne HO511.out BK429.out (by decide)) e_) e_) (fun e_ => Or.elim e_ (fun e_ => (fun e_ => (Kd.R_ne HO515.out BK429.out (by decide)) e_) e_) (fun e_ => (fun e_ => (Kd.R_ne HO519.out BK429.out (by decide)) e_) e_)))) (fun e_ => NB429_409.out e_)))
                     have n4_ := Goto.m0 (Kd.R_mono (ok' := fun k_ => some k_ ≠ (v544 : Value).ownBlock ∧ some k_ ≠ (v548 : Value).ownBlock ∧ some k_ ≠ (v552 : Value).ownBlock ∧ some k_ ≠ (v556 : Value).ownBlock) ho0 (fun k_ hk_ => ⟨hk_.2.1, hk_.2.2.1, hk_.2.2.2.1, hk_.2.2.2.2⟩))
                     have n5_ := Goto.m0 (Kd.R_mono (ok' := fun k_ => some k_ ≠ (v540 : Value).ownBlock ∧ some k_ ≠ (v548 : Value).ownBlock ∧ some k_ ≠ (v552 : Value).ownBlock ∧ some k_ ≠ (v556 : Value).ownBlock) ho1 (fun k_ hk_ => ⟨hk_.2.1, hk_.2.2.1, hk_.2.2.2.1, hk_.2.2.2.2⟩))
                     have n6_ := Goto.m0 (Kd.R_mono (ok' := fun k_ => some k_ ≠ (v540 : Value).ownBlock ∧ some k_ ≠ (v544 : Value).ownBlock ∧ some k_ ≠ (v552 : Value).ownBlock ∧ some k_ ≠ (v556 : Value).ownBlock) ho2 (fun k_ hk_ => ⟨hk_.2.1, hk_.2.2.1, hk_.2.2.2.1, hk_.2.2.2.2⟩))
                     have n7_ := Goto.m0 (Kd.R_mono (ok' := fun k_ => some k_ ≠ (v540 : Value).ownBlock ∧ some k_ ≠ (v544 : Value).ownBlock ∧ some k_ ≠ (v548 : Value).ownBlock ∧ some k_ ≠ (v556 : Value).ownBlock) ho3 (fun k_ hk_ => ⟨hk_.2.1, hk_.2.2.1, hk_.2.2.2.1, hk_.2.2.2.2⟩))
                     have n8_ := Goto.m0 (Kd.R_mono (ok' := fun k_ => some k_ ≠ (v540 : Value).ownBlock ∧ some k_ ≠ (v544 : Value).ownBlock ∧ some k_ ≠ (v548 : Value).ownBlock ∧ some k_ ≠ (v552 : Value).ownBlock) ho4 (fun k_ hk_ => ⟨hk_.2.1, hk_.2.2.1, hk_.2.2.2.1, hk_.2.2.2.2⟩))
                     have n9_ := Goto.m0 (hb)
                     clear BK409; clear BK427; clear BK428; clear BK429; clear HB; clear HO507; clear HO511; clear HO515; clear HO519; have BK409 := n0_; have BK427 := n1_; have BK428 := n2_; have BK429 := n3_; have HO541 := n4_; have HO545 := n5_; have HO549 := n6_; have HO553 := n7_; have HO557 := n8_; have HB := n9_; clear n0_ n1_ n2_ n3_ n4_ n5_ n6_ n7_ n8_ n9_
                     (try clear hb)
                     (try clear hkp)
                     (try clear ho0)
                     (try clear ho1)
                     (try clear ho2)
                     (try clear ho3)
                     (try clear ho4)
                     obtain ⟨Ao91, co91, eo91⟩ := Kd.R_slice HO541.out
                     (first | subst eo91 | (injection eo91 with f1_ f2_ f3_; have f4_ := f1_.symm; have f5_ := f3_.symm; clear f1_ f2_ f3_; subst f4_; subst f5_))
                     refine hK.out _ _ ⟨(blk_cell BK428.out 0).trans rfl, (blk_cell BK428.out 1).trans rfl, (blk_cell BK428.out 2).trans rfl, (blk_cell BK428.out 3).trans rfl, (blk_cell BK429.out 0).trans rfl, (blk_cell BK429.out 1).trans rfl, (blk_cell BK429.out 2).trans rfl, (blk_cell BK429.out 3).trans rfl⟩ (fun hHeld => ?_)
                     clear hK K
                     refine norm_ (a' := ?_) ?_ ?_
                     rotate_left
                     ·
                      show Act.put _ (some 76) _ = _
                      exact Goto.ap
                     refine Goto.pu 15 77 22 524287 ?_
                     refine Goto.pu 19 81 22 1048575 ?_
                     refine Goto.pu 20 82 22 2097151 ?_
                     refine Goto.pu 21 83 22 4194303 ?_
                     refine done_ (done_of HT_.out (by kernel_rfl)) ?_
                     try go_wp2
                     go_roundg k4
                     case measure => have := HK1.out; have := HK2.out; have := HJ56.out; have := HK4.out; omega
                     case rel => exact ⟨(wrap64 (x12_4 + 1)), (t542), (t543), (t546), (t547), (t550), (t551), (t554), (t555), (v544), (v548), (v552), (v556), (by first | rfl | (simp; done) | (simp [*]; done) | (congr 1; unfold wrap64; omega)), H', ⟨by have := HK1.out; have := HK2.out; have := HJ56.out; have := HK4.out; omega⟩, ⟨by (with_reducible repeat (first | apply Kd.R_alloc | apply Kd.R_drewN | apply Kd.R_drew)); exact Kd.R_mono HO545.out (fun _ hk => ⟨hk.2.1, ⟨hk.2.2.1, hk.2.2.2⟩⟩)⟩, ⟨by (with_reducible repeat (first | apply Kd.R_alloc | apply Kd.R_drewN | apply Kd.R_drew)); exact Kd.R_mono HO549.out (fun _ hk => ⟨hk.2.1, ⟨hk.2.2.1, hk.2.2.2⟩⟩)⟩, ⟨by (with_reducible repeat (first | apply Kd.R_alloc | apply Kd.R_drewN | apply Kd.R_drew)); exact Kd.R_mono HO553.out (fun _ hk => ⟨hk.2.1, ⟨hk.2.2.1, hk.2.2.2⟩⟩)⟩, ⟨by (with_reducible repeat (first | apply Kd.R_alloc | apply Kd.R_drewN | apply Kd.R_drew)); exact Kd.R_mono HO557.out (fun _ hk => ⟨hk.2.1, ⟨hk.2.2.1, hk.2.2.2⟩⟩)⟩, ⟨Goto.bx BK409⟩, ⟨Goto.bx BK427⟩, ⟨Goto.bx BK428⟩, ⟨Goto.bx BK429⟩, ⟨Goto.hx HB⟩⟩
                    ·
                     rw [if_neg c87] at H
                     have c87b0 : ((t539.length : Int) == x430001_2) = false := beq_eq_false_iff_ne.mpr c87
                     have c87b1 : ((t539.length : Int) != x430001_2) = true := bne_iff_ne.mpr c87
                     exact absurd ((Option.some.inj H).trans HRT.out) (by decide)
                   ·
                    rw [if_neg c84] at H
                    have c84b0 : (t503 == x429001_2) = false := beq_eq_false_iff_ne.mpr c84
                    have c84b1 : (t503 != x429001_2) = true := bne_iff_ne.mpr c84
                    exact absurd ((Option.some.inj H).trans HRT.out) (by decide)
                  ·
                   rw [if_neg c82] at H
                   have c82b0 : (x12_4 == 1) = false := beq_eq_false_iff_ne.mpr c82
                   have c82b1 : (x12_4 != 1) = true := bne_iff_ne.mpr c82
                   by_cases c92 : x12_4 = 2
                   ·
                    rw [if_pos c92] at H
                    have c92b0 : (x12_4 == 2) = true := beq_iff_eq.mpr c92
                    have c92b1 : (x12_4 != 2) = false := bne_eq_false_iff_eq.mpr c92
                    clear c92
                    have hix93e : x12_4 = 2 := eq_of_beq (by first | (with_reducible assumption) | assumption)
                    have hix93 : (x12_4).toNat = 2 := by rw [hix93e]; rfl
                    have hix93c : (0 ≤ x12_4 ∧ x12_4 < (4 : Int)) = True := eq_true (by rw [hix93e]; decide)
                    clear hix93e
                    by_cases c94 : t503 = x429002_2
                    ·
                     rw [if_pos c94] at H
                     have c94b0 : (t503 == x429002_2) = true := beq_iff_eq.mpr c94
                     have c94b1 : (t503 != x429002_2) = false := bne_eq_false_iff_eq.mpr c94
                     clear c94
                     replace H := Option.bind_eq_some_iff.mp H
                     obtain ⟨⟨t558, t561, t562, t565, t566, t569, t570, t573, t574⟩, A950, H⟩ := H
                     replace H : (if (t558.length : Int) = x430002_2 then (tontinelaw9_ObjectApart.l2 k4 l0 (wrap64 (Int.tmod a1 4)) x7_1 (wrap64 (x12_4 + 1)) t561 t562 t565 t566 t569 t570 t573 t574 x429000_2 x429001_2 x429002_2 x429003_2 x430000_2 x430001_2 x430002_2 x430003_2) else (some false)) = some r := H
                     have A95 := Goto.m0 A950
                     clear A950
                     have hix96e : x12_4 = 2 := eq_of_beq (by first | (with_reducible assumption) | assumption)
                     have hix96 : (x12_4).toNat = 2 := by rw [hix96e]; rfl
                     have hix96c : (0 ≤ x12_4 ∧ x12_4 < (4 : Int)) = True := eq_true (by rw [hix96e]; decide)
                     clear hix96e
                     by_cases c97 : (t558.length : Int) = x430002_2
                     ·
                      rw [if_pos c97] at H
                      have c97b0 : ((t558.length : Int) == x430002_2) = true := beq_iff_eq.mpr c97
                      have c97b1 : ((t558.length : Int) != x430002_2) = false := bne_eq_false_iff_eq.mpr c97
                      clear c97
                      have H' := Goto.m0 H
                      clear H
                      try go_wp2
                      replace HO_410001 := Goto.m0 (Kd.R_drew HO_410001.out); replace HO_410003 := Goto.m0 (Kd.R_drew HO_410003.out); replace HO_410005 := Goto.m0 (Kd.R_drew HO_410005.out); replace HO_410007 := Goto.m0 (Kd.R_drew HO_410007.out); replace BK409 := Goto.m0 (blk_drew BK409.out); replace BK427 := Goto.m0 (blk_drew BK427.out); replace BK428 := Goto.m0 (blk_drew BK428.out); replace BK429 := Goto.m0 (blk_drew BK429.out); replace HB := Goto.m0 (below_drew1 HB.out)
                      refine start_ (n := 22) (S := fun w' => w'.cell? ⟨gb428, 0, none⟩ = some (.int .i64 x429000_2) ∧ w'.cell? ⟨gb428, 1, none⟩ = some (.int .i64 x429001_2) ∧ w'.cell? ⟨gb428, 2, none⟩ = some (.int .i64 x429002_2) ∧ w'.cell? ⟨gb428, 3, none⟩ = some (.int .i64 x429003_2) ∧ w'.cell? ⟨gb429, 0, none⟩ = some (.int .i64 x430000_2) ∧ w'.cell? ⟨gb429, 1, none⟩ = some (.int .i64 x430001_2) ∧ w'.cell? ⟨gb429, 2, none⟩ = some (.int .i64 x430002_2) ∧ w'.cell? ⟨gb429, 3, none⟩ = some (.int .i64 x430003_2)) (ds := []) (.replicate 22 false) (by kernel_rfl) rfl rfl ⟨(blk_cell BK428.out 0).trans rfl, (blk_cell BK428.out 1).trans rfl, (blk_cell BK428.out 2).trans rfl, (blk_cell BK428.out 3).trans rfl, (blk_cell BK429.out 0).trans rfl, (blk_cell BK429.out 1).trans rfl, (blk_cell BK429.out 2).trans rfl, (blk_cell BK429.out 3).trans rfl⟩ (fun hHeld => ?_); refine with_tabW tontinelaw9_ObjectApart.tab23 tontinelaw9_ObjectApart.bits23 (fun HT_ HW_ => ?_)
                      generalize wr.drew = w98 at HO_410001 HO_410003 HO_410005 HO_410007 BK409 BK427 BK428 BK429 HB hHeld ⊢
                      refine Goto.pu 0 62 22 1 ?_
                      refine Goto.pu 1 63 22 3 ?_
                      refine Goto.pu 2 64 22 7 ?_
                      refine Goto.pu 3 65 22 15 ?_
                      refine Goto.pu 4 66 22 31 ?_
                      refine Goto.pu 5 67 22 63 ?_
                      refine Goto.pu 7 69 22 191 ?_
                      refine Goto.pu 8 70 22 447 ?_
                      refine take_ (i := 9) (N := some 71) (v := ?_) (a' := ?_) (Goto.bs 22 959) rfl rfl (take_ofW HT_.out HW_.out (by kernel_rfl)) (fun _ _ _ h => h) (Or.inl ⟨by rfl, ?_⟩) hHeld ?_ ?_
                      rotate_left
                      ·
                       rintro w' ⟨s0, s1, s2, s3, s4, s5, s6, s7⟩
                       go_simp
                       with_reducible rfl
                      rotate_left
                      ·
                       exact Goto.ap
                      refine one_ (i := 6) (N := some 68) (Goto.bs 22 1023) rfl rfl (one_of HT_.out (by kernel_rfl)) (by decide) (fun K hK => ?_)
                      refine goes_ Try.func24 (by kernel_rfl) rfl #[.pointer (some ⟨gb409, 0, none⟩), .int .i64 x12_4] (by rfl) rfl rfl (by (try simp only [List.map_toArray, List.map_cons, List.map_nil]); first | done | rfl | (simp only [List.length_drop, List.length_take]; rfl)) ?_
                      with_reducible refine (object_Objects_Count.calls gb409 x410000_4 (fun k_ => some k_ = (u410001 : Value).ownBlock) u410001 x410001_4 x410002_4 (fun k_ => some k_ = (u410003 : Value).ownBlock) u410003 x410003_4 x410004_4 (fun k_ => some k_ = (u410005 : Value).ownBlock) u410005 x410005_4 x410006_4 (fun k_ => some k_ = (u410007 : Value).ownBlock) u410007 x410007_4 x12_4 t503 t504 t505 t508 t509 t512 t513 t516 t517 w _ ?side1 ?side2 ?side3 ?side4 ?side5 ?side6 ?side7 ?side8 ?side9 ?side10 ?side11 ?side12 ?side13 ?side14 ?side15 ?side16 ?side17 ?side18 ?side19 A70.out).mono ?_
                      (case side1 => exact by (with_reducible repeat first | refine blk_drewN ?_ _ | refine blk_drew ?_ | refine blk_alloc ?_ _); exact BK409.out)
                      (case side2 => exact GE409.out)
                      (case side3 => repeat (first | (with_reducible first | exact HB.out | apply below_alloc | apply pw_below_drewN | apply below_drew1 | refine below_set ?_ GE409.out | refine below_set ?_ GE427.out | refine below_set ?_ GE428.out | refine below_set ?_ GE429.out) | exact HB.out))
                      (case side4 => exact Kd.R_tight rfl HO_410001.out)
                      (case side5 => exact fun k_ e_ => (HO_410001.out.1 k_ e_.symm).1)
                      (case side6 => exact fun k_ e_ => (HO_410001.out.1 k_ e_.symm).2.1)
                      (case side7 => exact fun k_ e_ => (HO_410001.out.1 k_ e_.symm).2.2)
                      (case side8 => exact Kd.R_tight rfl HO_410003.out)
                      (case side9 => exact fun k_ e_ => (HO_410003.out.1 k_ e_.symm).1)
                      (case side10 => exact fun k_ e_ => (HO_410003.out.1 k_ e_.symm).2.1)
                      (case side11 => exact fun k_ e_ => (HO_410003.out.1 k_ e_.symm).2.2)
                      (case side12 => exact Kd.R_tight rfl HO_410005.out)
                      (case side13 => exact fun k_ e_ => (HO_410005.out.1 k_ e_.symm).1)
                      (case side14 => exact fun k_ e_ => (HO_410005.out.1 k_ e_.symm).2.1)
                      (case side15 => exact fun k_ e_ => (HO_410005.out.1 k_ e_.symm).2.2)
                      (case side16 => exact Kd.R_tight rfl HO_410007.out)
                      (case side17 => exact fun k_ e_ => (HO_410007.out.1 k_ e_.symm).1)
                      (case side18 => exact fun k_ e_ => (HO_410007.out.1 k_ e_.symm).2.1)
                      (case side19 => exact fun k_ e_ => (HO_410007.out.1 k_ e_.symm).2.2)
                      rintro e w99 ⟨v506, v510, v514, v518, rfl, ho0, ho1, ho2, ho3, hi, hb, hkp⟩
                      refine ⟨_, rfl, ?_⟩
                      have n0_ := Goto.m0 (hi)
                      have n1_ := Goto.m0 (blk_kept (Goto.bx BK427) hkp (fun hs_ => Or.elim hs_ (fun hs_ => Or.elim hs_ (fun e_ => (fun e_ => (Kd.R_ne HO_410001.out BK427.out (by decide)) e_) e_) (fun e_ => Or.elim e_ (fun e_ => (fun e_ => (Kd.R_ne HO_410003.out BK427.out (by decide)) e_) e_) (fun e_ => Or.elim e_ (fun e_ => (fun e_ => (Kd.R_ne HO_410005.out BK427.out (by decide)) e_) e_) (fun e_ => (fun e_ => (Kd.R_ne HO_410007.out BK427.out (by decide)) e_) e_)))) (fun e_ => NB427_409.out e_)))
                      have n2_ := Goto.m0 (blk_kept (Goto.bx BK428) hkp (fun hs_ => Or.elim hs_ (fun hs_ => Or.elim hs_ (fun e_ => (fun e_ => (Kd.R_ne HO_410001.out BK428.out (by decide)) e_) e_) (fun e_ => Or.elim e_ (fun e_ => (fun e_ => (Kd.R_ne HO_410003.out BK428.out (by decide)) e_) e_) (fun e_ => Or.elim e_ (fun e_ => (fun e_ => (Kd.R_ne HO_410005.out BK428.out (by decide)) e_) e_) (fun e_ => (fun e_ => (Kd.R_ne HO_410007.out BK428.out (by decide)) e_) e_)))) (fun e_ => NB428_409.out e_)))
                      have n3_ := Goto.m0 (blk_kept (Goto.bx BK429) hkp (fun hs_ => Or.elim hs_ (fun hs_ => Or.elim hs_ (fun e_ => (fun e_ => (Kd.R_ne HO_410001.out BK429.out (by decide)) e_) e_) (fun e_ => Or.elim e_ (fun e_ => (fun e_ => (Kd.R_ne HO_410003.out BK429.out (by decide)) e_) e_) (fun e_ => Or.elim e_ (fun e_ => (fun e_ => (Kd.R_ne HO_410005.out BK429.out (by decide)) e_) e_) (fun e_ => (fun e_ => (Kd.R_ne HO_410007.out BK429.out (by decide)) e_) e_)))) (fun e_ => NB429_409.out e_)))
                      have n4_ := Goto.m0 (Kd.R_mono (ok' := fun k_ => some k_ ≠ (v510 : Value).ownBlock ∧ some k_ ≠ (v514 : Value).ownBlock ∧ some k_ ≠ (v518 : Value).ownBlock) ho0 (fun k_ hk_ => ⟨hk_.2.1, hk_.2.2.1, hk_.2.2.2⟩))
                      have n5_ := Goto.m0 (Kd.R_mono (ok' := fun k_ => some k_ ≠ (v506 : Value).ownBlock ∧ some k_ ≠ (v514 : Value).ownBlock ∧ some k_ ≠ (v518 : Value).ownBlock) ho1 (fun k_ hk_ => ⟨hk_.2.1, hk_.2.2.1, hk_.2.2.2⟩))
                      have n6_ := Goto.m0 (Kd.R_mono (ok' := fun k_ => some k_ ≠ (v506 : Value).ownBlock ∧ some k_ ≠ (v510 : Value).ownBlock ∧ some k_ ≠ (v518 : Value).ownBlock) ho2 (fun k_ hk_ => ⟨hk_.2.1, hk_.2.2.1, hk_.2.2.2⟩))
                      have n7_ := Goto.m0 (Kd.R_mono (ok' := fun k_ => some k_ ≠ (v506 : Value).ownBlock ∧ some k_ ≠ (v510 : Value).ownBlock ∧ some k_ ≠ (v514 : Value).ownBlock) ho3 (fun k_ hk_ => ⟨hk_.2.1, hk_.2.2.1, hk_.2.2.2⟩))
                      have n8_ := Goto.m0 (hb)
                      clear BK409; clear BK427; clear BK428; clear BK429; clear HB; clear HO_410001; clear HO_410003; clear HO_410005; clear HO_410007; have BK409 := n0_; have BK427 := n1_; have BK428 := n2_; have BK429 := n3_; have HO507 := n4_; have HO511 := n5_; have HO515 := n6_; have HO519 := n7_; have HB := n8_; clear n0_ n1_ n2_ n3_ n4_ n5_ n6_ n7_ n8_
                      (try clear hb)
                      (try clear hkp)
                      (try clear ho0)
                      (try clear ho1)
                      (try clear ho2)
                      (try clear ho3)
                      refine hK.out _ _ ⟨(blk_cell BK428.out 0).trans rfl, (blk_cell BK428.out 1).trans rfl, (blk_cell BK428.out 2).trans rfl, (blk_cell BK428.out 3).trans rfl, (blk_cell BK429.out 0).trans rfl, (blk_cell BK429.out 1).trans rfl, (blk_cell BK429.out 2).trans rfl, (blk_cell BK429.out 3).trans rfl⟩ (fun hHeld => ?_)
                      clear hK K
                      refine norm_ (a' := ?_) ?_ ?_
                      rotate_left
                      ·
                       show Act.put _ (some 68) _ = _
                       exact Goto.ap
                      refine Goto.pu 10 72 22 2047 ?_
                      refine Goto.pu 11 73 22 4095 ?_
                      refine Goto.pu 12 74 22 8191 ?_
                      refine Goto.pu 13 75 22 16383 ?_
                      refine Goto.pu 16 78 22 81919 ?_
                      refine Goto.pu 17 79 22 212991 ?_
                      refine take_ (i := 18) (N := some 80) (v := ?_) (a' := ?_) (Goto.bs 22 475135) rfl rfl (take_ofW HT_.out HW_.out (by kernel_rfl)) (fun _ _ _ h => h) (Or.inl ⟨by rfl, ?_⟩) hHeld ?_ ?_
                      rotate_left
                      ·
                       rintro w' ⟨s0, s1, s2, s3, s4, s5, s6, s7⟩
                       go_simp
                       with_reducible rfl
                      rotate_left
                      ·
                       exact Goto.ap
                      refine one_ (i := 14) (N := some 76) (Goto.bs 22 491519) rfl rfl (one_of HT_.out (by kernel_rfl)) (by decide) (fun K hK => ?_)
                      refine goes_ Try.func25 (by kernel_rfl) rfl #[.pointer (some ⟨gb409, 0, none⟩), .int .i64 x12_4] (by rfl) rfl rfl (by (try simp only [List.map_toArray, List.map_cons, List.map_nil]); first | done | rfl | (simp only [List.length_drop, List.length_take]; rfl)) ?_
                      with_reducible refine (object_Objects_Row.calls gb409 t504 (fun k_ => some k_ = (v506 : Value).ownBlock) v506 t505 t508 (fun k_ => some k_ = (v510 : Value).ownBlock) v510 t509 t512 (fun k_ => some k_ = (v514 : Value).ownBlock) v514 t513 t516 (fun k_ => some k_ = (v518 : Value).ownBlock) v518 t517 x12_4 t558 t561 t562 t565 t566 t569 t570 t573 t574 w _ ?side1 ?side2 ?side3 ?side4 ?side5 ?side6 ?side7 ?side8 ?side9 ?side10 ?side11 ?side12 ?side13 ?side14 ?side15 ?side16 ?side17 ?side18 ?side19 A95.out).mono ?_
                      (case side1 => exact by (with_reducible repeat first | refine blk_drewN ?_ _ | refine blk_drew ?_ | refine blk_alloc ?_ _); exact BK409.out)
                      (case side2 => exact GE409.out)
                      (case side3 => repeat (first | (with_reducible first | exact HB.out | apply below_alloc | apply pw_below_drewN | apply below_drew1 | refine below_set ?_ GE409.out | refine below_set ?_ GE427.out | refine below_set ?_ GE428.out | refine below_set ?_ GE429.out) | exact HB.out))
                      (case side4 => exact Kd.R_tight rfl HO507.out)
                      (case side5 => exact fun k_ e_ => (HO507.out.1 k_ e_.symm).1)
                      (case side6 => exact fun k_ e_ => (HO507.out.1 k_ e_.symm).2.1)
                      (case side7 => exact fun k_ e_ => (HO507.out.1 k_ e_.symm).2.2)
                      (case side8 => exact Kd.R_tight rfl HO511.out)
                      (case side9 => exact fun k_ e_ => (HO511.out.1 k_ e_.symm).1)
                      (case side10 => exact fun k_ e_ => (HO511.out.1 k_ e_.symm).2.1)
                      (case side11 => exact fun k_ e_ => (HO511.out.1 k_ e_.symm).2.2)
                      (case side12 => exact Kd.R_tight rfl HO515.out)
                      (case side13 => exact fun k_ e_ => (HO515.out.1 k_ e_.symm).1)
                      (case side14 => exact fun k_ e_ => (HO515.out.1 k_ e_.symm).2.1)
                      (case side15 => exact fun k_ e_ => (HO515.out.1 k_ e_.symm).2.2)
                      (case side16 => exact Kd.R_tight rfl HO519.out)
                      (case side17 => exact fun k_ e_ => (HO519.out.1 k_ e_.symm).1)
                      (case side18 => exact fun k_ e_ => (HO519.out.1 k_ e_.symm).2.1)
                      (case side19 => exact fun k_ e_ => (HO519.out.1 k_ e_.symm).2.2)
                      rintro e w100 ⟨v559, v563, v567, v571, v575, rfl, ho0, ho1, ho2, ho3, ho4, hi, hb, hkp⟩
                      refine ⟨_, rfl, ?_⟩
                      have n0_ := Goto.m0 (hi)
                      have n1_ := Goto.m0 (blk_kept (Goto.bx BK427) hkp (fun hs_ => Or.elim hs_ (fun hs_ => Or.elim hs_ (fun e_ => (fun e_ => (Kd.R_ne HO507.out BK427.out (by decide)) e_) e_) (fun e_ => Or.elim e_ (fun e_ => (fun e_ => (Kd.R_ne HO511.out BK427.out (by decide)) e_) e_) (fun e_ => Or.elim e_ (fun e_ => (fun e_ => (Kd.R_ne HO515.out BK427.out (by decide)) e_) e_) (fun e_ => (fun e_ => (Kd.R_ne HO519.out BK427.out (by decide)) e_) e_)))) (fun e_ => NB427_409.out e_)))
                      have n2_ := Goto.m0 (blk_kept (Goto.bx BK428) hkp (fun hs_ => Or.elim hs_ (fun hs_ => Or.elim hs_ (fun e_ => (fun e_ => (Kd.R_ne HO507.out BK428.out (by decide)) e_) e_) (fun e_ => Or.elim e_ (fun e_ => (fun e_ => (Kd.R_ne HO511.out BK428.out (by decide)) e_) e_) (fun e_ => Or.elim e_ (fun e_ => (fun e_ => (Kd.R_ne HO515.out BK428.out (by decide)) e_) e_) (fun e_ => (fun e_ => (Kd.R_ne HO519.out BK428.out (by decide)) e_) e_)))) (fun e_ => NB428_409.out e_)))
                      have n3_ := Goto.m0 (blk_kept (Goto.bx BK429) hkp (fun hs_ => Or.elim hs_ (fun hs_ => Or.elim hs_ (fun e_ => (fun e_ => (Kd.R_ne HO507.out BK429.out (by decide)) e_) e_) (fun e_ => Or.elim e_ (fun e_ => (fun e_ => (Kd.R_ne HO511.out BK429.out (by decide)) e_) e_) (fun e_ => Or.elim e_ (fun e_ => (fun e_ => (Kd.R_ne HO515.out BK429.out (by decide)) e_) e_) (fun e_ => (fun e_ => (Kd.R_ne HO519.out BK429.out (by decide)) e_) e_)))) (fun e_ => NB429_409.out e_)))
                      have n4_ := Goto.m0 (Kd.R_mono (ok' := fun k_ => some k_ ≠ (v563 : Value).ownBlock ∧ some k_ ≠ (v567 : Value).ownBlock ∧ some k_ ≠ (v571 : Value).ownBlock ∧ some k_ ≠ (v575 : Value).ownBlock) ho0 (fun k_ hk_ => ⟨hk_.2.1, hk_.2.2.1, hk_.2.2.2.1, hk_.2.2.2.2⟩))
                      have n5_ := Goto.m0 (Kd.R_mono (ok' := fun k_ => some k_ ≠ (v559 : Value).ownBlock ∧ some k_ ≠ (v567 : Value).ownBlock ∧ some k_ ≠ (v571 : Value).ownBlock ∧ some k_ ≠ (v575 : Value).ownBlock) ho1 (fun k_ hk_ => ⟨hk_.2.1, hk_.2.2.1, hk_.2.2.2.1, hk_.2.2.2.2⟩))
                      have n6_ := Goto.m0 (Kd.R_mono (ok' := fun k_ => some k_ ≠ (v559 : Value).ownBlock ∧ some k_ ≠ (v563 : Value).ownBlock ∧ some k_ ≠ (v571 : Value).ownBlock ∧ some k_ ≠ (v575 : Value).ownBlock) ho2 (fun k_ hk_ => ⟨hk_.2.1, hk_.2.2.1, hk_.2.2.2.1, hk_.2.2.2.2⟩))
                      have n7_ := Goto.m0 (Kd.R_mono (ok' := fun k_ => some k_ ≠ (v559 : Value).ownBlock ∧ some k_ ≠ (v563 : Value).ownBlock ∧ some k_ ≠ (v567 : Value).ownBlock ∧ some k_ ≠ (v575 : Value).ownBlock) ho3 (fun k_ hk_ => ⟨hk_.2.1, hk_.2.2.1, hk_.2.2.2.1, hk_.2.2.2.2⟩))
                      have n8_ := Goto.m0 (Kd.R_mono (ok' := fun k_ => some k_ ≠ (v559 : Value).ownBlock ∧ some k_ ≠ (v563 : Value).ownBlock ∧ some k_ ≠ (v567 : Value).ownBlock ∧ some k_ ≠ (v571 : Value).ownBlock) ho4 (fun k_ hk_ => ⟨hk_.2.1, hk_.2.2.1, hk_.2.2.2.1, hk_.2.2.2.2⟩))
                      have n9_ := Goto.m0 (hb)
                      clear BK409; clear BK427; clear BK428; clear BK429; clear HB; clear HO507; clear HO511; clear HO515; clear HO519; have BK409 := n0_; have BK427 := n1_; have BK428 := n2_; have BK429 := n3_; have HO560 := n4_; have HO564 := n5_; have HO568 := n6_; have HO572 := n7_; have HO576 := n8_; have HB := n9_; clear n0_ n1_ n2_ n3_ n4_ n5_ n6_ n7_ n8_ n9_
                      (try clear hb)
                      (try clear hkp)
                      (try clear ho0)
                      (try clear ho1)
                      (try clear ho2)
                      (try clear ho3)
                      (try clear ho4)
                      obtain ⟨Ao101, co101, eo101⟩ := Kd.R_slice HO560.out
                      (first | subst eo101 | (injection eo101 with f1_ f2_ f3_; have f4_ := f1_.symm; have f5_ := f3_.symm; clear f1_ f2_ f3_; subst f4_; subst f5_))
                      refine hK.out _ _ ⟨(blk_cell BK428.out 0).trans rfl, (blk_cell BK428.out 1).trans rfl, (blk_cell BK428.out 2).trans rfl, (blk_cell BK428.out 3).trans rfl, (blk_cell BK429.out 0).trans rfl, (blk_cell BK429.out 1).trans rfl, (blk_cell BK429.out 2).trans rfl, (blk_cell BK429.out 3).trans rfl⟩ (fun hHeld => ?_)
                      clear hK K
                      refine norm_ (a' := ?_) ?_ ?_
                      rotate_left
                      ·
                       show Act.put _ (some 76) _ = _
                       exact Goto.ap
                      refine Goto.pu 15 77 22 524287 ?_
                      refine Goto.pu 19 81 22 1048575 ?_
                      refine Goto.pu 20 82 22 2097151 ?_
                      refine Goto.pu 21 83 22 4194303 ?_
                      refine done_ (done_of HT_.out (by kernel_rfl)) ?_
                      try go_wp2
                      go_roundg k4
                      case measure => have := HK1.out; have := HK2.out; have := HJ56.out; have := HK4.out; omega
                      case rel => exact ⟨(wrap64 (x12_4 + 1)), (t561), (t562), (t565), (t566), (t569), (t570), (t573), (t574), (v563), (v567), (v571), (v575), (by first | rfl | (simp; done) | (simp [*]; done) | (congr 1; unfold wrap64; omega)), H', ⟨by have := HK1.out; have := HK2.out; have := HJ56.out; have := HK4.out; omega⟩, ⟨by (with_reducible repeat (first | apply Kd.R_alloc | apply Kd.R_drewN | apply Kd.R_drew)); exact Kd.R_mono HO564.out (fun _ hk => ⟨hk.2.1, ⟨hk.2.2.1, hk.2.2.2⟩⟩)⟩, ⟨by (with_reducible repeat (first | apply Kd.R_alloc | apply Kd.R_drewN | apply Kd.R_drew)); exact Kd.R_mono HO568.out (fun _ hk => ⟨hk.2.1, ⟨hk.2.2.1, hk.2.2.2⟩⟩)⟩, ⟨by (with_reducible repeat (first | apply Kd.R_alloc | apply Kd.R_drewN | apply Kd.R_drew)); exact Kd.R_mono HO572.out (fun _ hk => ⟨hk.2.1, ⟨hk.2.2.1, hk.2.2.2⟩⟩)⟩, ⟨by (with_reducible repeat (first | apply Kd.R_alloc | apply Kd.R_drewN | apply Kd.R_drew)); exact Kd.R_mono HO576.out (fun _ hk => ⟨hk.2.1, ⟨hk.2.2.1, hk.2.2.2⟩⟩)⟩, ⟨Goto.bx BK409⟩, ⟨Goto.bx BK427⟩, ⟨Goto.bx BK428⟩, ⟨Goto.bx BK429⟩, ⟨Goto.hx HB⟩⟩
                     ·
                      rw [if_neg c97] at H
                      have c97b0 : ((t558.length : Int) == x430002_2) = false := beq_eq_false_iff_ne.mpr c97
                      have c97b1 : ((t558.length : Int) != x430002_2) = true := bne_iff_ne.mpr c97
                      exact absurd ((Option.some.inj H).trans HRT.out) (by decide)
                    ·
                     rw [if_neg c94] at H
                     have c94b0 : (t503 == x429002_2) = false := beq_eq_false_iff_ne.mpr c94
                     have c94b1 : (t503 != x429002_2) = true := bne_iff_ne.mpr c94
                     exact absurd ((Option.some.inj H).trans HRT.out) (by decide)
                   ·
                    rw [if_neg c92] at H
                    have c92b0 : (x12_4 == 2) = false := beq_eq_false_iff_ne.mpr c92
                    have c92b1 : (x12_4 != 2) = true := bne_iff_ne.mpr c92
                    by_cases c102 : x12_4 = 3
                    ·
                     rw [if_pos c102] at H
                     have c102b0 : (x12_4 == 3) = true := beq_iff_eq.mpr c102
                     have c102b1 : (x12_4 != 3) = false := bne_eq_false_iff_eq.mpr c102
                     clear c102
                     have hix103e : x12_4 = 3 := eq_of_beq (by first | (with_reducible assumption) | assumption)
                     have hix103 : (x12_4).toNat = 3 := by rw [hix103e]; rfl
                     have hix103c : (0 ≤ x12_4 ∧ x12_4 < (4 : Int)) = True := eq_true (by rw [hix103e]; decide)
                     clear hix103e
                     by_cases c104 : t503 = x429003_2
                     ·
                      rw [if_pos c104] at H
                      have c104b0 : (t503 == x429003_2) = true := beq_iff_eq.mpr c104
                      have c104b1 : (t503 != x429003_2) = false := bne_eq_false_iff_eq.mpr c104
                      clear c104
                      replace H := Option.bind_eq_some_iff.mp H
                      obtain ⟨⟨t577, t580, t581, t584, t585, t588, t589, t592, t593⟩, A1050, H⟩ := H
                      replace H : (if (t577.length : Int) = x430003_2 then (tontinelaw9_ObjectApart.l2 k4 l0 (wrap64 (Int.tmod a1 4)) x7_1 (wrap64 (x12_4 + 1)) t580 t581 t584 t585 t588 t589 t592 t593 x429000_2 x429001_2 x429002_2 x429003_2 x430000_2 x430001_2 x430002_2 x430003_2) else (some false)) = some r := H
                      have A105 := Goto.m0 A1050
                      clear A1050
                      have hix106e : x12_4 = 3 := eq_of_beq (by first | (with_reducible assumption) | assumption)
                      have hix106 : (x12_4).toNat = 3 := by rw [hix106e]; rfl
                      have hix106c : (0 ≤ x12_4 ∧ x12_4 < (4 : Int)) = True := eq_true (by rw [hix106e]; decide)
                      clear hix106e
                      by_cases c107 : (t577.length : Int) = x430003_2
                      ·
                       rw [if_pos c107] at H
                       have c107b0 : ((t577.length : Int) == x430003_2) = true := beq_iff_eq.mpr c107
                       have c107b1 : ((t577.length : Int) != x430003_2) = false := bne_eq_false_iff_eq.mpr c107
                       clear c107
                       have H' := Goto.m0 H
                       clear H
                       try go_wp2
                       replace HO_410001 := Goto.m0 (Kd.R_drew HO_410001.out); replace HO_410003 := Goto.m0 (Kd.R_drew HO_410003.out); replace HO_410005 := Goto.m0 (Kd.R_drew HO_410005.out); replace HO_410007 := Goto.m0 (Kd.R_drew HO_410007.out); replace BK409 := Goto.m0 (blk_drew BK409.out); replace BK427 := Goto.m0 (blk_drew BK427.out); replace BK428 := Goto.m0 (blk_drew BK428.out); replace BK429 := Goto.m0 (blk_drew BK429.out); replace HB := Goto.m0 (below_drew1 HB.out)
                       refine start_ (n := 22) (S := fun w' => w'.cell? ⟨gb428, 0, none⟩ = some (.int .i64 x429000_2) ∧ w'.cell? ⟨gb428, 1, none⟩ = some (.int .i64 x429001_2) ∧ w'.cell? ⟨gb428, 2, none⟩ = some (.int .i64 x429002_2) ∧ w'.cell? ⟨gb428, 3, none⟩ = some (.int .i64 x429003_2) ∧ w'.cell? ⟨gb429, 0, none⟩ = some (.int .i64 x430000_2) ∧ w'.cell? ⟨gb429, 1, none⟩ = some (.int .i64 x430001_2) ∧ w'.cell? ⟨gb429, 2, none⟩ = some (.int .i64 x430002_2) ∧ w'.cell? ⟨gb429, 3, none⟩ = some (.int .i64 x430003_2)) (ds := []) (.replicate 22 false) (by kernel_rfl) rfl rfl ⟨(blk_cell BK428.out 0).trans rfl, (blk_cell BK428.out 1).trans rfl, (blk_cell BK428.out 2).trans rfl, (blk_cell BK428.out 3).trans rfl, (blk_cell BK429.out 0).trans rfl, (blk_cell BK429.out 1).trans rfl, (blk_cell BK429.out 2).trans rfl, (blk_cell BK429.out 3).trans rfl⟩ (fun hHeld => ?_); refine with_tabW tontinelaw9_ObjectApart.tab23 tontinelaw9_ObjectApart.bits23 (fun HT_ HW_ => ?_)
                       generalize wr.drew = w108 at HO_410001 HO_410003 HO_410005 HO_410007 BK409 BK427 BK428 BK429 HB hHeld ⊢
                       refine Goto.pu 0 62 22 1 ?_
                       refine Goto.pu 1 63 22 3 ?_
                       refine Goto.pu 2 64 22 7 ?_
                       refine Goto.pu 3 65 22 15 ?_
                       refine Goto.pu 4 66 22 31 ?_
                       refine Goto.pu 5 67 22 63 ?_
                       refine Goto.pu 7 69 22 191 ?_
                       refine Goto.pu 8 70 22 447 ?_
                       refine take_ (i := 9) (N := some 71) (v := ?_) (a' := ?_) (Goto.bs 22 959) rfl rfl (take_ofW HT_.out HW_.out (by kernel_rfl)) (fun _ _ _ h => h) (Or.inl ⟨by rfl, ?_⟩) hHeld ?_ ?_
                       rotate_left
                       ·
                        rintro w' ⟨s0, s1, s2, s3, s4, s5, s6, s7⟩
                        go_simp
                        with_reducible rfl
                       rotate_left
                       ·
                        exact Goto.ap
                       refine one_ (i := 6) (N := some 68) (Goto.bs 22 1023) rfl rfl (one_of HT_.out (by kernel_rfl)) (by decide) (fun K hK => ?_)
                       refine goes_ Try.func24 (by kernel_rfl) rfl #[.pointer (some ⟨gb409, 0, none⟩), .int .i64 x12_4] (by rfl) rfl rfl (by (try simp only [List.map_toArray, List.map_cons, List.map_nil]); first | done | rfl | (simp only [List.length_drop, List.length_take]; rfl)) ?_
                       with_reducible refine (object_Objects_Count.calls gb409 x410000_4 (fun k_ => some k_ = (u410001 : Value).ownBlock) u410001 x410001_4 x410002_4 (fun k_ => some k_ = (u410003 : Value).ownBlock) u410003 x410003_4 x410004_4 (fun k_ => some k_ = (u410005 : Value).ownBlock) u410005 x410005_4 x410006_4 (fun k_ => some k_ = (u410007 : Value).ownBlock) u410007 x410007_4 x12_4 t503 t504 t505 t508 t509 t512 t513 t516 t517 w _ ?side1 ?side2 ?side3 ?side4 ?side5 ?side6 ?side7 ?side8 ?side9 ?side10 ?side11 ?side12 ?side13 ?side14 ?side15 ?side16 ?side17 ?side18 ?side19 A70.out).mono ?_
                       (case side1 => exact by (with_reducible repeat first | refine blk_drewN ?_ _ | refine blk_drew ?_ | refine blk_alloc ?_ _); exact BK409.out)
                       (case side2 => exact GE409.out)
                       (case side3 => repeat (first | (with_reducible first | exact HB.out | apply below_alloc | apply pw_below_drewN | apply below_drew1 | refine below_set ?_ GE409.out | refine below_set ?_ GE427.out | refine below_set ?_ GE428.out | refine below_set ?_ GE429.out) | exact HB.out))
                       (case side4 => exact Kd.R_tight rfl HO_410001.out)
                       (case side5 => exact fun k_ e_ => (HO_410001.out.1 k_ e_.symm).1)
                       (case side6 => exact fun k_ e_ => (HO_410001.out.1 k_ e_.symm).2.1)
                       (case side7 => exact fun k_ e_ => (HO_410001.out.1 k_ e_.symm).2.2)
                       (case side8 => exact Kd.R_tight rfl HO_410003.out)
                       (case side9 => exact fun k_ e_ => (HO_410003.out.1 k_ e_.symm).1)
                       (case side10 => exact fun k_ e_ => (HO_410003.out.1 k_ e_.symm).2.1)
                       (case side11 => exact fun k_ e_ => (HO_410003.out.1 k_ e_.symm).2.2)
                       (case side12 => exact Kd.R_tight rfl HO_410005.out)
                       (case side13 => exact fun k_ e_ => (HO_410005.out.1 k_ e_.symm).1)
                       (case side14 => exact fun k_ e_ => (HO_410005.out.1 k_ e_.symm).2.1)
                       (case side15 => exact fun k_ e_ => (HO_410005.out.1 k_ e_.symm).2.2)
                       (case side16 => exact Kd.R_tight rfl HO_410007.out)
                       (case side17 => exact fun k_ e_ => (HO_410007.out.1 k_ e_.symm).1)
                       (case side18 => exact fun k_ e_ => (HO_410007.out.1 k_ e_.symm).2.1)
                       (case side19 => exact fun k_ e_ => (HO_410007.out.1 k_ e_.symm).2.2)
                       rintro e w109 ⟨v506, v510, v514, v518, rfl, ho0, ho1, ho2, ho3, hi, hb, hkp⟩
                       refine ⟨_, rfl, ?_⟩
                       have n0_ := Goto.m0 (hi)
                       have n1_ := Goto.m0 (blk_kept (Goto.bx BK427) hkp (fun hs_ => Or.elim hs_ (fun hs_ => Or.elim hs_ (fun e_ => (fun e_ => (Kd.R_ne HO_410001.out BK427.out (by decide)) e_) e_) (fun e_ => Or.elim e_ (fun e_ => (fun e_ => (Kd.R_ne HO_410003.out BK427.out (by decide)) e_) e_) (fun e_ => Or.elim e_ (fun e_ => (fun e_ => (Kd.R_ne HO_410005.out BK427.out (by decide)) e_) e_) (fun e_ => (fun e_ => (Kd.R_ne HO_410007.out BK427.out (by decide)) e_) e_)))) (fun e_ => NB427_409.out e_)))
                       have n2_ := Goto.m0 (blk_kept (Goto.bx BK428) hkp (fun hs_ => Or.elim hs_ (fun hs_ => Or.elim hs_ (fun e_ => (fun e_ => (Kd.R_ne HO_410001.out BK428.out (by decide)) e_) e_) (fun e_ => Or.elim e_ (fun e_ => (fun e_ => (Kd.R_ne HO_410003.out BK428.out (by decide)) e_) e_) (fun e_ => Or.elim e_ (fun e_ => (fun e_ => (Kd.R_ne HO_410005.out BK428.out (by decide)) e_) e_) (fun e_ => (fun e_ => (Kd.R_ne HO_410007.out BK428.out (by decide)) e_) e_)))) (fun e_ => NB428_409.out e_)))
                       have n3_ := Goto.m0 (blk_kept (Goto.bx BK429) hkp (fun hs_ => Or.elim hs_ (fun hs_ => Or.elim hs_ (fun e_ => (fun e_ => (Kd.R_ne HO_410001.out BK429.out (by decide)) e_) e_) (fun e_ => Or.elim e_ (fun e_ => (fun e_ => (Kd.R_ne HO_410003.out BK429.out (by decide)) e_) e_) (fun e_ => Or.elim e_ (fun e_ => (fun e_ => (Kd.R_ne HO_410005.out BK429.out (by decide)) e_) e_) (fun e_ => (fun e_ => (Kd.R_ne HO_410007.out BK429.out (by decide)) e_) e_)))) (fun e_ => NB429_409.out e_)))
                       have n4_ := Goto.m0 (Kd.R_mono (ok' := fun k_ => some k_ ≠ (v510 : Value).ownBlock ∧ some k_ ≠ (v514 : Value).ownBlock ∧ some k_ ≠ (v518 : Value).ownBlock) ho0 (fun k_ hk_ => ⟨hk_.2.1, hk_.2.2.1, hk_.2.2.2⟩))
                       have n5_ := Goto.m0 (Kd.R_mono (ok' := fun k_ => some k_ ≠ (v506 : Value).ownBlock ∧ some k_ ≠ (v514 : Value).ownBlock ∧ some k_ ≠ (v518 : Value).ownBlock) ho1 (fun k_ hk_ => ⟨hk_.2.1, hk_.2.2.1, hk_.2.2.2⟩))
                       have n6_ := Goto.m0 (Kd.R_mono (ok' := fun k_ => some k_ ≠ (v506 : Value).ownBlock ∧ some k_ ≠ (v510 : Value).ownBlock ∧ some k_ ≠ (v518 : Value).ownBlock) ho2 (fun k_ hk_ => ⟨hk_.2.1, hk_.2.2.1, hk_.2.2.2⟩))
                       have n7_ := Goto.m0 (Kd.R_mono (ok' := fun k_ => some k_ ≠ (v506 : Value).ownBlock ∧ some k_ ≠ (v510 : Value).ownBlock ∧ some k_ ≠ (v514 : Value).ownBlock) ho3 (fun k_ hk_ => ⟨hk_.2.1, hk_.2.2.1, hk_.2.2.2⟩))
                       have n8_ := Goto.m0 (hb)
                       clear BK409; clear BK427; clear BK428; clear BK429; clear HB; clear HO_410001; clear HO_410003; clear HO_410005; clear HO_410007; have BK409 := n0_; have BK427 := n1_; have BK428 := n2_; have BK429 := n3_; have HO507 := n4_; have HO511 := n5_; have HO515 := n6_; have HO519 := n7_; have HB := n8_; clear n0_ n1_ n2_ n3_ n4_ n5_ n6_ n7_ n8_
                       (try clear hb)
                       (try clear hkp)
                       (try clear ho0)
                       (try clear ho1)
                       (try clear ho2)
                       (try clear ho3)
                       refine hK.out _ _ ⟨(blk_cell BK428.out 0).trans rfl, (blk_cell BK428.out 1).trans rfl, (blk_cell BK428.out 2).trans rfl, (blk_cell BK428.out 3).trans rfl, (blk_cell BK429.out 0).trans rfl, (blk_cell BK429.out 1).trans rfl, (blk_cell BK429.out 2).trans rfl, (blk_cell BK429.out 3).trans rfl⟩ (fun hHeld => ?_)
                       clear hK K
                       refine norm_ (a' := ?_) ?_ ?_
                       rotate_left
                       ·
                        show Act.put _ (some 68) _ = _
                        exact Goto.ap
                       refine Goto.pu 10 72 22 2047 ?_
                       refine Goto.pu 11 73 22 4095 ?_
                       refine Goto.pu 12 74 22 8191 ?_
                       refine Goto.pu 13 75 22 16383 ?_
                       refine Goto.pu 16 78 22 81919 ?_
                       refine Goto.pu 17 79 22 212991 ?_
                       refine take_ (i := 18) (N := some 80) (v := ?_) (a' := ?_) (Goto.bs 22 475135) rfl rfl (take_ofW HT_.out HW_.out (by kernel_rfl)) (fun _ _ _ h => h) (Or.inl ⟨by rfl, ?_⟩) hHeld ?_ ?_
                       rotate_left
                       ·
                        rintro w' ⟨s0, s1, s2, s3, s4, s5, s6, s7⟩
                        go_simp
                        with_reducible rfl
                       rotate_left
                       ·
                        exact Goto.ap
                       refine one_ (i := 14) (N := some 76) (Goto.bs 22 491519) rfl rfl (one_of HT_.out (by kernel_rfl)) (by decide) (fun K hK => ?_)
                       refine goes_ Try.func25 (by kernel_rfl) rfl #[.pointer (some ⟨gb409, 0, none⟩), .int .i64 x12_4] (by rfl) rfl rfl (by (try simp only [List.map_toArray, List.map_cons, List.map_nil]); first | done | rfl | (simp only [List.length_drop, List.length_take]; rfl)) ?_
                       with_reducible refine (object_Objects_Row.calls gb409 t504 (fun k_ => some k_ = (v506 : Value).ownBlock) v506 t505 t508 (fun k_ => some k_ = (v510 : Value).ownBlock) v510 t509 t512 (fun k_ => some k_ = (v514 : Value).ownBlock) v514 t513 t516 (fun k_ => some k_ = (v518 : Value).ownBlock) v518 t517 x12_4 t577 t580 t581 t584 t585 t588 t589 t592 t593 w _ ?side1 ?side2 ?side3 ?side4 ?side5 ?side6 ?side7 ?side8 ?side9 ?side10 ?side11 ?side12 ?side13 ?side14 ?side15 ?side16 ?side17 ?side18 ?side19 A105.out).mono ?_
                       (case side1 => exact by (with_reducible repeat first | refine blk_drewN ?_ _ | refine blk_drew ?_ | refine blk_alloc ?_ _); exact BK409.out)
                       (case side2 => exact GE409.out)
                       (case side3 => repeat (first | (with_reducible first | exact HB.out | apply below_alloc | apply pw_below_drewN | apply below_drew1 | refine below_set ?_ GE409.out | refine below_set ?_ GE427.out | refine below_set ?_ GE428.out | refine below_set ?_ GE429.out) | exact HB.out))
                       (case side4 => exact Kd.R_tight rfl HO507.out)
                       (case side5 => exact fun k_ e_ => (HO507.out.1 k_ e_.symm).1)
                       (case side6 => exact fun k_ e_ => (HO507.out.1 k_ e_.symm).2.1)
                       (case side7 => exact fun k_ e_ => (HO507.out.1 k_ e_.symm).2.2)
                       (case side8 => exact Kd.R_tight rfl HO511.out)
                       (case side9 => exact fun k_ e_ => (HO511.out.1 k_ e_.symm).1)
                       (case side10 => exact fun k_ e_ => (HO511.out.1 k_ e_.symm).2.1)
                       (case side11 => exact fun k_ e_ => (HO511.out.1 k_ e_.symm).2.2)
                       (case side12 => exact Kd.R_tight rfl HO515.out)
                       (case side13 => exact fun k_ e_ => (HO515.out.1 k_ e_.symm).1)
                       (case side14 => exact fun k_ e_ => (HO515.out.1 k_ e_.symm).2.1)
                       (case side15 => exact fun k_ e_ => (HO515.out.1 k_ e_.symm).2.2)
                       (case side16 => exact Kd.R_tight rfl HO519.out)
                       (case side17 => exact fun k_ e_ => (HO519.out.1 k_ e_.symm).1)
                       (case side18 => exact fun k_ e_ => (HO519.out.1 k_ e_.symm).2.1)
                       (case side19 => exact fun k_ e_ => (HO519.out.1 k_ e_.symm).2.2)
                       rintro e w110 ⟨v578, v582, v586, v590, v594, rfl, ho0, ho1, ho2, ho3, ho4, hi, hb, hkp⟩
                       refine ⟨_, rfl, ?_⟩
                       have n0_ := Goto.m0 (hi)
                       have n1_ := Goto.m0 (blk_kept (Goto.bx BK427) hkp (fun hs_ => Or.elim hs_ (fun hs_ => Or.elim hs_ (fun e_ => (fun e_ => (Kd.R_ne HO507.out BK427.out (by decide)) e_) e_) (fun e_ => Or.elim e_ (fun e_ => (fun e_ => (Kd.R_ne HO511.out BK427.out (by decide)) e_) e_) (fun e_ => Or.elim e_ (fun e_ => (fun e_ => (Kd.R_ne HO515.out BK427.out (by decide)) e_) e_) (fun e_ => (fun e_ => (Kd.R_ne HO519.out BK427.out (by decide)) e_) e_)))) (fun e_ => NB427_409.out e_)))
                       have n2_ := Goto.m0 (blk_kept (Goto.bx BK428) hkp (fun hs_ => Or.elim hs_ (fun hs_ => Or.elim hs_ (fun e_ => (fun e_ => (Kd.R_ne HO507.out BK428.out (by decide)) e_) e_) (fun e_ => Or.elim e_ (fun e_ => (fun e_ => (Kd.R_ne HO511.out BK428.out (by decide)) e_) e_) (fun e_ => Or.elim e_ (fun e_ => (fun e_ => (Kd.R_ne HO515.out BK428.out (by decide)) e_) e_) (fun e_ => (fun e_ => (Kd.R_ne HO519.out BK428.out (by decide)) e_) e_)))) (fun e_ => NB428_409.out e_)))
                       have n3_ := Goto.m0 (blk_kept (Goto.bx BK429) hkp (fun hs_ => Or.elim hs_ (fun hs_ => Or.elim hs_ (fun e_ => (fun e_ => (Kd.R_ne HO507.out BK429.out (by decide)) e_) e_) (fun e_ => Or.elim e_ (fun e_ => (fun e_ => (Kd.R_ne HO511.out BK429.out (by decide)) e_) e_) (fun e_ => Or.elim e_ (fun e_ => (fun e_ => (Kd.R_ne HO515.out BK429.out (by decide)) e_) e_) (fun e_ => (fun e_ => (Kd.R_ne HO519.out BK429.out (by decide)) e_) e_)))) (fun e_ => NB429_409.out e_)))
                       have n4_ := Goto.m0 (Kd.R_mono (ok' := fun k_ => some k_ ≠ (v582 : Value).ownBlock ∧ some k_ ≠ (v586 : Value).ownBlock ∧ some k_ ≠ (v590 : Value).ownBlock ∧ some k_ ≠ (v594 : Value).ownBlock) ho0 (fun k_ hk_ => ⟨hk_.2.1, hk_.2.2.1, hk_.2.2.2.1, hk_.2.2.2.2⟩))
                       have n5_ := Goto.m0 (Kd.R_mono (ok' := fun k_ => some k_ ≠ (v578 : Value).ownBlock ∧ some k_ ≠ (v586 : Value).ownBlock ∧ some k_ ≠ (v590 : Value).ownBlock ∧ some k_ ≠ (v594 : Value).ownBlock) ho1 (fun k_ hk_ => ⟨hk_.2.1, hk_.2.2.1, hk_.2.2.2.1, hk_.2.2.2.2⟩))
                       have n6_ := Goto.m0 (Kd.R_mono (ok' := fun k_ => some k_ ≠ (v578 : Value).ownBlock ∧ some k_ ≠ (v582 : Value).ownBlock ∧ some k_ ≠ (v590 : Value).ownBlock ∧ some k_ ≠ (v594 : Value).ownBlock) ho2 (fun k_ hk_ => ⟨hk_.2.1, hk_.2.2.1, hk_.2.2.2.1, hk_.2.2.2.2⟩))
                       have n7_ := Goto.m0 (Kd.R_mono (ok' := fun k_ => some k_ ≠ (v578 : Value).ownBlock ∧ some k_ ≠ (v582 : Value).ownBlock ∧ some k_ ≠ (v586 : Value).ownBlock ∧ some k_ ≠ (v594 : Value).ownBlock) ho3 (fun k_ hk_ => ⟨hk_.2.1, hk_.2.2.1, hk_.2.2.2.1, hk_.2.2.2.2⟩))
                       have n8_ := Goto.m0 (Kd.R_mono (ok' := fun k_ => some k_ ≠ (v578 : Value).ownBlock ∧ some k_ ≠ (v582 : Value).ownBlock ∧ some k_ ≠ (v586 : Value).ownBlock ∧ some k_ ≠ (v590 : Value).ownBlock) ho4 (fun k_ hk_ => ⟨hk_.2.1, hk_.2.2.1, hk_.2.2.2.1, hk_.2.2.2.2⟩))
                       have n9_ := Goto.m0 (hb)
                       clear BK409; clear BK427; clear BK428; clear BK429; clear HB; clear HO507; clear HO511; clear HO515; clear HO519; have BK409 := n0_; have BK427 := n1_; have BK428 := n2_; have BK429 := n3_; have HO579 := n4_; have HO583 := n5_; have HO587 := n6_; have HO591 := n7_; have HO595 := n8_; have HB := n9_; clear n0_ n1_ n2_ n3_ n4_ n5_ n6_ n7_ n8_ n9_
                       (try clear hb)
                       (try clear hkp)
                       (try clear ho0)
                       (try clear ho1)
                       (try clear ho2)
                       (try clear ho3)
                       (try clear ho4)
                       obtain ⟨Ao111, co111, eo111⟩ := Kd.R_slice HO579.out
                       (first | subst eo111 | (injection eo111 with f1_ f2_ f3_; have f4_ := f1_.symm; have f5_ := f3_.symm; clear f1_ f2_ f3_; subst f4_; subst f5_))
                       refine hK.out _ _ ⟨(blk_cell BK428.out 0).trans rfl, (blk_cell BK428.out 1).trans rfl, (blk_cell BK428.out 2).trans rfl, (blk_cell BK428.out 3).trans rfl, (blk_cell BK429.out 0).trans rfl, (blk_cell BK429.out 1).trans rfl, (blk_cell BK429.out 2).trans rfl, (blk_cell BK429.out 3).trans rfl⟩ (fun hHeld => ?_)
                       clear hK K
                       refine norm_ (a' := ?_) ?_ ?_
                       rotate_left
                       ·
                        show Act.put _ (some 76) _ = _
                        exact Goto.ap
                       refine Goto.pu 15 77 22 524287 ?_
                       refine Goto.pu 19 81 22 1048575 ?_
                       refine Goto.pu 20 82 22 2097151 ?_
                       refine Goto.pu 21 83 22 4194303 ?_
                       refine done_ (done_of HT_.out (by kernel_rfl)) ?_
                       try go_wp2
                       go_roundg k4
                       case measure => have := HK1.out; have := HK2.out; have := HJ56.out; have := HK4.out; omega
                       case rel => exact ⟨(wrap64 (x12_4 + 1)), (t580), (t581), (t584), (t585), (t588), (t589), (t592), (t593), (v582), (v586), (v590), (v594), (by first | rfl | (simp; done) | (simp [*]; done) | (congr 1; unfold wrap64; omega)), H', ⟨by have := HK1.out; have := HK2.out; have := HJ56.out; have := HK4.out; omega⟩, ⟨by (with_reducible repeat (first | apply Kd.R_alloc | apply Kd.R_drewN | apply Kd.R_drew)); exact Kd.R_mono HO583.out (fun _ hk => ⟨hk.2.1, ⟨hk.2.2.1, hk.2.2.2⟩⟩)⟩, ⟨by (with_reducible repeat (first | apply Kd.R_alloc | apply Kd.R_drewN | apply Kd.R_drew)); exact Kd.R_mono HO587.out (fun _ hk => ⟨hk.2.1, ⟨hk.2.2.1, hk.2.2.2⟩⟩)⟩, ⟨by (with_reducible repeat (first | apply Kd.R_alloc | apply Kd.R_drewN | apply Kd.R_drew)); exact Kd.R_mono HO591.out (fun _ hk => ⟨hk.2.1, ⟨hk.2.2.1, hk.2.2.2⟩⟩)⟩, ⟨by (with_reducible repeat (first | apply Kd.R_alloc | apply Kd.R_drewN | apply Kd.R_drew)); exact Kd.R_mono HO595.out (fun _ hk => ⟨hk.2.1, ⟨hk.2.2.1, hk.2.2.2⟩⟩)⟩, ⟨Goto.bx BK409⟩, ⟨Goto.bx BK427⟩, ⟨Goto.bx BK428⟩, ⟨Goto.bx BK429⟩, ⟨Goto.hx HB⟩⟩
                      ·
                       rw [if_neg c107] at H
                       have c107b0 : ((t577.length : Int) == x430003_2) = false := beq_eq_false_iff_ne.mpr c107
                       have c107b1 : ((t577.length : Int) != x430003_2) = true := bne_iff_ne.mpr c107
                       exact absurd ((Option.some.inj H).trans HRT.out) (by decide)
                     ·
                      rw [if_neg c104] at H
                      have c104b0 : (t503 == x429003_2) = false := beq_eq_false_iff_ne.mpr c104
                      have c104b1 : (t503 != x429003_2) = true := bne_iff_ne.mpr c104
                      exact absurd ((Option.some.inj H).trans HRT.out) (by decide)
                    ·
                     rw [if_neg c102] at H
                     exact absurd H (by simp)
                ·
                 rw [if_neg c71] at H
                 exact absurd H (by simp)
              ·
               rw [if_neg c67] at H
               have c67b0 : decide (x12_4 < 4) = false := decide_eq_false c67
               clear c67
               replace H := Option.bind_eq_some_iff.mp H
               obtain ⟨⟨t596, t597, t598, t601, t602, t605, t606, t609, t610⟩, A1120, H⟩ := H
               replace H : (if t596 > 0 then ((object_Objects_Row.f t597 t598 t601 t602 t605 t606 t609 t610 (wrap64 (Int.tmod a1 4))).bind fun bt613 => (if (bt613.1.length : Int) > 0 then (some false) else (tontinelaw9_ObjectApart.l0 k4 l0 (wrap64 (Int.tmod a1 4)) (wrap64 (x7_1 + 1)) bt613.2.1 bt613.2.2.1 bt613.2.2.2.1 bt613.2.2.2.2.1 bt613.2.2.2.2.2.1 bt613.2.2.2.2.2.2.1 bt613.2.2.2.2.2.2.2.1 bt613.2.2.2.2.2.2.2.2))) else (tontinelaw9_ObjectApart.l0 k4 l0 (wrap64 (Int.tmod a1 4)) (wrap64 (x7_1 + 1)) t597 t598 t601 t602 t605 t606 t609 t610)) = some r := H
               have A112 := Goto.m0 A1120
               clear A1120
               by_cases c113 : t596 > 0
               ·
                rw [if_pos c113] at H
                have c113b0 : decide (0 < t596) = true := decide_eq_true c113
                clear c113
                replace H := Option.bind_eq_some_iff.mp H
                obtain ⟨⟨t613, t616, t617, t620, t621, t624, t625, t628, t629⟩, A1140, H⟩ := H
                replace H : (if (t613.length : Int) > 0 then (some false) else (tontinelaw9_ObjectApart.l0 k4 l0 (wrap64 (Int.tmod a1 4)) (wrap64 (x7_1 + 1)) t616 t617 t620 t621 t624 t625 t628 t629)) = some r := H
                have A114 := Goto.m0 A1140
                clear A1140
                by_cases c115 : (t613.length : Int) > 0
                ·
                 rw [if_pos c115] at H
                 have c115b0 : decide (0 < (t613.length : Int)) = true := decide_eq_true c115
                 have c115b1 : decide (0 < t613.length) = true := decide_eq_true (by omega)
                 clear c115
                 exact absurd ((Option.some.inj H).trans HRT.out) (by decide)
                ·
                 rw [if_neg c115] at H
                 have c115b0 : decide (0 < (t613.length : Int)) = false := decide_eq_false c115
                 have c115b1 : decide (0 < t613.length) = false := decide_eq_false (by omega)
                 clear c115
                 have H' := Goto.m0 H
                 clear H
                 go_wp2_with (first | ((with_reducible refine gate_callee (f := 24) rfl ?_); refine goesL_ (some 86) rfl rfl Try.func24 (by kernel_rfl) rfl #[.pointer (some ⟨gb409, 0, none⟩), .int .i64 (wrap64 (Int.tmod a1 4))] rfl (by (try simp only [List.map_toArray, List.map_cons, List.map_nil]); first | done | rfl | (simp only [List.length_drop, List.length_take]; rfl)) ?_; (with_reducible refine (object_Objects_Count.calls gb409 x410000_4 (fun k_ => some k_ = (u410001 : Value).ownBlock) u410001 x410001_4 x410002_4 (fun k_ => some k_ = (u410003 : Value).ownBlock) u410003 x410003_4 x410004_4 (fun k_ => some k_ = (u410005 : Value).ownBlock) u410005 x410005_4 x410006_4 (fun k_ => some k_ = (u410007 : Value).ownBlock) u410007 x410007_4 (wrap64 (Int.tmod a1 4)) t596 t597 t598 t601 t602 t605 t606 t609 t610 w _ ?side1 ?side2 ?side3 ?side4 ?side5 ?side6 ?side7 ?side8 ?side9 ?side10 ?side11 ?side12 ?side13 ?side14 ?side15 ?side16 ?side17 ?side18 ?side19 A112.out).mono ?_); (case side1 => exact by (with_reducible repeat first | refine blk_drewN ?_ _ | refine blk_drew ?_ | refine blk_alloc ?_ _); exact BK409.out); (case side2 => exact GE409.out); (case side3 => repeat (first | (with_reducible first | exact HB.out | apply below_alloc | apply pw_below_drewN | apply below_drew1 | refine below_set ?_ GE409.out | refine below_set ?_ GE427.out | refine below_set ?_ GE428.out | refine below_set ?_ GE429.out) | exact HB.out)); (case side4 => exact Kd.R_tight rfl HO_410001.out); (case side5 => exact fun k_ e_ => (HO_410001.out.1 k_ e_.symm).1); (case side6 => exact fun k_ e_ => (HO_410001.out.1 k_ e_.symm).2.1); (case side7 => exact fun k_ e_ => (HO_410001.out.1 k_ e_.symm).2.2); (case side8 => exact Kd.R_tight rfl HO_410003.out); (case side9 => exact fun k_ e_ => (HO_410003.out.1 k_ e_.symm).1); (case side10 => exact fun k_ e_ => (HO_410003.out.1 k_ e_.symm).2.1); (case side11 => exact fun k_ e_ => (HO_410003.out.1 k_ e_.symm).2.2); (case side12 => exact Kd.R_tight rfl HO_410005.out); (case side13 => exact fun k_ e_ => (HO_410005.out.1 k_ e_.symm).1); (case side14 => exact fun k_ e_ => (HO_410005.out.1 k_ e_.symm).2.1); (case side15 => exact fun k_ e_ => (HO_410005.out.1 k_ e_.symm).2.2); (case side16 => exact Kd.R_tight rfl HO_410007.out); (case side17 => exact fun k_ e_ => (HO_410007.out.1 k_ e_.symm).1); (case side18 => exact fun k_ e_ => (HO_410007.out.1 k_ e_.symm).2.1); (case side19 => exact fun k_ e_ => (HO_410007.out.1 k_ e_.symm).2.2); rintro e w116 ⟨v599, v603, v607, v611, rfl, ho0, ho1, ho2, ho3, hi, hb, hkp⟩; refine ⟨_, rfl, ?_⟩; have n0_ := Goto.m0 (hi); have n1_ := Goto.m0 (blk_kept (Goto.bx BK427) hkp (fun hs_ => Or.elim hs_ (fun hs_ => Or.elim hs_ (fun e_ => (fun e_ => (Kd.R_ne HO_410001.out BK427.out (by decide)) e_) e_) (fun e_ => Or.elim e_ (fun e_ => (fun e_ => (Kd.R_ne HO_410003.out BK427.out (by decide)) e_) e_) (fun e_ => Or.elim e_ (fun e_ => (fun e_ => (Kd.R_ne HO_410005.out BK427.out (by decide)) e_) e_) (fun e_ => (fun e_ => (Kd.R_ne HO_410007.out BK427.out (by decide)) e_) e_)))) (fun e_ => NB427_409.out e_))); have n2_ := Goto.m0 (blk_kept (Goto.bx BK428) hkp (fun hs_ => Or.elim hs_ (fun hs_ => Or.elim hs_ (fun e_ => (fun e_ => (Kd.R_ne HO_410001.out BK428.out (by decide)) e_) e_) (fun e_ => Or.elim e_ (fun e_ => (fun e_ => (Kd.R_ne HO_410003.out BK428.out (by decide)) e_) e_) (fun e_ => Or.elim e_ (fun e_ => (fun e_ => (Kd.R_ne HO_410005.out BK428.out (by decide)) e_) e_) (fun e_ => (fun e_ => (Kd.R_ne HO_410007.out BK428.out (by decide)) e_) e_)))) (fun e_ => NB428_409.out e_))); have n3_ := Goto.m0 (blk_kept (Goto.bx BK429) hkp (fun hs_ => Or.elim hs_ (fun hs_ => Or.elim hs_ (fun e_ => (fun e_ => (Kd.R_ne HO_410001.out BK429.out (by decide)) e_) e_) (fun e_ => Or.elim e_ (fun e_ => (fun e_ => (Kd.R_ne HO_410003.out BK429.out (by decide)) e_) e_) (fun e_ => Or.elim e_ (fun e_ => (fun e_ => (Kd.R_ne HO_410005.out BK429.out (by decide)) e_) e_) (fun e_ => (fun e_ => (Kd.R_ne HO_410007.out BK429.out (by decide)) e_) e_)))) (fun e_ => NB429_409.out e_))); have n4_ := Goto.m0 (Kd.R_mono (ok' := fun k_ => some k_ ≠ (v603 : Value).ownBlock ∧ some k_ ≠ (v607 : Value).ownBlock ∧ some k_ ≠ (v611 : Value).ownBlock) ho0 (fun k_ hk_ => ⟨hk_.2.1, hk_.2.2.1, hk_.2.2.2⟩)); have n5_ := Goto.m0 (Kd.R_mono (ok' := fun k_ => some k_ ≠ (v599 : Value).ownBlock ∧ some k_ ≠ (v607 : Value).ownBlock ∧ some k_ ≠ (v611 : Value).ownBlock) ho1 (fun k_ hk_ => ⟨hk_.2.1, hk_.2.2.1, hk_.2.2.2⟩)); have n6_ := Goto.m0 (Kd.R_mono (ok' := fun k_ => some k_ ≠ (v599 : Value).ownBlock ∧ some k_ ≠ (v603 : Value).ownBlock ∧ some k_ ≠ (v611 : Value).ownBlock) ho2 (fun k_ hk_ => ⟨hk_.2.1, hk_.2.2.1, hk_.2.2.2⟩)); have n7_ := Goto.m0 (Kd.R_mono (ok' := fun k_ => some k_ ≠ (v599 : Value).ownBlock ∧ some k_ ≠ (v603 : Value).ownBlock ∧ some k_ ≠ (v607 : Value).ownBlock) ho3 (fun k_ hk_ => ⟨hk_.2.1, hk_.2.2.1, hk_.2.2.2⟩)); have n8_ := Goto.m0 (hb); clear BK409; clear BK427; clear BK428; clear BK429; clear HB; clear HO_410001; clear HO_410003; clear HO_410005; clear HO_410007; have BK409 := n0_; have BK427 := n1_; have BK428 := n2_; have BK429 := n3_; have HO600 := n4_; have HO604 := n5_; have HO608 := n6_; have HO612 := n7_; have HB := n8_; clear n0_ n1_ n2_ n3_ n4_ n5_ n6_ n7_ n8_; (try clear hb); (try clear hkp); (try clear ho0); (try clear ho1); (try clear ho2); (try clear ho3)) | (go_at_call 25; (with_reducible refine (object_Objects_Row.calls gb409 t597 (fun k_ => some k_ = (v599 : Value).ownBlock) v599 t598 t601 (fun k_ => some k_ = (v603 : Value).ownBlock) v603 t602 t605 (fun k_ => some k_ = (v607 : Value).ownBlock) v607 t606 t609 (fun k_ => some k_ = (v611 : Value).ownBlock) v611 t610 (wrap64 (Int.tmod a1 4)) t613 t616 t617 t620 t621 t624 t625 t628 t629 w _ ?side1 ?side2 ?side3 ?side4 ?side5 ?side6 ?side7 ?side8 ?side9 ?side10 ?side11 ?side12 ?side13 ?side14 ?side15 ?side16 ?side17 ?side18 ?side19 A114.out).mono ?_); (case side1 => exact by (with_reducible repeat first | refine blk_drewN ?_ _ | refine blk_drew ?_ | refine blk_alloc ?_ _); exact BK409.out); (case side2 => exact GE409.out); (case side3 => repeat (first | (with_reducible first | exact HB.out | apply below_alloc | apply pw_below_drewN | apply below_drew1 | refine below_set ?_ GE409.out | refine below_set ?_ GE427.out | refine below_set ?_ GE428.out | refine below_set ?_ GE429.out) | exact HB.out)); (case side4 => exact Kd.R_tight rfl HO600.out); (case side5 => exact fun k_ e_ => (HO600.out.1 k_ e_.symm).1); (case side6 => exact fun k_ e_ => (HO600.out.1 k_ e_.symm).2.1); (case side7 => exact fun k_ e_ => (HO600.out.1 k_ e_.symm).2.2); (case side8 => exact Kd.R_tight rfl HO604.out); (case side9 => exact fun k_ e_ => (HO604.out.1 k_ e_.symm).1); (case side10 => exact fun k_ e_ => (HO604.out.1 k_ e_.symm).2.1); (case side11 => exact fun k_ e_ => (HO604.out.1 k_ e_.symm).2.2); (case side12 => exact Kd.R_tight rfl HO608.out); (case side13 => exact fun k_ e_ => (HO608.out.1 k_ e_.symm).1); (case side14 => exact fun k_ e_ => (HO608.out.1 k_ e_.symm).2.1); (case side15 => exact fun k_ e_ => (HO608.out.1 k_ e_.symm).2.2); (case side16 => exact Kd.R_tight rfl HO612.out); (case side17 => exact fun k_ e_ => (HO612.out.1 k_ e_.symm).1); (case side18 => exact fun k_ e_ => (HO612.out.1 k_ e_.symm).2.1); (case side19 => exact fun k_ e_ => (HO612.out.1 k_ e_.symm).2.2); rintro e w117 ⟨v614, v618, v622, v626, v630, rfl, ho0, ho1, ho2, ho3, ho4, hi, hb, hkp⟩; have n0_ := Goto.m0 (hi); have n1_ := Goto.m0 (blk_kept (Goto.bx BK427) hkp (fun hs_ => Or.elim hs_ (fun hs_ => Or.elim hs_ (fun e_ => (fun e_ => (Kd.R_ne HO600.out BK427.out (by decide)) e_) e_) (fun e_ => Or.elim e_ (fun e_ => (fun e_ => (Kd.R_ne HO604.out BK427.out (by decide)) e_) e_) (fun e_ => Or.elim e_ (fun e_ => (fun e_ => (Kd.R_ne HO608.out BK427.out (by decide)) e_) e_) (fun e_ => (fun e_ => (Kd.R_ne HO612.out BK427.out (by decide)) e_) e_)))) (fun e_ => NB427_409.out e_))); have n2_ := Goto.m0 (blk_kept (Goto.bx BK428) hkp (fun hs_ => Or.elim hs_ (fun hs_ => Or.elim hs_ (fun e_ => (fun e_ => (Kd.R_ne HO600.out BK428.out (by decide)) e_) e_) (fun e_ => Or.elim e_ (fun e_ => (fun e_ => (Kd.R_ne HO604.out BK428.out (by decide)) e_) e_) (fun e_ => Or.elim e_ (fun e_ => (fun e_ => (Kd.R_ne HO608.out BK428.out (by decide)) e_) e_) (fun e_ => (fun e_ => (Kd.R_ne HO612.out BK428.out (by decide)) e_) e_)))) (fun e_ => NB428_409.out e_))); have n3_ := Goto.m0 (blk_kept (Goto.bx BK429) hkp (fun hs_ => Or.elim hs_ (fun hs_ => Or.elim hs_ (fun e_ => (fun e_ => (Kd.R_ne HO600.out BK429.out (by decide)) e_) e_) (fun e_ => Or.elim e_ (fun e_ => (fun e_ => (Kd.R_ne HO604.out BK429.out (by decide)) e_) e_) (fun e_ => Or.elim e_ (fun e_ => (fun e_ => (Kd.R_ne HO608.out BK429.out (by decide)) e_) e_) (fun e_ => (fun e_ => (Kd.R_ne HO612.out BK429.out (by decide)) e_) e_)))) (fun e_ => NB429_409.out e_))); have n4_ := Goto.m0 (Kd.R_mono (ok' := fun k_ => some k_ ≠ (v618 : Value).ownBlock ∧ some k_ ≠ (v622 : Value).ownBlock ∧ some k_ ≠ (v626 : Value).ownBlock ∧ some k_ ≠ (v630 : Value).ownBlock) ho0 (fun k_ hk_ => ⟨hk_.2.1, hk_.2.2.1, hk_.2.2.2.1, hk_.2.2.2.2⟩)); have n5_ := Goto.m0 (Kd.R_mono (ok' := fun k_ => some k_ ≠ (v614 : Value).ownBlock ∧ some k_ ≠ (v622 : Value).ownBlock ∧ some k_ ≠ (v626 : Value).ownBlock ∧ some k_ ≠ (v630 : Value).ownBlock) ho1 (fun k_ hk_ => ⟨hk_.2.1, hk_.2.2.1, hk_.2.2.2.1, hk_.2.2.2.2⟩)); have n6_ := Goto.m0 (Kd.R_mono (ok' := fun k_ => some k_ ≠ (v614 : Value).ownBlock ∧ some k_ ≠ (v618 : Value).ownBlock ∧ some k_ ≠ (v626 : Value).ownBlock ∧ some k_ ≠ (v630 : Value).ownBlock) ho2 (fun k_ hk_ => ⟨hk_.2.1, hk_.2.2.1, hk_.2.2.2.1, hk_.2.2.2.2⟩)); have n7_ := Goto.m0 (Kd.R_mono (ok' := fun k_ => some k_ ≠ (v614 : Value).ownBlock ∧ some k_ ≠ (v618 : Value).ownBlock ∧ some k_ ≠ (v622 : Value).ownBlock ∧ some k_ ≠ (v630 : Value).ownBlock) ho3 (fun k_ hk_ => ⟨hk_.2.1, hk_.2.2.1, hk_.2.2.2.1, hk_.2.2.2.2⟩)); have n8_ := Goto.m0 (Kd.R_mono (ok' := fun k_ => some k_ ≠ (v614 : Value).ownBlock ∧ some k_ ≠ (v618 : Value).ownBlock ∧ some k_ ≠ (v622 : Value).ownBlock ∧ some k_ ≠ (v626 : Value).ownBlock) ho4 (fun k_ hk_ => ⟨hk_.2.1, hk_.2.2.1, hk_.2.2.2.1, hk_.2.2.2.2⟩)); have n9_ := Goto.m0 (hb); clear BK409; clear BK427; clear BK428; clear BK429; clear HB; clear HO600; clear HO604; clear HO608; clear HO612; have BK409 := n0_; have BK427 := n1_; have BK428 := n2_; have BK429 := n3_; have HO615 := n4_; have HO619 := n5_; have HO623 := n6_; have HO627 := n7_; have HO631 := n8_; have HB := n9_; clear n0_ n1_ n2_ n3_ n4_ n5_ n6_ n7_ n8_ n9_; (try clear hb); (try clear hkp); (try clear ho0); (try clear ho1); (try clear ho2); (try clear ho3); (try clear ho4); obtain ⟨Ao118, co118, eo118⟩ := Kd.R_slice HO615.out; subst eo118))
                 go_roundg k4
                 case measure => have := HK1.out; have := HK2.out; have := HJ56.out; have := HK4.out; omega
                 case rel => exact ⟨(wrap64 (x7_1 + 1)), (t616), (t617), (t620), (t621), (t624), (t625), (t628), (t629), (v618), (v622), (v626), (v630), (by first | rfl | (simp; done) | (simp [*]; done) | (congr 1; unfold wrap64; omega)), H', ⟨by have := HK1.out; have := HK2.out; have := HJ56.out; have := HK4.out; omega⟩, ⟨by (with_reducible repeat (first | apply Kd.R_alloc | apply Kd.R_drewN | apply Kd.R_drew)); exact Kd.R_mono HO619.out (fun _ hk => ⟨hk.2.1, ⟨hk.2.2.1, hk.2.2.2⟩⟩)⟩, ⟨by (with_reducible repeat (first | apply Kd.R_alloc | apply Kd.R_drewN | apply Kd.R_drew)); exact Kd.R_mono HO623.out (fun _ hk => ⟨hk.2.1, ⟨hk.2.2.1, hk.2.2.2⟩⟩)⟩, ⟨by (with_reducible repeat (first | apply Kd.R_alloc | apply Kd.R_drewN | apply Kd.R_drew)); exact Kd.R_mono HO627.out (fun _ hk => ⟨hk.2.1, ⟨hk.2.2.1, hk.2.2.2⟩⟩)⟩, ⟨by (with_reducible repeat (first | apply Kd.R_alloc | apply Kd.R_drewN | apply Kd.R_drew)); exact Kd.R_mono HO631.out (fun _ hk => ⟨hk.2.1, ⟨hk.2.2.1, hk.2.2.2⟩⟩)⟩, ⟨Goto.bx BK409⟩, ⟨Goto.hx HB⟩⟩
               ·
                rw [if_neg c113] at H
                have c113b0 : decide (0 < t596) = false := decide_eq_false c113
                clear c113
                have H' := Goto.m0 H
                clear H
                go_wp2_with (first | ((with_reducible refine gate_callee (f := 24) rfl ?_); refine goesL_ (some 86) rfl rfl Try.func24 (by kernel_rfl) rfl #[.pointer (some ⟨gb409, 0, none⟩), .int .i64 (wrap64 (Int.tmod a1 4))] rfl (by (try simp only [List.map_toArray, List.map_cons, List.map_nil]); first | done | rfl | (simp only [List.length_drop, List.length_take]; rfl)) ?_; (with_reducible refine (object_Objects_Count.calls gb409 x410000_4 (fun k_ => some k_ = (u410001 : Value).ownBlock) u410001 x410001_4 x410002_4 (fun k_ => some k_ = (u410003 : Value).ownBlock) u410003 x410003_4 x410004_4 (fun k_ => some k_ = (u410005 : Value).ownBlock) u410005 x410005_4 x410006_4 (fun k_ => some k_ = (u410007 : Value).ownBlock) u410007 x410007_4 (wrap64 (Int.tmod a1 4)) t596 t597 t598 t601 t602 t605 t606 t609 t610 w _ ?side1 ?side2 ?side3 ?side4 ?side5 ?side6 ?side7 ?side8 ?side9 ?side10 ?side11 ?side12 ?side13 ?side14 ?side15 ?side16 ?side17 ?side18 ?side19 A112.out).mono ?_); (case side1 => exact by (with_reducible repeat first | refine blk_drewN ?_ _ | refine blk_drew ?_ | refine blk_alloc ?_ _); exact BK409.out); (case side2 => exact GE409.out); (case side3 => repeat (first | (with_reducible first | exact HB.out | apply below_alloc | apply pw_below_drewN | apply below_drew1 | refine below_set ?_ GE409.out | refine below_set ?_ GE427.out | refine below_set ?_ GE428.out | refine below_set ?_ GE429.out) | exact HB.out)); (case side4 => exact Kd.R_tight rfl HO_410001.out); (case side5 => exact fun k_ e_ => (HO_410001.out.1 k_ e_.symm).1); (case side6 => exact fun k_ e_ => (HO_410001.out.1 k_ e_.symm).2.1); (case side7 => exact fun k_ e_ => (HO_410001.out.1 k_ e_.symm).2.2); (case side8 => exact Kd.R_tight rfl HO_410003.out); (case side9 => exact fun k_ e_ => (HO_410003.out.1 k_ e_.symm).1); (case side10 => exact fun k_ e_ => (HO_410003.out.1 k_ e_.symm).2.1); (case side11 => exact fun k_ e_ => (HO_410003.out.1 k_ e_.symm).2.2); (case side12 => exact Kd.R_tight rfl HO_410005.out); (case side13 => exact fun k_ e_ => (HO_410005.out.1 k_ e_.symm).1); (case side14 => exact fun k_ e_ => (HO_410005.out.1 k_ e_.symm).2.1); (case side15 => exact fun k_ e_ => (HO_410005.out.1 k_ e_.symm).2.2); (case side16 => exact Kd.R_tight rfl HO_410007.out); (case side17 => exact fun k_ e_ => (HO_410007.out.1 k_ e_.symm).1); (case side18 => exact fun k_ e_ => (HO_410007.out.1 k_ e_.symm).2.1); (case side19 => exact fun k_ e_ => (HO_410007.out.1 k_ e_.symm).2.2); rintro e w119 ⟨v599, v603, v607, v611, rfl, ho0, ho1, ho2, ho3, hi, hb, hkp⟩; refine ⟨_, rfl, ?_⟩; have n0_ := Goto.m0 (hi); have n1_ := Goto.m0 (blk_kept (Goto.bx BK427) hkp (fun hs_ => Or.elim hs_ (fun hs_ => Or.elim hs_ (fun e_ => (fun e_ => (Kd.R_ne HO_410001.out BK427.out (by decide)) e_) e_) (fun e_ => Or.elim e_ (fun e_ => (fun e_ => (Kd.R_ne HO_410003.out BK427.out (by decide)) e_) e_) (fun e_ => Or.elim e_ (fun e_ => (fun e_ => (Kd.R_ne HO_410005.out BK427.out (by decide)) e_) e_) (fun e_ => (fun e_ => (Kd.R_ne HO_410007.out BK427.out (by decide)) e_) e_)))) (fun e_ => NB427_409.out e_))); have n2_ := Goto.m0 (blk_kept (Goto.bx BK428) hkp (fun hs_ => Or.elim hs_ (fun hs_ => Or.elim hs_ (fun e_ => (fun e_ => (Kd.R_ne HO_410001.out BK428.out (by decide)) e_) e_) (fun e_ => Or.elim e_ (fun e_ => (fun e_ => (Kd.R_ne HO_410003.out BK428.out (by decide)) e_) e_) (fun e_ => Or.elim e_ (fun e_ => (fun e_ => (Kd.R_ne HO_410005.out BK428.out (by decide)) e_) e_) (fun e_ => (fun e_ => (Kd.R_ne HO_410007.out BK428.out (by decide)) e_) e_)))) (fun e_ => NB428_409.out e_))); have n3_ := Goto.m0 (blk_kept (Goto.bx BK429) hkp (fun hs_ => Or.elim hs_ (fun hs_ => Or.elim hs_ (fun e_ => (fun e_ => (Kd.R_ne HO_410001.out BK429.out (by decide)) e_) e_) (fun e_ => Or.elim e_ (fun e_ => (fun e_ => (Kd.R_ne HO_410003.out BK429.out (by decide)) e_) e_) (fun e_ => Or.elim e_ (fun e_ => (fun e_ => (Kd.R_ne HO_410005.out BK429.out (by decide)) e_) e_) (fun e_ => (fun e_ => (Kd.R_ne HO_410007.out BK429.out (by decide)) e_) e_)))) (fun e_ => NB429_409.out e_))); have n4_ := Goto.m0 (Kd.R_mono (ok' := fun k_ => some k_ ≠ (v603 : Value).ownBlock ∧ some k_ ≠ (v607 : Value).ownBlock ∧ some k_ ≠ (v611 : Value).ownBlock) ho0 (fun k_ hk_ => ⟨hk_.2.1, hk_.2.2.1, hk_.2.2.2⟩)); have n5_ := Goto.m0 (Kd.R_mono (ok' := fun k_ => some k_ ≠ (v599 : Value).ownBlock ∧ some k_ ≠ (v607 : Value).ownBlock ∧ some k_ ≠ (v611 : Value).ownBlock) ho1 (fun k_ hk_ => ⟨hk_.2.1, hk_.2.2.1, hk_.2.2.2⟩)); have n6_ := Goto.m0 (Kd.R_mono (ok' := fun k_ => some k_ ≠ (v599 : Value).ownBlock ∧ some k_ ≠ (v603 : Value).ownBlock ∧ some k_ ≠ (v611 : Value).ownBlock) ho2 (fun k_ hk_ => ⟨hk_.2.1, hk_.2.2.1, hk_.2.2.2⟩)); have n7_ := Goto.m0 (Kd.R_mono (ok' := fun k_ => some k_ ≠ (v599 : Value).ownBlock ∧ some k_ ≠ (v603 : Value).ownBlock ∧ some k_ ≠ (v607 : Value).ownBlock) ho3 (fun k_ hk_ => ⟨hk_.2.1, hk_.2.2.1, hk_.2.2.2⟩)); have n8_ := Goto.m0 (hb); clear BK409; clear BK427; clear BK428; clear BK429; clear HB; clear HO_410001; clear HO_410003; clear HO_410005; clear HO_410007; have BK409 := n0_; have BK427 := n1_; have BK428 := n2_; have BK429 := n3_; have HO600 := n4_; have HO604 := n5_; have HO608 := n6_; have HO612 := n7_; have HB := n8_; clear n0_ n1_ n2_ n3_ n4_ n5_ n6_ n7_ n8_; (try clear hb); (try clear hkp); (try clear ho0); (try clear ho1); (try clear ho2); (try clear ho3)))
                go_roundg k4
                case measure => have := HK1.out; have := HK2.out; have := HJ56.out; have := HK4.out; omega
                case rel => exact ⟨(wrap64 (x7_1 + 1)), (t597), (t598), (t601), (t602), (t605), (t606), (t609), (t610), (v599), (v603), (v607), (v611), (by first | rfl | (simp; done) | (simp [*]; done) | (congr 1; unfold wrap64; omega)), H', ⟨by have := HK1.out; have := HK2.out; have := HJ56.out; have := HK4.out; omega⟩, ⟨Goto.rk HO600⟩, ⟨Goto.rk HO604⟩, ⟨Goto.rk HO608⟩, ⟨Goto.rk HO612⟩, ⟨Goto.bx BK409⟩, ⟨Goto.hx HB⟩⟩
      ·
       rw [if_neg c11] at H
       exact absurd H (by simp)
     ·
      rw [if_neg c10] at H
      have c10b0 : decide (x7_1 < (l0.length : Int)) = false := decide_eq_false c10
      clear c10
      obtain rfl := Option.some.inj H
      go_wp2
      go_ret
      exact ⟨Goto.er, by repeat (first | (with_reducible first | exact HB.out | apply below_alloc | apply pw_below_drewN | apply below_drew1 | refine below_set ?_ GE409.out) | exact HB.out)⟩
 ·
  replace c4 := Bool.eq_false_iff.mpr c4
  subst c4
  rw [if_neg (show ¬ (false = true) by decide)] at H
  exact absurd ((Option.some.inj H).trans HRT.out) (by decide)

end Go.Proofs.Ytiejhnijfgdapaa.P
