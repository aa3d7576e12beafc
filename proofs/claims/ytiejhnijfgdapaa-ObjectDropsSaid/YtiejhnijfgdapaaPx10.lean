/- Printed by a program of this workplace (a turned copy of the kit's optional print), out of the translation; not trusted: Lean checks it. -/
import Derived.Test.YtiejhnijfgdapaaPx0
import Derived.Test.YtiejhnijfgdapaaPx2
import Derived.Test.YtiejhnijfgdapaaPx4
import Derived.Test.YtiejhnijfgdapaaPx5
import Derived.Test.YtiejhnijfgdapaaPx6
import Derived.Test.YtiejhnijfgdapaaPx7
import Derived.Test.YtiejhnijfgdapaaPx8
import Derived.Test.YtiejhnijfgdapaaDrop
namespace Go.Proofs.Ytiejhnijfgdapaa.P
open Go.RowKit Go.Proofs.YtiejhnijfgdapaaW.PrintWords Go.Proofs.YtiejhnijfgdapaaW.PrintLast Go.Proofs.YtiejhnijfgdapaaW.PrintMore
attribute [local go_sem] max2_int min2_int max_two min_two max_three min_three max_four min_four   -- for this text's walks alone
set_option linter.unusedVariables false
set_option linter.unusedSimpArgs false

/-! ### tontinelaw9_ObjectDrops: function 8 -/
mutual
def tontinelaw9_ObjectDrops.l0 : Nat → Int → Int → Int → Int → List Int → Int → List Int → Int → List Int → Int → List Int → Option (Bool)
  | 0, _, _, _, _, _, _, _, _, _, _, _ => none
  | k + 1, x5, x6, x8, x522000, x522001, x522002, x522003, x522004, x522005, x522006, x522007 => if x8 < x5 then ((object_Objects_Wait.f k x522000 x522001 x522002 x522003 x522004 x522005 x522006 x522007 (wrap64 (x8 + 5)) 1).bind fun bt538 => (if bt538.1 = true then (tontinelaw9_ObjectDrops.j1 k x5 x6 x8 true bt538.2.2.1 bt538.2.2.2.1 bt538.2.2.2.2.1 bt538.2.2.2.2.2.1 bt538.2.2.2.2.2.2.1 bt538.2.2.2.2.2.2.2.1 bt538.2.2.2.2.2.2.2.2.1 bt538.2.2.2.2.2.2.2.2.2) else (if bt538.2.1.isNone = true then (tontinelaw9_ObjectDrops.j1 k x5 x6 x8 false bt538.2.2.1 bt538.2.2.2.1 bt538.2.2.2.2.1 bt538.2.2.2.2.2.1 bt538.2.2.2.2.2.2.1 bt538.2.2.2.2.2.2.2.1 bt538.2.2.2.2.2.2.2.2.1 bt538.2.2.2.2.2.2.2.2.2) else (tontinelaw9_ObjectDrops.j1 k x5 x6 x8 true bt538.2.2.1 bt538.2.2.2.1 bt538.2.2.2.2.1 bt538.2.2.2.2.2.1 bt538.2.2.2.2.2.2.1 bt538.2.2.2.2.2.2.2.1 bt538.2.2.2.2.2.2.2.2.1 bt538.2.2.2.2.2.2.2.2.2)))) else ((ext_26.f k x522000 x522001 x522002 x522003 x522004 x522005 x522006 x522007 (wrap64 (x6 + 5))).bind fun bt557 => (if bt557.1 = true then ((object_Objects_Row.f bt557.2.1 bt557.2.2.1 bt557.2.2.2.1 bt557.2.2.2.2.1 bt557.2.2.2.2.2.1 bt557.2.2.2.2.2.2.1 bt557.2.2.2.2.2.2.2.1 bt557.2.2.2.2.2.2.2.2 1).bind fun bt574 => (tontinelaw9_ObjectDrops.j2 k x5 x6 ((bt574.1.length : Int) != (wrap64 (x5 - 1))) bt574.2.1 bt574.2.2.1 bt574.2.2.2.1 bt574.2.2.2.2.1 bt574.2.2.2.2.2.1 bt574.2.2.2.2.2.2.1 bt574.2.2.2.2.2.2.2.1 bt574.2.2.2.2.2.2.2.2)) else (tontinelaw9_ObjectDrops.j2 k x5 x6 true bt557.2.1 bt557.2.2.1 bt557.2.2.2.1 bt557.2.2.2.2.1 bt557.2.2.2.2.2.1 bt557.2.2.2.2.2.2.1 bt557.2.2.2.2.2.2.2.1 bt557.2.2.2.2.2.2.2.2)))
def tontinelaw9_ObjectDrops.j1 : Nat → Int → Int → Int → Bool → Int → List Int → Int → List Int → Int → List Int → Int → List Int → Option (Bool)
  | 0, _, _, _, _, _, _, _, _, _, _, _, _ => none
  | k + 1, x5, x6, x8, x45, x522000, x522001, x522002, x522003, x522004, x522005, x522006, x522007 => if x45 = true then (some false) else (tontinelaw9_ObjectDrops.l0 k x5 x6 (wrap64 (x8 + 1)) x522000 x522001 x522002 x522003 x522004 x522005 x522006 x522007)
def tontinelaw9_ObjectDrops.j2 : Nat → Int → Int → Bool → Int → List Int → Int → List Int → Int → List Int → Int → List Int → Option (Bool)
  | 0, _, _, _, _, _, _, _, _, _, _, _ => none
  | k + 1, x5, x6, x58, x522000, x522001, x522002, x522003, x522004, x522005, x522006, x522007 => if x58 = true then (some false) else (tontinelaw9_ObjectDrops.l1 k x5 x6 0 x522000 x522001 x522002 x522003 x522004 x522005 x522006 x522007)
def tontinelaw9_ObjectDrops.l1 : Nat → Int → Int → Int → Int → List Int → Int → List Int → Int → List Int → Int → List Int → Option (Bool)
  | 0, _, _, _, _, _, _, _, _, _, _, _ => none
  | k + 1, x5, x6, x11, x522000, x522001, x522002, x522003, x522004, x522005, x522006, x522007 => if x11 < x5 then (if x11 = x6 then (tontinelaw9_ObjectDrops.l1 k x5 x6 (wrap64 (x11 + 1)) x522000 x522001 x522002 x522003 x522004 x522005 x522006 x522007) else ((object_Objects_Signal.f x522000 x522001 x522002 x522003 x522004 x522005 x522006 x522007 1).bind fun bt593 => (if bt593.2.1 = true then (if bt593.2.2.1.isNone = true then (tontinelaw9_ObjectDrops.j4 k x5 x6 x11 (bt593.1 != (wrap64 (x11 + 5))) bt593.2.2.2.1 bt593.2.2.2.2.1 bt593.2.2.2.2.2.1 bt593.2.2.2.2.2.2.1 bt593.2.2.2.2.2.2.2.1 bt593.2.2.2.2.2.2.2.2.1 bt593.2.2.2.2.2.2.2.2.2.1 bt593.2.2.2.2.2.2.2.2.2.2) else (tontinelaw9_ObjectDrops.j4 k x5 x6 x11 true bt593.2.2.2.1 bt593.2.2.2.2.1 bt593.2.2.2.2.2.1 bt593.2.2.2.2.2.2.1 bt593.2.2.2.2.2.2.2.1 bt593.2.2.2.2.2.2.2.2.1 bt593.2.2.2.2.2.2.2.2.2.1 bt593.2.2.2.2.2.2.2.2.2.2)) else (tontinelaw9_ObjectDrops.j4 k x5 x6 x11 true bt593.2.2.2.1 bt593.2.2.2.2.1 bt593.2.2.2.2.2.1 bt593.2.2.2.2.2.2.1 bt593.2.2.2.2.2.2.2.1 bt593.2.2.2.2.2.2.2.2.1 bt593.2.2.2.2.2.2.2.2.2.1 bt593.2.2.2.2.2.2.2.2.2.2)))) else ((object_Objects_Signal.f x522000 x522001 x522002 x522003 x522004 x522005 x522006 x522007 1).bind fun bt613 => (if bt613.2.1 = true then (some false) else ((object_Objects_Count.f bt613.2.2.2.1 bt613.2.2.2.2.1 bt613.2.2.2.2.2.1 bt613.2.2.2.2.2.2.1 bt613.2.2.2.2.2.2.2.1 bt613.2.2.2.2.2.2.2.2.1 bt613.2.2.2.2.2.2.2.2.2.1 bt613.2.2.2.2.2.2.2.2.2.2 1).bind fun bt632 => (some (bt632.1 == 1)))))
def tontinelaw9_ObjectDrops.j4 : Nat → Int → Int → Int → Bool → Int → List Int → Int → List Int → Int → List Int → Int → List Int → Option (Bool)
  | 0, _, _, _, _, _, _, _, _, _, _, _, _ => none
  | k + 1, x5, x6, x11, x84, x522000, x522001, x522002, x522003, x522004, x522005, x522006, x522007 => if x84 = true then (some false) else (tontinelaw9_ObjectDrops.l1 k x5 x6 (wrap64 (x11 + 1)) x522000 x522001 x522002 x522003 x522004 x522005 x522006 x522007)
end
def tontinelaw9_ObjectDrops.f (k : Nat) (a0 : Int) (a1 : Int) : Option (Bool) := (tontinelaw9_known.f k).bind fun t520 => (if t520 = true then (if (wrap64 ((wrap64 (Int.tmod a0 10)) + 1)) = 0 then (none) else ((object_New.f).bind fun bt522 => (tontinelaw9_ObjectDrops.l0 k (wrap64 ((wrap64 (Int.tmod a0 10)) + 1)) (Int.tmod (wrap64 (a1)) (wrap64 ((wrap64 (Int.tmod a0 10)) + 1))) 0 bt522.1 bt522.2.1 bt522.2.2.1 bt522.2.2.2.1 bt522.2.2.2.2.1 bt522.2.2.2.2.2.1 bt522.2.2.2.2.2.2.1 bt522.2.2.2.2.2.2.2))) else (some false))
theorem tontinelaw9_ObjectDrops.mono_l : ∀ k, (∀ y0 y1 y2 y3 y4 y5 y6 y7 y8 y9 y10, LeO (tontinelaw9_ObjectDrops.l0 k y0 y1 y2 y3 y4 y5 y6 y7 y8 y9 y10) (tontinelaw9_ObjectDrops.l0 (k + 1) y0 y1 y2 y3 y4 y5 y6 y7 y8 y9 y10)) ∧ (∀ y0 y1 y2 y3 y4 y5 y6 y7 y8 y9 y10 y11, LeO (tontinelaw9_ObjectDrops.j1 k y0 y1 y2 y3 y4 y5 y6 y7 y8 y9 y10 y11) (tontinelaw9_ObjectDrops.j1 (k + 1) y0 y1 y2 y3 y4 y5 y6 y7 y8 y9 y10 y11)) ∧ (∀ y0 y1 y2 y3 y4 y5 y6 y7 y8 y9 y10, LeO (tontinelaw9_ObjectDrops.j2 k y0 y1 y2 y3 y4 y5 y6 y7 y8 y9 y10) (tontinelaw9_ObjectDrops.j2 (k + 1) y0 y1 y2 y3 y4 y5 y6 y7 y8 y9 y10)) ∧ (∀ y0 y1 y2 y3 y4 y5 y6 y7 y8 y9 y10, LeO (tontinelaw9_ObjectDrops.l1 k y0 y1 y2 y3 y4 y5 y6 y7 y8 y9 y10) (tontinelaw9_ObjectDrops.l1 (k + 1) y0 y1 y2 y3 y4 y5 y6 y7 y8 y9 y10)) ∧ (∀ y0 y1 y2 y3 y4 y5 y6 y7 y8 y9 y10 y11, LeO (tontinelaw9_ObjectDrops.j4 k y0 y1 y2 y3 y4 y5 y6 y7 y8 y9 y10 y11) (tontinelaw9_ObjectDrops.j4 (k + 1) y0 y1 y2 y3 y4 y5 y6 y7 y8 y9 y10 y11))
  | 0 => ⟨fun _ _ _ _ _ _ _ _ _ _ _ r h => by simp [tontinelaw9_ObjectDrops.l0] at h, fun _ _ _ _ _ _ _ _ _ _ _ _ r h => by simp [tontinelaw9_ObjectDrops.j1] at h, fun _ _ _ _ _ _ _ _ _ _ _ r h => by simp [tontinelaw9_ObjectDrops.j2] at h, fun _ _ _ _ _ _ _ _ _ _ _ r h => by simp [tontinelaw9_ObjectDrops.l1] at h, fun _ _ _ _ _ _ _ _ _ _ _ _ r h => by simp [tontinelaw9_ObjectDrops.j4] at h⟩
  | k + 1 => by
    obtain ⟨ih0, ih1, ih2, ih3, ih4⟩ := tontinelaw9_ObjectDrops.mono_l k
    refine ⟨?_, ?_, ?_, ?_, ?_⟩
    · intro y0 y1 y2 y3 y4 y5 y6 y7 y8 y9 y10
      unfold tontinelaw9_ObjectDrops.l0
      repeat' first
      | (with_reducible exact ih0 _ _ _ _ _ _ _ _ _ _ _)
      | (with_reducible exact ih1 _ _ _ _ _ _ _ _ _ _ _ _)
      | (with_reducible exact ih2 _ _ _ _ _ _ _ _ _ _ _)
      | (with_reducible exact ih3 _ _ _ _ _ _ _ _ _ _ _)
      | (with_reducible exact ih4 _ _ _ _ _ _ _ _ _ _ _ _)
      | (with_reducible exact ext_26.mono _ _ _ _ _ _ _ _ _ _)
      | (with_reducible exact object_Objects_Wait.mono _ _ _ _ _ _ _ _ _ _ _)
      | (with_reducible exact tontinelaw9_known.mono _)
      | (with_reducible exact LeO.refl _)
      | (with_reducible exact LeO.none _)
      | (with_reducible refine LeO.ite ?_ ?_)
      | (with_reducible refine LeO.bind ?_ (fun _ => ?_))
      | exact ih0 _ _ _ _ _ _ _ _ _ _ _
      | exact ih1 _ _ _ _ _ _ _ _ _ _ _ _
      | exact ih2 _ _ _ _ _ _ _ _ _ _ _
      | exact ih3 _ _ _ _ _ _ _ _ _ _ _
      | exact ih4 _ _ _ _ _ _ _ _ _ _ _ _
      | exact ext_26.mono _ _ _ _ _ _ _ _ _ _
      | exact object_Objects_Wait.mono _ _ _ _ _ _ _ _ _ _ _
      | exact tontinelaw9_known.mono _
      | exact LeO.none _
      | refine LeO.ite ?_ ?_
      | refine LeO.bind ?_ (fun _ => ?_)
    · intro y0 y1 y2 y3 y4 y5 y6 y7 y8 y9 y10 y11
      unfold tontinelaw9_ObjectDrops.j1
      repeat' first
      | (with_reducible exact ih0 _ _ _ _ _ _ _ _ _ _ _)
      | (with_reducible exact ih1 _ _ _ _ _ _ _ _ _ _ _ _)
      | (with_reducible exact ih2 _ _ _ _ _ _ _ _ _ _ _)
      | (with_reducible exact ih3 _ _ _ _ _ _ _ _ _ _ _)
      | (with_reducible exact ih4 _ _ _ _ _ _ _ _ _ _ _ _)
      | (with_reducible exact ext_26.mono _ _ _ _ _ _ _ _ _ _)
      | (with_reducible exact object_Objects_Wait.mono _ _ _ _ _ _ _ _ _ _ _)
      | (with_reducible exact tontinelaw9_known.mono _)
      | (with_reducible exact LeO.refl _)
      | (with_reducible exact LeO.none _)
      | (with_reducible refine LeO.ite ?_ ?_)
      | (with_reducible refine LeO.bind ?_ (fun _ => ?_))
      | exact ih0 _ _ _ _ _ _ _ _ _ _ _
      | exact ih1 _ _ _ _ _ _ _ _ _ _ _ _
      | exact ih2 _ _ _ _ _ _ _ _ _ _ _
      | exact ih3 _ _ _ _ _ _ _ _ _ _ _
      | exact ih4 _ _ _ _ _ _ _ _ _ _ _ _
      | exact ext_26.mono _ _ _ _ _ _ _ _ _ _
      | exact object_Objects_Wait.mono _ _ _ _ _ _ _ _ _ _ _
      | exact tontinelaw9_known.mono _
      | exact LeO.none _
      | refine LeO.ite ?_ ?_
      | refine LeO.bind ?_ (fun _ => ?_)
    · intro y0 y1 y2 y3 y4 y5 y6 y7 y8 y9 y10
      unfold tontinelaw9_ObjectDrops.j2
      repeat' first
      | (with_reducible exact ih0 _ _ _ _ _ _ _ _ _ _ _)
      | (with_reducible exact ih1 _ _ _ _ _ _ _ _ _ _ _ _)
      | (with_reducible exact ih2 _ _ _ _ _ _ _ _ _ _ _)
      | (with_reducible exact ih3 _ _ _ _ _ _ _ _ _ _ _)
      | (with_reducible exact ih4 _ _ _ _ _ _ _ _ _ _ _ _)
      | (with_reducible exact ext_26.mono _ _ _ _ _ _ _ _ _ _)
      | (with_reducible exact object_Objects_Wait.mono _ _ _ _ _ _ _ _ _ _ _)
      | (with_reducible exact tontinelaw9_known.mono _)
      | (with_reducible exact LeO.refl _)
      | (with_reducible exact LeO.none _)
      | (with_reducible refine LeO.ite ?_ ?_)
      | (with_reducible refine LeO.bind ?_ (fun _ => ?_))
      | exact ih0 _ _ _ _ _ _ _ _ _ _ _
      | exact ih1 _ _ _ _ _ _ _ _ _ _ _ _
      | exact ih2 _ _ _ _ _ _ _ _ _ _ _
      | exact ih3 _ _ _ _ _ _ _ _ _ _ _
      | exact ih4 _ _ _ _ _ _ _ _ _ _ _ _
      | exact ext_26.mono _ _ _ _ _ _ _ _ _ _
      | exact object_Objects_Wait.mono _ _ _ _ _ _ _ _ _ _ _
      | exact tontinelaw9_known.mono _
      | exact LeO.none _
      | refine LeO.ite ?_ ?_
      | refine LeO.bind ?_ (fun _ => ?_)
    · intro y0 y1 y2 y3 y4 y5 y6 y7 y8 y9 y10
      unfold tontinelaw9_ObjectDrops.l1
      repeat' first
      | (with_reducible exact ih0 _ _ _ _ _ _ _ _ _ _ _)
      | (with_reducible exact ih1 _ _ _ _ _ _ _ _ _ _ _ _)
      | (with_reducible exact ih2 _ _ _ _ _ _ _ _ _ _ _)
      | (with_reducible exact ih3 _ _ _ _ _ _ _ _ _ _ _)
      | (with_reducible exact ih4 _ _ _ _ _ _ _ _ _ _ _ _)
      | (with_reducible exact ext_26.mono _ _ _ _ _ _ _ _ _ _)
      | (with_reducible exact object_Objects_Wait.mono _ _ _ _ _ _ _ _ _ _ _)
      | (with_reducible exact tontinelaw9_known.mono _)
      | (with_reducible exact LeO.refl _)
      | (with_reducible exact LeO.none _)
      | (with_reducible refine LeO.ite ?_ ?_)
      | (with_reducible refine LeO.bind ?_ (fun _ => ?_))
      | exact ih0 _ _ _ _ _ _ _ _ _ _ _
      | exact ih1 _ _ _ _ _ _ _ _ _ _ _ _
      | exact ih2 _ _ _ _ _ _ _ _ _ _ _
      | exact ih3 _ _ _ _ _ _ _ _ _ _ _
      | exact ih4 _ _ _ _ _ _ _ _ _ _ _ _
      | exact ext_26.mono _ _ _ _ _ _ _ _ _ _
      | exact object_Objects_Wait.mono _ _ _ _ _ _ _ _ _ _ _
      | exact tontinelaw9_known.mono _
      | exact LeO.none _
      | refine LeO.ite ?_ ?_
      | refine LeO.bind ?_ (fun _ => ?_)
    · intro y0 y1 y2 y3 y4 y5 y6 y7 y8 y9 y10 y11
      unfold tontinelaw9_ObjectDrops.j4
      repeat' first
      | (with_reducible exact ih0 _ _ _ _ _ _ _ _ _ _ _)
      | (with_reducible exact ih1 _ _ _ _ _ _ _ _ _ _ _ _)
      | (with_reducible exact ih2 _ _ _ _ _ _ _ _ _ _ _)
      | (with_reducible exact ih3 _ _ _ _ _ _ _ _ _ _ _)
      | (with_reducible exact ih4 _ _ _ _ _ _ _ _ _ _ _ _)
      | (with_reducible exact ext_26.mono _ _ _ _ _ _ _ _ _ _)
      | (with_reducible exact object_Objects_Wait.mono _ _ _ _ _ _ _ _ _ _ _)
      | (with_reducible exact tontinelaw9_known.mono _)
      | (with_reducible exact LeO.refl _)
      | (with_reducible exact LeO.none _)
      | (with_reducible refine LeO.ite ?_ ?_)
      | (with_reducible refine LeO.bind ?_ (fun _ => ?_))
      | exact ih0 _ _ _ _ _ _ _ _ _ _ _
      | exact ih1 _ _ _ _ _ _ _ _ _ _ _ _
      | exact ih2 _ _ _ _ _ _ _ _ _ _ _
      | exact ih3 _ _ _ _ _ _ _ _ _ _ _
      | exact ih4 _ _ _ _ _ _ _ _ _ _ _ _
      | exact ext_26.mono _ _ _ _ _ _ _ _ _ _
      | exact object_Objects_Wait.mono _ _ _ _ _ _ _ _ _ _ _
      | exact tontinelaw9_known.mono _
      | exact LeO.none _
      | refine LeO.ite ?_ ?_
      | refine LeO.bind ?_ (fun _ => ?_)
theorem tontinelaw9_ObjectDrops.mono : ∀ a0 a1 k, LeO (tontinelaw9_ObjectDrops.f k a0 a1) (tontinelaw9_ObjectDrops.f (k + 1) a0 a1) := by
 intro a0 a1 k
 obtain ⟨ih0, ih1, ih2, ih3, ih4⟩ := tontinelaw9_ObjectDrops.mono_l k
 unfold tontinelaw9_ObjectDrops.f
 repeat' first
   | (with_reducible exact ih0 _ _ _ _ _ _ _ _ _ _ _)
   | (with_reducible exact ih1 _ _ _ _ _ _ _ _ _ _ _ _)
   | (with_reducible exact ih2 _ _ _ _ _ _ _ _ _ _ _)
   | (with_reducible exact ih3 _ _ _ _ _ _ _ _ _ _ _)
   | (with_reducible exact ih4 _ _ _ _ _ _ _ _ _ _ _ _)
   | (with_reducible exact ext_26.mono _ _ _ _ _ _ _ _ _ _)
   | (with_reducible exact object_Objects_Wait.mono _ _ _ _ _ _ _ _ _ _ _)
   | (with_reducible exact tontinelaw9_known.mono _)
   | (with_reducible exact LeO.refl _)
   | (with_reducible exact LeO.none _)
   | (with_reducible refine LeO.ite ?_ ?_)
   | (with_reducible refine LeO.bind ?_ (fun _ => ?_))
   | exact ih0 _ _ _ _ _ _ _ _ _ _ _
   | exact ih1 _ _ _ _ _ _ _ _ _ _ _ _
   | exact ih2 _ _ _ _ _ _ _ _ _ _ _
   | exact ih3 _ _ _ _ _ _ _ _ _ _ _
   | exact ih4 _ _ _ _ _ _ _ _ _ _ _ _
   | exact ext_26.mono _ _ _ _ _ _ _ _ _ _
   | exact object_Objects_Wait.mono _ _ _ _ _ _ _ _ _ _ _
   | exact tontinelaw9_known.mono _
   | exact LeO.none _
   | refine LeO.ite ?_ ?_
   | refine LeO.bind ?_ (fun _ => ?_)
set_option maxHeartbeats 8000000 in
set_option maxRecDepth 100000 in
theorem tontinelaw9_ObjectDrops.calls (k : Nat) (a0 : Int) (a1 : Int) (r : Bool) (hrt : r = true) (w : World) (h : tontinelaw9_ObjectDrops.f k a0 a1 = some r) :
    Calls Try.prog 8 #[.int .u8 a0, .int .u8 a1] w fun e w' => e = .returned (.bool r) ∧ Below w.heap.size w w' := by
 have hu37 := Try.underlying37; have hu42 := Try.underlying42
 have HB := Goto.m0 (Below.refl w.heap.size w)
 have HRT := Goto.m0 hrt
 clear hrt
 have H : ((tontinelaw9_known.f k).bind fun t520 => (if t520 = true then (if (wrap64 ((wrap64 (Int.tmod a0 10)) + 1)) = 0 then (none) else ((object_New.f).bind fun bt522 => (tontinelaw9_ObjectDrops.l0 k (wrap64 ((wrap64 (Int.tmod a0 10)) + 1)) (Int.tmod (wrap64 (a1)) (wrap64 ((wrap64 (Int.tmod a0 10)) + 1))) 0 bt522.1 bt522.2.1 bt522.2.2.1 bt522.2.2.2.1 bt522.2.2.2.2.1 bt522.2.2.2.2.2.1 bt522.2.2.2.2.2.2.1 bt522.2.2.2.2.2.2.2))) else (some false))) = some r := h
 clear h
 replace H := Option.bind_eq_some_iff.mp H
 obtain ⟨t520, A30, H⟩ := H
 have A3 := Goto.m0 A30
 clear A30
 by_cases c4 : t520 = true
 ·
  subst c4
  rw [if_pos rfl] at H
  by_cases c5 : (wrap64 ((wrap64 (Int.tmod a0 10)) + 1)) = 0
  ·
   rw [if_pos c5] at H
   exact absurd H (by simp)
  ·
   rw [if_neg c5] at H
   have c5b0 : ((wrap64 ((wrap64 (Int.tmod a0 10)) + 1)) == 0) = false := beq_eq_false_iff_ne.mpr c5
   have c5b1 : ((wrap64 ((wrap64 (Int.tmod a0 10)) + 1)) != 0) = true := bne_iff_ne.mpr c5
   replace H := Option.bind_eq_some_iff.mp H
   obtain ⟨⟨t522, t523, t526, t527, t530, t531, t534, t535⟩, A60, H⟩ := H
   replace H : (tontinelaw9_ObjectDrops.l0 k (wrap64 ((wrap64 (Int.tmod a0 10)) + 1)) (Int.tmod (wrap64 (a1)) (wrap64 ((wrap64 (Int.tmod a0 10)) + 1))) 0 t522 t523 t526 t527 t530 t531 t534 t535) = some r := H
   have A6 := Goto.m0 A60
   clear A60
   have H' := Goto.m0 H
   clear H
   go_enter Try.func8, Try.ntmps8
   go_wp2_with (first | ((with_reducible refine gate_callee (f := 20) rfl ?_); refine goesL_ (some 18) rfl rfl Try.func20 (by kernel_rfl) rfl #[] rfl (by (try simp only [List.map_toArray, List.map_cons, List.map_nil]); first | done | rfl | (simp only [List.length_drop, List.length_take]; rfl)) ?_; (with_reducible refine (tontinelaw9_known.calls k  true (by first | rfl | assumption | (simp only [Bool.not_eq_true, Bool.not_eq_false] at *; assumption)) _ A3.out).mono ?_); rintro e w7 ⟨rfl, hb⟩; refine ⟨_, rfl, ?_⟩; replace HB := Goto.hs HB hb; (try clear hb); (try clear hb2); (try clear hk); (try clear hi)) | ((with_reducible refine gate_callee (f := 21) rfl ?_); refine goesL_ (some 28) rfl rfl Try.func21 (by kernel_rfl) rfl #[] rfl (by (try simp only [List.map_toArray, List.map_cons, List.map_nil]); first | done | rfl | (simp only [List.length_drop, List.length_take]; rfl)) ?_; (with_reducible refine (object_New.calls  t522 t523 t526 t527 t530 t531 t534 t535 _ A6.out).mono ?_); rintro e w8 ⟨v524, v528, v532, v536, gb521, rfl, ho0, ho1, ho2, ho3, hi, hge, hb⟩; refine ⟨_, rfl, ?_⟩; have HO525 := Goto.m0 (Kd.R_lower ho0 (below_size (Goto.hx HB))); have HO529 := Goto.m0 (Kd.R_lower ho1 (below_size (Goto.hx HB))); have HO533 := Goto.m0 (Kd.R_lower ho2 (below_size (Goto.hx HB))); have HO537 := Goto.m0 (Kd.R_lower ho3 (below_size (Goto.hx HB))); have BK521 := Goto.m0 (hi); have GW521 := Goto.m0 ((Nat.le_trans (below_size (Goto.hx HB)) hge : w.heap.size ≤ gb521)); have GE521 := Goto.m0 ((Nat.le_trans (below_size (Goto.hx HB)) hge : w.heap.size ≤ gb521)); replace HB := Goto.hs HB hb; (try clear hb); (try clear hi); (try clear hge); (try clear ho0); (try clear ho1); (try clear ho2); (try clear ho3)))
   go_loopg [8] k (fun kq v8 w' => ∃ (x8_1 : Int) (x522000_1 : Int) (x522001_1 : List Int) (x522002_1 : Int) (x522003_1 : List Int) (x522004_1 : Int) (x522005_1 : List Int) (x522006_1 : Int) (x522007_1 : List Int) (u522001 : Value) (u522003 : Value) (u522005 : Value) (u522007 : Value), v8 = .int .i64 x8_1 ∧ Aside0 (tontinelaw9_ObjectDrops.l0 kq (wrap64 ((wrap64 (Int.tmod a0 10)) + 1)) (Int.tmod (wrap64 (a1)) (wrap64 ((wrap64 (Int.tmod a0 10)) + 1))) x8_1 x522000_1 x522001_1 x522002_1 x522003_1 x522004_1 x522005_1 x522006_1 x522007_1 = some r) ∧ Aside0 (kq ≤ k) ∧ Aside0 (Kd.R (Kd.int .i64) 3 w' w.heap.size (fun k_ => some k_ ≠ (u522003 : Value).ownBlock ∧ some k_ ≠ (u522005 : Value).ownBlock ∧ some k_ ≠ (u522007 : Value).ownBlock) u522001 x522001_1) ∧ Aside0 (Kd.R (Kd.int .i64) 3 w' w.heap.size (fun k_ => some k_ ≠ (u522001 : Value).ownBlock ∧ some k_ ≠ (u522005 : Value).ownBlock ∧ some k_ ≠ (u522007 : Value).ownBlock) u522003 x522003_1) ∧ Aside0 (Kd.R (Kd.int .i64) 3 w' w.heap.size (fun k_ => some k_ ≠ (u522001 : Value).ownBlock ∧ some k_ ≠ (u522003 : Value).ownBlock ∧ some k_ ≠ (u522007 : Value).ownBlock) u522005 x522005_1) ∧ Aside0 (Kd.R (Kd.int .i64) 3 w' w.heap.size (fun k_ => some k_ ≠ (u522001 : Value).ownBlock ∧ some k_ ≠ (u522003 : Value).ownBlock ∧ some k_ ≠ (u522005 : Value).ownBlock) u522007 x522007_1) ∧ Aside0 (w'.heap[gb521]? = some (.cells #[.int .i64 x522000_1, u522001, .int .i64 x522002_1, u522003, .int .i64 x522004_1, u522005, .int .i64 x522006_1, u522007] 79 (0, 0))) ∧ Aside0 (Below w.heap.size w w'))
   case atStart => exact ⟨(0), (t522), (t523), (t526), (t527), (t530), (t531), (t534), (t535), (v524), (v528), (v532), (v536), (by first | rfl | (simp; done) | (simp [*]; done) | (congr 1; unfold wrap64; omega)), H', ⟨Nat.le_refl _⟩, ⟨Goto.rk HO525⟩, ⟨Goto.rk HO529⟩, ⟨Goto.rk HO533⟩, ⟨Goto.rk HO537⟩, ⟨Goto.bx BK521⟩, ⟨Goto.hx HB⟩⟩
   case round =>
    clear H'
    try clear c2; try clear p2; try clear c4; try clear c5; try clear c5b0; try clear c5b1; try clear p6; try clear c8
    obtain ⟨x8_1, x522000_1, x522001_1, x522002_1, x522003_1, x522004_1, x522005_1, x522006_1, x522007_1, u522001, u522003, u522005, u522007, rfl, HA, HK1, HO_522001, HO_522003, HO_522005, HO_522007, BK521, HB⟩ := hrel
    cases gk with
    | zero => exact absurd HA.out (by simp [tontinelaw9_ObjectDrops.l0])
    | succ k1 =>
     have H := HA.out; clear HA
     simp only [tontinelaw9_ObjectDrops.l0] at H
     by_cases c9 : x8_1 < (wrap64 ((wrap64 (Int.tmod a0 10)) + 1))
     ·
      rw [if_pos c9] at H
      have c9b0 : decide (x8_1 < (wrap64 ((wrap64 (Int.tmod a0 10)) + 1))) = true := decide_eq_true c9
      clear c9
      replace H := Option.bind_eq_some_iff.mp H
      obtain ⟨⟨t538, t539, t540, t541, t544, t545, t548, t549, t552, t553⟩, A100, H⟩ := H
      replace H : (if t538 = true then (tontinelaw9_ObjectDrops.j1 k1 (wrap64 ((wrap64 (Int.tmod a0 10)) + 1)) (Int.tmod (wrap64 (a1)) (wrap64 ((wrap64 (Int.tmod a0 10)) + 1))) x8_1 true t540 t541 t544 t545 t548 t549 t552 t553) else (if t539.isNone = true then (tontinelaw9_ObjectDrops.j1 k1 (wrap64 ((wrap64 (Int.tmod a0 10)) + 1)) (Int.tmod (wrap64 (a1)) (wrap64 ((wrap64 (Int.tmod a0 10)) + 1))) x8_1 false t540 t541 t544 t545 t548 t549 t552 t553) else (tontinelaw9_ObjectDrops.j1 k1 (wrap64 ((wrap64 (Int.tmod a0 10)) + 1)) (Int.tmod (wrap64 (a1)) (wrap64 ((wrap64 (Int.tmod a0 10)) + 1))) x8_1 true t540 t541 t544 t545 t548 t549 t552 t553))) = some r := H
      have A10 := Goto.m0 A100
      clear A100
      have HC11 := Goto.m0 H
      clear H
      go_upto_region 10 with (first | ((with_reducible refine gate_callee (f := 22) rfl ?_); refine goesL_ (some 38) rfl rfl Try.func22 (by kernel_rfl) rfl #[.pointer (some ⟨gb521, 0, none⟩), .int .i64 (wrap64 (x8_1 + 5)), .int .i64 1] rfl (by (try simp only [List.map_toArray, List.map_cons, List.map_nil]); first | done | rfl | (simp only [List.length_drop, List.length_take]; rfl)) ?_; (with_reducible refine (object_Objects_Wait.calls k1 gb521 x522000_1 (fun k_ => some k_ = (u522001 : Value).ownBlock) u522001 x522001_1 x522002_1 (fun k_ => some k_ = (u522003 : Value).ownBlock) u522003 x522003_1 x522004_1 (fun k_ => some k_ = (u522005 : Value).ownBlock) u522005 x522005_1 x522006_1 (fun k_ => some k_ = (u522007 : Value).ownBlock) u522007 x522007_1 (wrap64 (x8_1 + 5)) 1 t538 t539 t540 t541 t544 t545 t548 t549 t552 t553 w _ ?side1 ?side2 ?side3 ?side4 ?side5 ?side6 ?side7 ?side8 ?side9 ?side10 ?side11 ?side12 ?side13 ?side14 ?side15 ?side16 ?side17 ?side18 ?side19 A10.out).mono ?_); (case side1 => exact by (with_reducible repeat first | refine blk_drewN ?_ _ | refine blk_drew ?_ | refine blk_alloc ?_ _); exact BK521.out); (case side2 => exact GE521.out); (case side3 => repeat (first | (with_reducible first | exact HB.out | apply below_alloc | apply pw_below_drewN | apply below_drew1 | refine below_set ?_ GE521.out) | exact HB.out)); (case side4 => exact Kd.R_tight rfl HO_522001.out); (case side5 => exact fun k_ e_ => (HO_522001.out.1 k_ e_.symm).1); (case side6 => exact fun k_ e_ => (HO_522001.out.1 k_ e_.symm).2.1); (case side7 => exact fun k_ e_ => (HO_522001.out.1 k_ e_.symm).2.2); (case side8 => exact Kd.R_tight rfl HO_522003.out); (case side9 => exact fun k_ e_ => (HO_522003.out.1 k_ e_.symm).1); (case side10 => exact fun k_ e_ => (HO_522003.out.1 k_ e_.symm).2.1); (case side11 => exact fun k_ e_ => (HO_522003.out.1 k_ e_.symm).2.2); (case side12 => exact Kd.R_tight rfl HO_522005.out); (case side13 => exact fun k_ e_ => (HO_522005.out.1 k_ e_.symm).1); (case side14 => exact fun k_ e_ => (HO_522005.out.1 k_ e_.symm).2.1); (case side15 => exact fun k_ e_ => (HO_522005.out.1 k_ e_.symm).2.2); (case side16 => exact Kd.R_tight rfl HO_522007.out); (case side17 => exact fun k_ e_ => (HO_522007.out.1 k_ e_.symm).1); (case side18 => exact fun k_ e_ => (HO_522007.out.1 k_ e_.symm).2.1); (case side19 => exact fun k_ e_ => (HO_522007.out.1 k_ e_.symm).2.2); rintro e w12 ⟨v542, v546, v550, v554, rfl, ho0, ho1, ho2, ho3, hi, hb, hkp⟩; refine ⟨_, rfl, ?_⟩; have n0_ := Goto.m0 (hi); have n1_ := Goto.m0 (Kd.R_mono (ok' := fun k_ => some k_ ≠ (v546 : Value).ownBlock ∧ some k_ ≠ (v550 : Value).ownBlock ∧ some k_ ≠ (v554 : Value).ownBlock) ho0 (fun k_ hk_ => ⟨hk_.2.1, hk_.2.2.1, hk_.2.2.2⟩)); have n2_ := Goto.m0 (Kd.R_mono (ok' := fun k_ => some k_ ≠ (v542 : Value).ownBlock ∧ some k_ ≠ (v550 : Value).ownBlock ∧ some k_ ≠ (v554 : Value).ownBlock) ho1 (fun k_ hk_ => ⟨hk_.2.1, hk_.2.2.1, hk_.2.2.2⟩)); have n3_ := Goto.m0 (Kd.R_mono (ok' := fun k_ => some k_ ≠ (v542 : Value).ownBlock ∧ some k_ ≠ (v546 : Value).ownBlock ∧ some k_ ≠ (v554 : Value).ownBlock) ho2 (fun k_ hk_ => ⟨hk_.2.1, hk_.2.2.1, hk_.2.2.2⟩)); have n4_ := Goto.m0 (Kd.R_mono (ok' := fun k_ => some k_ ≠ (v542 : Value).ownBlock ∧ some k_ ≠ (v546 : Value).ownBlock ∧ some k_ ≠ (v550 : Value).ownBlock) ho3 (fun k_ hk_ => ⟨hk_.2.1, hk_.2.2.1, hk_.2.2.2⟩)); have n5_ := Goto.m0 (hb); clear BK521; clear HB; clear HO_522001; clear HO_522003; clear HO_522005; clear HO_522007; have BK521 := n0_; have HO543 := n1_; have HO547 := n2_; have HO551 := n3_; have HO555 := n4_; have HB := n5_; clear n0_ n1_ n2_ n3_ n4_ n5_; (try clear hb); (try clear hkp); (try clear ho0); (try clear ho1); (try clear ho2); (try clear ho3); (try simp only [errW_none, errW_some])))
      (try simp only [Act.put, List.setIfInBounds_toArray, List.set_cons_zero, List.set_cons_succ])
      go_cut [45] (fun v45 wc => ∃ (kq : Nat) (x45_10 : Bool), v45 = .bool x45_10 ∧ Aside0 (tontinelaw9_ObjectDrops.j1 kq (wrap64 ((wrap64 (Int.tmod a0 10)) + 1)) (Int.tmod (wrap64 (a1)) (wrap64 ((wrap64 (Int.tmod a0 10)) + 1))) x8_1 x45_10 t540 t541 t544 t545 t548 t549 t552 t553 = some r) ∧ Aside0 (kq ≤ k1) ∧ Aside0 (Kd.R (Kd.int .i64) 3 wc w.heap.size (fun k_ => some k_ ≠ (v546 : Value).ownBlock ∧ some k_ ≠ (v550 : Value).ownBlock ∧ some k_ ≠ (v554 : Value).ownBlock) v542 t541) ∧ Aside0 (Kd.R (Kd.int .i64) 3 wc w.heap.size (fun k_ => some k_ ≠ (v542 : Value).ownBlock ∧ some k_ ≠ (v550 : Value).ownBlock ∧ some k_ ≠ (v554 : Value).ownBlock) v546 t545) ∧ Aside0 (Kd.R (Kd.int .i64) 3 wc w.heap.size (fun k_ => some k_ ≠ (v542 : Value).ownBlock ∧ some k_ ≠ (v546 : Value).ownBlock ∧ some k_ ≠ (v554 : Value).ownBlock) v550 t549) ∧ Aside0 (Kd.R (Kd.int .i64) 3 wc w.heap.size (fun k_ => some k_ ≠ (v542 : Value).ownBlock ∧ some k_ ≠ (v546 : Value).ownBlock ∧ some k_ ≠ (v550 : Value).ownBlock) v554 t553) ∧ Aside0 (wc.heap[gb521]? = some (.cells #[.int .i64 t540, v542, .int .i64 t544, v546, .int .i64 t548, v550, .int .i64 t552, v554] 79 (0, 0))) ∧ Aside0 (Below w.heap.size w wc))
      case first =>
       have H := HC11.out; clear HC11
       by_cases c13 : t538 = true
       ·
        subst c13
        rw [if_pos rfl] at H
        have H' := Goto.m0 H
        clear H
        go_wp2
        go_meet
        case rel => exact ⟨_, (true), (by first | rfl | (simp; done) | (simp [*]; done) | (congr 1; unfold wrap64; omega)), H', ⟨by have := HK1.out; first | omega | exact Nat.le_refl _⟩, ⟨Goto.rk HO543⟩, ⟨Goto.rk HO547⟩, ⟨Goto.rk HO551⟩, ⟨Goto.rk HO555⟩, ⟨Goto.bx BK521⟩, ⟨Goto.hx HB⟩⟩
       ·
        replace c13 := Bool.eq_false_iff.mpr c13
        subst c13
        rw [if_neg (show ¬ (false = true) by decide)] at H
        rcases t539 with _ | q556
        ·
         have H1 : (tontinelaw9_ObjectDrops.j1 k1 (wrap64 ((wrap64 (Int.tmod a0 10)) + 1)) (Int.tmod (wrap64 (a1)) (wrap64 ((wrap64 (Int.tmod a0 10)) + 1))) x8_1 false t540 t541 t544 t545 t548 t549 t552 t553) = some r := by rw [if_pos (show (none : Option Int).isNone = true by rfl)] at H; exact H
         clear H; have H := H1; clear H1
         try simp only [errW_none, errW_some]
         have H' := Goto.m0 H
         clear H
         go_wp2
         go_meet
         case rel => exact ⟨_, (false), (by first | rfl | (simp; done) | (simp [*]; done) | (congr 1; unfold wrap64; omega)), H', ⟨by have := HK1.out; first | omega | exact Nat.le_refl _⟩, ⟨Goto.rk HO543⟩, ⟨Goto.rk HO547⟩, ⟨Goto.rk HO551⟩, ⟨Goto.rk HO555⟩, ⟨Goto.bx BK521⟩, ⟨Goto.hx HB⟩⟩
        ·
         have H1 : (tontinelaw9_ObjectDrops.j1 k1 (wrap64 ((wrap64 (Int.tmod a0 10)) + 1)) (Int.tmod (wrap64 (a1)) (wrap64 ((wrap64 (Int.tmod a0 10)) + 1))) x8_1 true t540 t541 t544 t545 t548 t549 t552 t553) = some r := by rw [if_neg (show ¬ (some q556).isNone = true by simp)] at H; exact H
         clear H; have H := H1; clear H1
         try simp only [errW_none, errW_some]
         have H' := Goto.m0 H
         clear H
         go_wp2
         go_meet
         case rel => exact ⟨_, (true), (by first | rfl | (simp; done) | (simp [*]; done) | (congr 1; unfold wrap64; omega)), H', ⟨by have := HK1.out; first | omega | exact Nat.le_refl _⟩, ⟨Goto.rk HO543⟩, ⟨Goto.rk HO547⟩, ⟨Goto.rk HO551⟩, ⟨Goto.rk HO555⟩, ⟨Goto.bx BK521⟩, ⟨Goto.hx HB⟩⟩
      case rest =>
       clear HC11; try clear c1; try clear c2; try clear p2; try clear c4; try clear c5; try clear c5b0; try clear c5b1; try clear q5; try clear p6; try clear c8; try clear c9; try clear c9b0; try clear c13; try clear p2; try clear p6; try clear q556
       obtain ⟨kq, x45_10, rfl, HA, HJ10, HO_522001, HO_522003, HO_522005, HO_522007, BK521, HB⟩ := hcut
       cases kq with
       | zero => exact absurd HA.out (by simp [tontinelaw9_ObjectDrops.j1])
       | succ kj10 =>
        have H := HA.out; clear HA
        simp only [tontinelaw9_ObjectDrops.j1] at H
        by_cases c14 : x45_10 = true
        ·
         subst c14
         rw [if_pos rfl] at H
         exact absurd ((Option.some.inj H).trans HRT.out) (by decide)
        ·
         replace c14 := Bool.eq_false_iff.mpr c14
         subst c14
         rw [if_neg (show ¬ (false = true) by decide)] at H
         have H' := Goto.m0 H
         clear H
         go_wp2
         go_roundg kj10
         case measure => have := HK1.out; have := HJ10.out; omega
         case rel => exact ⟨(wrap64 (x8_1 + 1)), (t540), (t541), (t544), (t545), (t548), (t549), (t552), (t553), (v542), (v546), (v550), (v554), (by first | rfl | (simp; done) | (simp [*]; done) | (congr 1; unfold wrap64; omega)), H', ⟨by have := HK1.out; have := HJ10.out; omega⟩, ⟨Goto.rk HO_522001⟩, ⟨Goto.rk HO_522003⟩, ⟨Goto.rk HO_522005⟩, ⟨Goto.rk HO_522007⟩, ⟨Goto.bx BK521⟩, ⟨Goto.hx HB⟩⟩
     ·
      rw [if_neg c9] at H
      have c9b0 : decide (x8_1 < (wrap64 ((wrap64 (Int.tmod a0 10)) + 1))) = false := decide_eq_false c9
      clear c9
      have HC15 := Goto.m0 H
      clear H
      go_upto_region 12 with (fail)
      go_cut [58] (fun v58 wc => ∃ (kq : Nat) (x58_14 : Bool) (x522000_14 : Int) (x522001_14 : List Int) (x522002_14 : Int) (x522003_14 : List Int) (x522004_14 : Int) (x522005_14 : List Int) (x522006_14 : Int) (x522007_14 : List Int) (u522001 : Value) (u522003 : Value) (u522005 : Value) (u522007 : Value), v58 = .bool x58_14 ∧ Aside0 (tontinelaw9_ObjectDrops.j2 kq (wrap64 ((wrap64 (Int.tmod a0 10)) + 1)) (Int.tmod (wrap64 (a1)) (wrap64 ((wrap64 (Int.tmod a0 10)) + 1))) x58_14 x522000_14 x522001_14 x522002_14 x522003_14 x522004_14 x522005_14 x522006_14 x522007_14 = some r) ∧ Aside0 (kq ≤ k1) ∧ Aside0 (Kd.R (Kd.int .i64) 3 wc w.heap.size (fun k_ => some k_ ≠ (u522003 : Value).ownBlock ∧ some k_ ≠ (u522005 : Value).ownBlock ∧ some k_ ≠ (u522007 : Value).ownBlock) u522001 x522001_14) ∧ Aside0 (Kd.R (Kd.int .i64) 3 wc w.heap.size (fun k_ => some k_ ≠ (u522001 : Value).ownBlock ∧ some k_ ≠ (u522005 : Value).ownBlock ∧ some k_ ≠ (u522007 : Value).ownBlock) u522003 x522003_14) ∧ Aside0 (Kd.R (Kd.int .i64) 3 wc w.heap.size (fun k_ => some k_ ≠ (u522001 : Value).ownBlock ∧ some k_ ≠ (u522003 : Value).ownBlock ∧ some k_ ≠ (u522007 : Value).ownBlock) u522005 x522005_14) ∧ Aside0 (Kd.R (Kd.int .i64) 3 wc w.heap.size (fun k_ => some k_ ≠ (u522001 : Value).ownBlock ∧ some k_ ≠ (u522003 : Value).ownBlock ∧ some k_ ≠ (u522005 : Value).ownBlock) u522007 x522007_14) ∧ Aside0 (wc.heap[gb521]? = some (.cells #[.int .i64 x522000_14, u522001, .int .i64 x522002_14, u522003, .int .i64 x522004_14, u522005, .int .i64 x522006_14, u522007] 79 (0, 0))) ∧ Aside0 (Below w.heap.size w wc))
      case first =>
       have H := HC15.out; clear HC15
       replace H := Option.bind_eq_some_iff.mp H
       obtain ⟨⟨t557, t558, t559, t562, t563, t566, t567, t570, t571⟩, A160, H⟩ := H
       replace H : (if t557 = true then ((object_Objects_Row.f t558 t559 t562 t563 t566 t567 t570 t571 1).bind fun bt574 => (tontinelaw9_ObjectDrops.j2 k1 (wrap64 ((wrap64 (Int.tmod a0 10)) + 1)) (Int.tmod (wrap64 (a1)) (wrap64 ((wrap64 (Int.tmod a0 10)) + 1))) ((bt574.1.length : Int) != (wrap64 ((wrap64 ((wrap64 (Int.tmod a0 10)) + 1)) - 1))) bt574.2.1 bt574.2.2.1 bt574.2.2.2.1 bt574.2.2.2.2.1 bt574.2.2.2.2.2.1 bt574.2.2.2.2.2.2.1 bt574.2.2.2.2.2.2.2.1 bt574.2.2.2.2.2.2.2.2)) else (tontinelaw9_ObjectDrops.j2 k1 (wrap64 ((wrap64 (Int.tmod a0 10)) + 1)) (Int.tmod (wrap64 (a1)) (wrap64 ((wrap64 (Int.tmod a0 10)) + 1))) true t558 t559 t562 t563 t566 t567 t570 t571)) = some r := H
       have A16 := Goto.m0 A160
       clear A160
       by_cases c17 : t557 = true
       ·
        subst c17
        rw [if_pos rfl] at H
        replace H := Option.bind_eq_some_iff.mp H
        obtain ⟨⟨t574, t577, t578, t581, t582, t585, t586, t589, t590⟩, A180, H⟩ := H
        replace H : (tontinelaw9_ObjectDrops.j2 k1 (wrap64 ((wrap64 (Int.tmod a0 10)) + 1)) (Int.tmod (wrap64 (a1)) (wrap64 ((wrap64 (Int.tmod a0 10)) + 1))) ((t574.length : Int) != (wrap64 ((wrap64 ((wrap64 (Int.tmod a0 10)) + 1)) - 1))) t577 t578 t581 t582 t585 t586 t589 t590) = some r := H
        have A18 := Goto.m0 A180
        clear A180
        have H' := Goto.m0 H
        clear H
        go_wp2_with (first | ((with_reducible refine gate_callee (f := 26) rfl ?_); refine goesL_ (some 49) rfl rfl Try.func26 (by kernel_rfl) rfl #[.pointer (some ⟨gb521, 0, none⟩), .int .i64 (wrap64 ((Int.tmod (wrap64 (a1)) (wrap64 ((wrap64 (Int.tmod a0 10)) + 1))) + 5))] rfl (by (try simp only [List.map_toArray, List.map_cons, List.map_nil]); first | done | rfl | (simp only [List.length_drop, List.length_take]; rfl)) ?_; (with_reducible refine (ext_26.calls k1 gb521 x522000_1 (fun k_ => some k_ = (u522001 : Value).ownBlock) u522001 x522001_1 x522002_1 (fun k_ => some k_ = (u522003 : Value).ownBlock) u522003 x522003_1 x522004_1 (fun k_ => some k_ = (u522005 : Value).ownBlock) u522005 x522005_1 x522006_1 (fun k_ => some k_ = (u522007 : Value).ownBlock) u522007 x522007_1 (wrap64 ((Int.tmod (wrap64 (a1)) (wrap64 ((wrap64 (Int.tmod a0 10)) + 1))) + 5)) true t558 t559 t562 t563 t566 t567 t570 t571 w _ ?side1 ?side2 ?side3 ?side4 ?side5 ?side6 ?side7 ?side8 ?side9 ?side10 ?side11 ?side12 ?side13 ?side14 ?side15 ?side16 ?side17 ?side18 ?side19 A16.out).mono ?_); (case side1 => exact by (with_reducible repeat first | refine blk_drewN ?_ _ | refine blk_drew ?_ | refine blk_alloc ?_ _); exact BK521.out); (case side2 => exact GE521.out); (case side3 => repeat (first | (with_reducible first | exact HB.out | apply below_alloc | apply pw_below_drewN | apply below_drew1 | refine below_set ?_ GE521.out) | exact HB.out)); (case side4 => exact Kd.R_tight rfl HO_522001.out); (case side5 => exact fun k_ e_ => (HO_522001.out.1 k_ e_.symm).1); (case side6 => exact fun k_ e_ => (HO_522001.out.1 k_ e_.symm).2.1); (case side7 => exact fun k_ e_ => (HO_522001.out.1 k_ e_.symm).2.2); (case side8 => exact Kd.R_tight rfl HO_522003.out); (case side9 => exact fun k_ e_ => (HO_522003.out.1 k_ e_.symm).1); (case side10 => exact fun k_ e_ => (HO_522003.out.1 k_ e_.symm).2.1); (case side11 => exact fun k_ e_ => (HO_522003.out.1 k_ e_.symm).2.2); (case side12 => exact Kd.R_tight rfl HO_522005.out); (case side13 => exact fun k_ e_ => (HO_522005.out.1 k_ e_.symm).1); (case side14 => exact fun k_ e_ => (HO_522005.out.1 k_ e_.symm).2.1); (case side15 => exact fun k_ e_ => (HO_522005.out.1 k_ e_.symm).2.2); (case side16 => exact Kd.R_tight rfl HO_522007.out); (case side17 => exact fun k_ e_ => (HO_522007.out.1 k_ e_.symm).1); (case side18 => exact fun k_ e_ => (HO_522007.out.1 k_ e_.symm).2.1); (case side19 => exact fun k_ e_ => (HO_522007.out.1 k_ e_.symm).2.2); rintro e w19 ⟨v560, v564, v568, v572, rfl, ho0, ho1, ho2, ho3, hi, hb, hkp⟩; refine ⟨_, rfl, ?_⟩; have n0_ := Goto.m0 (hi); have n1_ := Goto.m0 (Kd.R_mono (ok' := fun k_ => some k_ ≠ (v564 : Value).ownBlock ∧ some k_ ≠ (v568 : Value).ownBlock ∧ some k_ ≠ (v572 : Value).ownBlock) ho0 (fun k_ hk_ => ⟨hk_.2.1, hk_.2.2.1, hk_.2.2.2⟩)); have n2_ := Goto.m0 (Kd.R_mono (ok' := fun k_ => some k_ ≠ (v560 : Value).ownBlock ∧ some k_ ≠ (v568 : Value).ownBlock ∧ some k_ ≠ (v572 : Value).ownBlock) ho1 (fun k_ hk_ => ⟨hk_.2.1, hk_.2.2.1, hk_.2.2.2⟩)); have n3_ := Goto.m0 (Kd.R_mono (ok' := fun k_ => some k_ ≠ (v560 : Value).ownBlock ∧ some k_ ≠ (v564 : Value).ownBlock ∧ some k_ ≠ (v572 : Value).ownBlock) ho2 (fun k_ hk_ => ⟨hk_.2.1, hk_.2.2.1, hk_.2.2.2⟩)); have n4_ := Goto.m0 (Kd.R_mono (ok' := fun k_ => some k_ ≠ (v560 : Value).ownBlock ∧ some k_ ≠ (v564 : Value).ownBlock ∧ some k_ ≠ (v568 : Value).ownBlock) ho3 (fun k_ hk_ => ⟨hk_.2.1, hk_.2.2.1, hk_.2.2.2⟩)); have n5_ := Goto.m0 (hb); clear BK521; clear HB; clear HO_522001; clear HO_522003; clear HO_522005; clear HO_522007; have BK521 := n0_; have HO561 := n1_; have HO565 := n2_; have HO569 := n3_; have HO573 := n4_; have HB := n5_; clear n0_ n1_ n2_ n3_ n4_ n5_; (try clear hb); (try clear hkp); (try clear ho0); (try clear ho1); (try clear ho2); (try clear ho3)) | (go_at_call 25; (with_reducible refine (object_Objects_Row.calls gb521 t558 (fun k_ => some k_ = (v560 : Value).ownBlock) v560 t559 t562 (fun k_ => some k_ = (v564 : Value).ownBlock) v564 t563 t566 (fun k_ => some k_ = (v568 : Value).ownBlock) v568 t567 t570 (fun k_ => some k_ = (v572 : Value).ownBlock) v572 t571 1 t574 t577 t578 t581 t582 t585 t586 t589 t590 w _ ?side1 ?side2 ?side3 ?side4 ?side5 ?side6 ?side7 ?side8 ?side9 ?side10 ?side11 ?side12 ?side13 ?side14 ?side15 ?side16 ?side17 ?side18 ?side19 A18.out).mono ?_); (case side1 => exact by (with_reducible repeat first | refine blk_drewN ?_ _ | refine blk_drew ?_ | refine blk_alloc ?_ _); exact BK521.out); (case side2 => exact GE521.out); (case side3 => repeat (first | (with_reducible first | exact HB.out | apply below_alloc | apply pw_below_drewN | apply below_drew1 | refine below_set ?_ GE521.out) | exact HB.out)); (case side4 => exact Kd.R_tight rfl HO561.out); (case side5 => exact fun k_ e_ => (HO561.out.1 k_ e_.symm).1); (case side6 => exact fun k_ e_ => (HO561.out.1 k_ e_.symm).2.1); (case side7 => exact fun k_ e_ => (HO561.out.1 k_ e_.symm).2.2); (case side8 => exact Kd.R_tight rfl HO565.out); (case side9 => exact fun k_ e_ => (HO565.out.1 k_ e_.symm).1); (case side10 => exact fun k_ e_ => (HO565.out.1 k_ e_.symm).2.1); (case side11 => exact fun k_ e_ => (HO565.out.1 k_ e_.symm).2.2); (case side12 => exact Kd.R_tight rfl HO569.out); (case side13 => exact fun k_ e_ => (HO569.out.1 k_ e_.symm).1); (case side14 => exact fun k_ e_ => (HO569.out.1 k_ e_.symm).2.1); (case side15 => exact fun k_ e_ => (HO569.out.1 k_ e_.symm).2.2); (case side16 => exact Kd.R_tight rfl HO573.out); (case side17 => exact fun k_ e_ => (HO573.out.1 k_ e_.symm).1); (case side18 => exact fun k_ e_ => (HO573.out.1 k_ e_.symm).2.1); (case side19 => exact fun k_ e_ => (HO573.out.1 k_ e_.symm).2.2); rintro e w20 ⟨v575, v579, v583, v587, v591, rfl, ho0, ho1, ho2, ho3, ho4, hi, hb, hkp⟩; have n0_ := Goto.m0 (hi); have n1_ := Goto.m0 (Kd.R_mono (ok' := fun k_ => some k_ ≠ (v579 : Value).ownBlock ∧ some k_ ≠ (v583 : Value).ownBlock ∧ some k_ ≠ (v587 : Value).ownBlock ∧ some k_ ≠ (v591 : Value).ownBlock) ho0 (fun k_ hk_ => ⟨hk_.2.1, hk_.2.2.1, hk_.2.2.2.1, hk_.2.2.2.2⟩)); have n2_ := Goto.m0 (Kd.R_mono (ok' := fun k_ => some k_ ≠ (v575 : Value).ownBlock ∧ some k_ ≠ (v583 : Value).ownBlock ∧ some k_ ≠ (v587 : Value).ownBlock ∧ some k_ ≠ (v591 : Value).ownBlock) ho1 (fun k_ hk_ => ⟨hk_.2.1, hk_.2.2.1, hk_.2.2.2.1, hk_.2.2.2.2⟩)); have n3_ := Goto.m0 (Kd.R_mono (ok' := fun k_ => some k_ ≠ (v575 : Value).ownBlock ∧ some k_ ≠ (v579 : Value).ownBlock ∧ some k_ ≠ (v587 : Value).ownBlock ∧ some k_ ≠ (v591 : Value).ownBlock) ho2 (fun k_ hk_ => ⟨hk_.2.1, hk_.2.2.1, hk_.2.2.2.1, hk_.2.2.2.2⟩)); have n4_ := Goto.m0 (Kd.R_mono (ok' := fun k_ => some k_ ≠ (v575 : Value).ownBlock ∧ some k_ ≠ (v579 : Value).ownBlock ∧ some k_ ≠ (v583 : Value).ownBlock ∧ some k_ ≠ (v591 : Value).ownBlock) ho3 (fun k_ hk_ => ⟨hk_.2.1, hk_.2.2.1, hk_.2.2.2.1, hk_.2.2.2.2⟩)); have n5_ := Goto.m0 (Kd.R_mono (ok' := fun k_ => some k_ ≠ (v575 : Value).ownBlock ∧ some k_ ≠ (v579 : Value).ownBlock ∧ some k_ ≠ (v583 : Value).ownBlock ∧ some k_ ≠ (v587 : Value).ownBlock) ho4 (fun k_ hk_ => ⟨hk_.2.1, hk_.2.2.1, hk_.2.2.2.1, hk_.2.2.2.2⟩)); have n6_ := Goto.m0 (hb); clear BK521; clear HB; clear HO561; clear HO565; clear HO569; clear HO573; have BK521 := n0_; have HO576 := n1_; have HO580 := n2_; have HO584 := n3_; have HO588 := n4_; have HO592 := n5_; have HB := n6_; clear n0_ n1_ n2_ n3_ n4_ n5_ n6_; (try clear hb); (try clear hkp); (try clear ho0); (try clear ho1); (try clear ho2); (try clear ho3); (try clear ho4); obtain ⟨Ao21, co21, eo21⟩ := Kd.R_slice HO576.out; subst eo21))
        go_meet
        case rel => exact ⟨_, (((t574.length : Int) != (wrap64 ((wrap64 ((wrap64 (Int.tmod a0 10)) + 1)) - 1)))), (t577), (t578), (t581), (t582), (t585), (t586), (t589), (t590), (v579), (v583), (v587), (v591), (by first | rfl | (simp; done) | (simp [*]; done) | (congr 1; unfold wrap64; omega)), H', ⟨by have := HK1.out; first | omega | exact Nat.le_refl _⟩, ⟨by (with_reducible repeat (first | apply Kd.R_alloc | apply Kd.R_drewN | apply Kd.R_drew)); exact Kd.R_mono HO580.out (fun _ hk => ⟨hk.2.1, ⟨hk.2.2.1, hk.2.2.2⟩⟩)⟩, ⟨by (with_reducible repeat (first | apply Kd.R_alloc | apply Kd.R_drewN | apply Kd.R_drew)); exact Kd.R_mono HO584.out (fun _ hk => ⟨hk.2.1, ⟨hk.2.2.1, hk.2.2.2⟩⟩)⟩, ⟨by (with_reducible repeat (first | apply Kd.R_alloc | apply Kd.R_drewN | apply Kd.R_drew)); exact Kd.R_mono HO588.out (fun _ hk => ⟨hk.2.1, ⟨hk.2.2.1, hk.2.2.2⟩⟩)⟩, ⟨by (with_reducible repeat (first | apply Kd.R_alloc | apply Kd.R_drewN | apply Kd.R_drew)); exact Kd.R_mono HO592.out (fun _ hk => ⟨hk.2.1, ⟨hk.2.2.1, hk.2.2.2⟩⟩)⟩, ⟨Goto.bx BK521⟩, ⟨Goto.hx HB⟩⟩
       ·
        replace c17 := Bool.eq_false_iff.mpr c17
        subst c17
        rw [if_neg (show ¬ (false = true) by decide)] at H
        have H' := Goto.m0 H
        clear H
        go_wp2_with (first | ((with_reducible refine gate_callee (f := 26) rfl ?_); refine goesL_ (some 49) rfl rfl Try.func26 (by kernel_rfl) rfl #[.pointer (some ⟨gb521, 0, none⟩), .int .i64 (wrap64 ((Int.tmod (wrap64 (a1)) (wrap64 ((wrap64 (Int.tmod a0 10)) + 1))) + 5))] rfl (by (try simp only [List.map_toArray, List.map_cons, List.map_nil]); first | done | rfl | (simp only [List.length_drop, List.length_take]; rfl)) ?_; (with_reducible refine (ext_26.calls k1 gb521 x522000_1 (fun k_ => some k_ = (u522001 : Value).ownBlock) u522001 x522001_1 x522002_1 (fun k_ => some k_ = (u522003 : Value).ownBlock) u522003 x522003_1 x522004_1 (fun k_ => some k_ = (u522005 : Value).ownBlock) u522005 x522005_1 x522006_1 (fun k_ => some k_ = (u522007 : Value).ownBlock) u522007 x522007_1 (wrap64 ((Int.tmod (wrap64 (a1)) (wrap64 ((wrap64 (Int.tmod a0 10)) + 1))) + 5)) false t558 t559 t562 t563 t566 t567 t570 t571 w _ ?side1 ?side2 ?side3 ?side4 ?side5 ?side6 ?side7 ?side8 ?side9 ?side10 ?side11 ?side12 ?side13 ?side14 ?side15 ?side16 ?side17 ?side18 ?side19 A16.out).mono ?_); (case side1 => exact by (with_reducible repeat first | refine blk_drewN ?_ _ | refine blk_drew ?_ | refine blk_alloc ?_ _); exact BK521.out); (case side2 => exact GE521.out); (case side3 => repeat (first | (with_reducible first | exact HB.out | apply below_alloc | apply pw_below_drewN | apply below_drew1 | refine below_set ?_ GE521.out) | exact HB.out)); (case side4 => exact Kd.R_tight rfl HO_522001.out); (case side5 => exact fun k_ e_ => (HO_522001.out.1 k_ e_.symm).1); (case side6 => exact fun k_ e_ => (HO_522001.out.1 k_ e_.symm).2.1); (case side7 => exact fun k_ e_ => (HO_522001.out.1 k_ e_.symm).2.2); (case side8 => exact Kd.R_tight rfl HO_522003.out); (case side9 => exact fun k_ e_ => (HO_522003.out.1 k_ e_.symm).1); (case side10 => exact fun k_ e_ => (HO_522003.out.1 k_ e_.symm).2.1); (case side11 => exact fun k_ e_ => (HO_522003.out.1 k_ e_.symm).2.2); (case side12 => exact Kd.R_tight rfl HO_522005.out); (case side13 => exact fun k_ e_ => (HO_522005.out.1 k_ e_.symm).1); (case side14 => exact fun k_ e_ => (HO_522005.out.1 k_ e_.symm).2.1); (case side15 => exact fun k_ e_ => (HO_522005.out.1 k_ e_.symm).2.2); (case side16 => exact Kd.R_tight rfl HO_522007.out); (case side17 => exact fun k_ e_ => (HO_522007.out.1 k_ e_.symm).1); (case side18 => exact fun k_ e_ => (HO_522007.out.1 k_ e_.symm).2.1); (case side19 => exact fun k_ e_ => (HO_522007.out.1 k_ e_.symm).2.2); rintro e w22 ⟨v560, v564, v568, v572, rfl, ho0, ho1, ho2, ho3, hi, hb, hkp⟩; refine ⟨_, rfl, ?_⟩; have n0_ := Goto.m0 (hi); have n1_ := Goto.m0 (Kd.R_mono (ok' := fun k_ => some k_ ≠ (v564 : Value).ownBlock ∧ some k_ ≠ (v568 : Value).ownBlock ∧ some k_ ≠ (v572 : Value).ownBlock) ho0 (fun k_ hk_ => ⟨hk_.2.1, hk_.2.2.1, hk_.2.2.2⟩)); have n2_ := Goto.m0 (Kd.R_mono (ok' := fun k_ => some k_ ≠ (v560 : Value).ownBlock ∧ some k_ ≠ (v568 : Value).ownBlock ∧ some k_ ≠ (v572 : Value).ownBlock) ho1 (fun k_ hk_ => ⟨hk_.2.1, hk_.2.2.1, hk_.2.2.2⟩)); have n3_ := Goto.m0 (Kd.R_mono (ok' := fun k_ => some k_ ≠ (v560 : Value).ownBlock ∧ some k_ ≠ (v564 : Value).ownBlock ∧ some k_ ≠ (v572 : Value).ownBlock) ho2 (fun k_ hk_ => ⟨hk_.2.1, hk_.2.2.1, hk_.2.2.2⟩)); have n4_ := Goto.m0 (Kd.R_mono (ok' := fun k_ => some k_ ≠ (v560 : Value).ownBlock ∧ some k_ ≠ (v564 : Value).ownBlock ∧ some k_ ≠ (v568 : Value).ownBlock) ho3 (fun k_ hk_ => ⟨hk_.2.1, hk_.2.2.1, hk_.2.2.2⟩)); have n5_ := Goto.m0 (hb); clear BK521; clear HB; clear HO_522001; clear HO_522003; clear HO_522005; clear HO_522007; have BK521 := n0_; have HO561 := n1_; have HO565 := n2_; have HO569 := n3_; have HO573 := n4_; have HB := n5_; clear n0_ n1_ n2_ n3_ n4_ n5_; (try clear hb); (try clear hkp); (try clear ho0); (try clear ho1); (try clear ho2); (try clear ho3)))
        go_meet
        case rel => exact ⟨_, (true), (t558), (t559), (t562), (t563), (t566), (t567), (t570), (t571), (v560), (v564), (v568), (v572), (by first | rfl | (simp; done) | (simp [*]; done) | (congr 1; unfold wrap64; omega)), H', ⟨by have := HK1.out; first | omega | exact Nat.le_refl _⟩, ⟨Goto.rk HO561⟩, ⟨Goto.rk HO565⟩, ⟨Goto.rk HO569⟩, ⟨Goto.rk HO573⟩, ⟨Goto.bx BK521⟩, ⟨Goto.hx HB⟩⟩
      case rest =>
       clear HC15; try clear c1; try clear c2; try clear p2; try clear c4; try clear c5; try clear c5b0; try clear c5b1; try clear q5; try clear p6; try clear c8; try clear c9; try clear c9b0; try clear c13; try clear c14; try clear c17; try clear c20; try clear c21; try clear c22; try clear p2; try clear p6; try clear q5; try clear q556
       obtain ⟨kq, x58_14, x522000_14, x522001_14, x522002_14, x522003_14, x522004_14, x522005_14, x522006_14, x522007_14, u522001, u522003, u522005, u522007, rfl, HA, HJ14, HO_522001, HO_522003, HO_522005, HO_522007, BK521, HB⟩ := hcut
       cases kq with
       | zero => exact absurd HA.out (by simp [tontinelaw9_ObjectDrops.j2])
       | succ kj14 =>
        have H := HA.out; clear HA
        simp only [tontinelaw9_ObjectDrops.j2] at H
        by_cases c23 : x58_14 = true
        ·
         subst c23
         rw [if_pos rfl] at H
         exact absurd ((Option.some.inj H).trans HRT.out) (by decide)
        ·
         replace c23 := Bool.eq_false_iff.mpr c23
         subst c23
         rw [if_neg (show ¬ (false = true) by decide)] at H
         have H' := Goto.m0 H
         clear H
         go_wp2
         go_loopg [11] kj14 (fun kq v11 w' => ∃ (x11_3 : Int) (x522000_3 : Int) (x522001_3 : List Int) (x522002_3 : Int) (x522003_3 : List Int) (x522004_3 : Int) (x522005_3 : List Int) (x522006_3 : Int) (x522007_3 : List Int) (u522001 : Value) (u522003 : Value) (u522005 : Value) (u522007 : Value), v11 = .int .i64 x11_3 ∧ Aside0 (tontinelaw9_ObjectDrops.l1 kq (wrap64 ((wrap64 (Int.tmod a0 10)) + 1)) (Int.tmod (wrap64 (a1)) (wrap64 ((wrap64 (Int.tmod a0 10)) + 1))) x11_3 x522000_3 x522001_3 x522002_3 x522003_3 x522004_3 x522005_3 x522006_3 x522007_3 = some r) ∧ Aside0 (kq ≤ kj14) ∧ Aside0 (Kd.R (Kd.int .i64) 3 w' w.heap.size (fun k_ => some k_ ≠ (u522003 : Value).ownBlock ∧ some k_ ≠ (u522005 : Value).ownBlock ∧ some k_ ≠ (u522007 : Value).ownBlock) u522001 x522001_3) ∧ Aside0 (Kd.R (Kd.int .i64) 3 w' w.heap.size (fun k_ => some k_ ≠ (u522001 : Value).ownBlock ∧ some k_ ≠ (u522005 : Value).ownBlock ∧ some k_ ≠ (u522007 : Value).ownBlock) u522003 x522003_3) ∧ Aside0 (Kd.R (Kd.int .i64) 3 w' w.heap.size (fun k_ => some k_ ≠ (u522001 : Value).ownBlock ∧ some k_ ≠ (u522003 : Value).ownBlock ∧ some k_ ≠ (u522007 : Value).ownBlock) u522005 x522005_3) ∧ Aside0 (Kd.R (Kd.int .i64) 3 w' w.heap.size (fun k_ => some k_ ≠ (u522001 : Value).ownBlock ∧ some k_ ≠ (u522003 : Value).ownBlock ∧ some k_ ≠ (u522005 : Value).ownBlock) u522007 x522007_3) ∧ Aside0 (w'.heap[gb521]? = some (.cells #[.int .i64 x522000_3, u522001, .int .i64 x522002_3, u522003, .int .i64 x522004_3, u522005, .int .i64 x522006_3, u522007] 79 (0, 0))) ∧ Aside0 (Below w.heap.size w w'))
         case atStart => exact ⟨(0), (x522000_14), (x522001_14), (x522002_14), (x522003_14), (x522004_14), (x522005_14), (x522006_14), (x522007_14), (u522001), (u522003), (u522005), (u522007), (by first | rfl | (simp; done) | (simp [*]; done) | (congr 1; unfold wrap64; omega)), H', ⟨Nat.le_refl _⟩, ⟨Goto.rk HO_522001⟩, ⟨Goto.rk HO_522003⟩, ⟨Goto.rk HO_522005⟩, ⟨Goto.rk HO_522007⟩, ⟨Goto.bx BK521⟩, ⟨Goto.hx HB⟩⟩
         case round =>
          clear H'
          try clear c1; try clear c2; try clear p2; try clear c4; try clear c5; try clear c5b0; try clear c5b1; try clear q5; try clear p6; try clear c8; try clear c9; try clear c9b0; try clear c13; try clear c14; try clear c17; try clear c20; try clear c21; try clear c22; try clear c23; try clear p2; try clear p6; try clear q5; try clear q556
          obtain ⟨x11_3, x522000_3, x522001_3, x522002_3, x522003_3, x522004_3, x522005_3, x522006_3, x522007_3, u522001, u522003, u522005, u522007, rfl, HA, HK3, HO_522001, HO_522003, HO_522005, HO_522007, BK521, HB⟩ := hrel
          cases gk with
          | zero => exact absurd HA.out (by simp [tontinelaw9_ObjectDrops.l1])
          | succ k3 =>
           have H := HA.out; clear HA
           simp only [tontinelaw9_ObjectDrops.l1] at H
           by_cases c24 : x11_3 < (wrap64 ((wrap64 (Int.tmod a0 10)) + 1))
           ·
            rw [if_pos c24] at H
            have c24b0 : decide (x11_3 < (wrap64 ((wrap64 (Int.tmod a0 10)) + 1))) = true := decide_eq_true c24
            clear c24
            by_cases c25 : x11_3 = (Int.tmod (wrap64 (a1)) (wrap64 ((wrap64 (Int.tmod a0 10)) + 1)))
            ·
             rw [if_pos c25] at H
             have c25b0 : (x11_3 == (Int.tmod (wrap64 (a1)) (wrap64 ((wrap64 (Int.tmod a0 10)) + 1)))) = true := beq_iff_eq.mpr c25
             have c25b1 : (x11_3 != (Int.tmod (wrap64 (a1)) (wrap64 ((wrap64 (Int.tmod a0 10)) + 1)))) = false := bne_eq_false_iff_eq.mpr c25
             clear c25
             have H' := Goto.m0 H
             clear H
             go_wp2
             go_roundg k3
             case measure => have := HK1.out; have := HJ14.out; have := HK3.out; omega
             case rel => exact ⟨(wrap64 (x11_3 + 1)), (x522000_3), (x522001_3), (x522002_3), (x522003_3), (x522004_3), (x522005_3), (x522006_3), (x522007_3), (u522001), (u522003), (u522005), (u522007), (by first | rfl | (simp; done) | (simp [*]; done) | (congr 1; unfold wrap64; omega)), H', ⟨by have := HK1.out; have := HJ14.out; have := HK3.out; omega⟩, ⟨Goto.rk HO_522001⟩, ⟨Goto.rk HO_522003⟩, ⟨Goto.rk HO_522005⟩, ⟨Goto.rk HO_522007⟩, ⟨Goto.bx BK521⟩, ⟨Goto.hx HB⟩⟩
            ·
             rw [if_neg c25] at H
             have c25b0 : (x11_3 == (Int.tmod (wrap64 (a1)) (wrap64 ((wrap64 (Int.tmod a0 10)) + 1)))) = false := beq_eq_false_iff_ne.mpr c25
             have c25b1 : (x11_3 != (Int.tmod (wrap64 (a1)) (wrap64 ((wrap64 (Int.tmod a0 10)) + 1)))) = true := bne_iff_ne.mpr c25
             replace H := Option.bind_eq_some_iff.mp H
             obtain ⟨⟨t593, t594, t595, t596, t597, t600, t601, t604, t605, t608, t609⟩, A260, H⟩ := H
             replace H : (if t594 = true then (if t595.isNone = true then (tontinelaw9_ObjectDrops.j4 k3 (wrap64 ((wrap64 (Int.tmod a0 10)) + 1)) (Int.tmod (wrap64 (a1)) (wrap64 ((wrap64 (Int.tmod a0 10)) + 1))) x11_3 (t593 != (wrap64 (x11_3 + 5))) t596 t597 t600 t601 t604 t605 t608 t609) else (tontinelaw9_ObjectDrops.j4 k3 (wrap64 ((wrap64 (Int.tmod a0 10)) + 1)) (Int.tmod (wrap64 (a1)) (wrap64 ((wrap64 (Int.tmod a0 10)) + 1))) x11_3 true t596 t597 t600 t601 t604 t605 t608 t609)) else (tontinelaw9_ObjectDrops.j4 k3 (wrap64 ((wrap64 (Int.tmod a0 10)) + 1)) (Int.tmod (wrap64 (a1)) (wrap64 ((wrap64 (Int.tmod a0 10)) + 1))) x11_3 true t596 t597 t600 t601 t604 t605 t608 t609)) = some r := H
             have A26 := Goto.m0 A260
             clear A260
             have HC27 := Goto.m0 H
             clear H
             go_upto_region 19 with (first | ((with_reducible refine gate_callee (f := 23) rfl ?_); refine goesL_ (some 69) rfl rfl Try.func23 (by kernel_rfl) rfl #[.pointer (some ⟨gb521, 0, none⟩), .int .i64 1] rfl (by (try simp only [List.map_toArray, List.map_cons, List.map_nil]); first | done | rfl | (simp only [List.length_drop, List.length_take]; rfl)) ?_; (with_reducible refine (object_Objects_Signal.calls gb521 x522000_3 (fun k_ => some k_ = (u522001 : Value).ownBlock) u522001 x522001_3 x522002_3 (fun k_ => some k_ = (u522003 : Value).ownBlock) u522003 x522003_3 x522004_3 (fun k_ => some k_ = (u522005 : Value).ownBlock) u522005 x522005_3 x522006_3 (fun k_ => some k_ = (u522007 : Value).ownBlock) u522007 x522007_3 1 t593 t594 t595 t596 t597 t600 t601 t604 t605 t608 t609 w _ ?side1 ?side2 ?side3 ?side4 ?side5 ?side6 ?side7 ?side8 ?side9 ?side10 ?side11 ?side12 ?side13 ?side14 ?side15 ?side16 ?side17 ?side18 ?side19 A26.out).mono ?_); (case side1 => exact by (with_reducible repeat first | refine blk_drewN ?_ _ | refine blk_drew ?_ | refine blk_alloc ?_ _); exact BK521.out); (case side2 => exact GE521.out); (case side3 => repeat (first | (with_reducible first | exact HB.out | apply below_alloc | apply pw_below_drewN | apply below_drew1 | refine below_set ?_ GE521.out) | exact HB.out)); (case side4 => exact Kd.R_tight rfl HO_522001.out); (case side5 => exact fun k_ e_ => (HO_522001.out.1 k_ e_.symm).1); (case side6 => exact fun k_ e_ => (HO_522001.out.1 k_ e_.symm).2.1); (case side7 => exact fun k_ e_ => (HO_522001.out.1 k_ e_.symm).2.2); (case side8 => exact Kd.R_tight rfl HO_522003.out); (case side9 => exact fun k_ e_ => (HO_522003.out.1 k_ e_.symm).1); (case side10 => exact fun k_ e_ => (HO_522003.out.1 k_ e_.symm).2.1); (case side11 => exact fun k_ e_ => (HO_522003.out.1 k_ e_.symm).2.2); (case side12 => exact Kd.R_tight rfl HO_522005.out); (case side13 => exact fun k_ e_ => (HO_522005.out.1 k_ e_.symm).1); (case side14 => exact fun k_ e_ => (HO_522005.out.1 k_ e_.symm).2.1); (case side15 => exact fun k_ e_ => (HO_522005.out.1 k_ e_.symm).2.2); (case side16 => exact Kd.R_tight rfl HO_522007.out); (case side17 => exact fun k_ e_ => (HO_522007.out.1 k_ e_.symm).1); (case side18 => exact fun k_ e_ => (HO_522007.out.1 k_ e_.symm).2.1); (case side19 => exact fun k_ e_ => (HO_522007.out.1 k_ e_.symm).2.2); rintro e w28 ⟨v598, v602, v606, v610, rfl, ho0, ho1, ho2, ho3, hi, hb, hkp⟩; refine ⟨_, rfl, ?_⟩; have n0_ := Goto.m0 (hi); have n1_ := Goto.m0 (Kd.R_mono (ok' := fun k_ => some k_ ≠ (v602 : Value).ownBlock ∧ some k_ ≠ (v606 : Value).ownBlock ∧ some k_ ≠ (v610 : Value).ownBlock) ho0 (fun k_ hk_ => ⟨hk_.2.1, hk_.2.2.1, hk_.2.2.2⟩)); have n2_ := Goto.m0 (Kd.R_mono (ok' := fun k_ => some k_ ≠ (v598 : Value).ownBlock ∧ some k_ ≠ (v606 : Value).ownBlock ∧ some k_ ≠ (v610 : Value).ownBlock) ho1 (fun k_ hk_ => ⟨hk_.2.1, hk_.2.2.1, hk_.2.2.2⟩)); have n3_ := Goto.m0 (Kd.R_mono (ok' := fun k_ => some k_ ≠ (v598 : Value).ownBlock ∧ some k_ ≠ (v602 : Value).ownBlock ∧ some k_ ≠ (v610 : Value).ownBlock) ho2 (fun k_ hk_ => ⟨hk_.2.1, hk_.2.2.1, hk_.2.2.2⟩)); have n4_ := Goto.m0 (Kd.R_mono (ok' := fun k_ => some k_ ≠ (v598 : Value).ownBlock ∧ some k_ ≠ (v602 : Value).ownBlock ∧ some k_ ≠ (v606 : Value).ownBlock) ho3 (fun k_ hk_ => ⟨hk_.2.1, hk_.2.2.1, hk_.2.2.2⟩)); have n5_ := Goto.m0 (hb); clear BK521; clear HB; clear HO_522001; clear HO_522003; clear HO_522005; clear HO_522007; have BK521 := n0_; have HO599 := n1_; have HO603 := n2_; have HO607 := n3_; have HO611 := n4_; have HB := n5_; clear n0_ n1_ n2_ n3_ n4_ n5_; (try clear hb); (try clear hkp); (try clear ho0); (try clear ho1); (try clear ho2); (try clear ho3); (try simp only [errW_none, errW_some])))
             (try simp only [Act.put, List.setIfInBounds_toArray, List.set_cons_zero, List.set_cons_succ])
             go_cut [84] (fun v84 wc => ∃ (kq : Nat) (x84_26 : Bool), v84 = .bool x84_26 ∧ Aside0 (tontinelaw9_ObjectDrops.j4 kq (wrap64 ((wrap64 (Int.tmod a0 10)) + 1)) (Int.tmod (wrap64 (a1)) (wrap64 ((wrap64 (Int.tmod a0 10)) + 1))) x11_3 x84_26 t596 t597 t600 t601 t604 t605 t608 t609 = some r) ∧ Aside0 (kq ≤ k3) ∧ Aside0 (Kd.R (Kd.int .i64) 3 wc w.heap.size (fun k_ => some k_ ≠ (v602 : Value).ownBlock ∧ some k_ ≠ (v606 : Value).ownBlock ∧ some k_ ≠ (v610 : Value).ownBlock) v598 t597) ∧ Aside0 (Kd.R (Kd.int .i64) 3 wc w.heap.size (fun k_ => some k_ ≠ (v598 : Value).ownBlock ∧ some k_ ≠ (v606 : Value).ownBlock ∧ some k_ ≠ (v610 : Value).ownBlock) v602 t601) ∧ Aside0 (Kd.R (Kd.int .i64) 3 wc w.heap.size (fun k_ => some k_ ≠ (v598 : Value).ownBlock ∧ some k_ ≠ (v602 : Value).ownBlock ∧ some k_ ≠ (v610 : Value).ownBlock) v606 t605) ∧ Aside0 (Kd.R (Kd.int .i64) 3 wc w.heap.size (fun k_ => some k_ ≠ (v598 : Value).ownBlock ∧ some k_ ≠ (v602 : Value).ownBlock ∧ some k_ ≠ (v606 : Value).ownBlock) v610 t609) ∧ Aside0 (wc.heap[gb521]? = some (.cells #[.int .i64 t596, v598, .int .i64 t600, v602, .int .i64 t604, v606, .int .i64 t608, v610] 79 (0, 0))) ∧ Aside0 (Below w.heap.size w wc))
             case first =>
              have H := HC27.out; clear HC27
              by_cases c29 : t594 = true
              ·
               subst c29
               rw [if_pos rfl] at H
               rcases t595 with _ | q612
               ·
                have H1 : (tontinelaw9_ObjectDrops.j4 k3 (wrap64 ((wrap64 (Int.tmod a0 10)) + 1)) (Int.tmod (wrap64 (a1)) (wrap64 ((wrap64 (Int.tmod a0 10)) + 1))) x11_3 (t593 != (wrap64 (x11_3 + 5))) t596 t597 t600 t601 t604 t605 t608 t609) = some r := by rw [if_pos (show (none : Option Int).isNone = true by rfl)] at H; exact H
                clear H; have H := H1; clear H1
                try simp only [errW_none, errW_some]
                have H' := Goto.m0 H
                clear H
                go_wp2
                go_meet
                case rel => exact ⟨_, ((t593 != (wrap64 (x11_3 + 5)))), (by first | rfl | (simp; done) | (simp [*]; done) | (congr 1; unfold wrap64; omega)), H', ⟨by have := HK1.out; have := HJ14.out; have := HK3.out; first | omega | exact Nat.le_refl _⟩, ⟨Goto.rk HO599⟩, ⟨Goto.rk HO603⟩, ⟨Goto.rk HO607⟩, ⟨Goto.rk HO611⟩, ⟨Goto.bx BK521⟩, ⟨Goto.hx HB⟩⟩
               ·
                have H1 : (tontinelaw9_ObjectDrops.j4 k3 (wrap64 ((wrap64 (Int.tmod a0 10)) + 1)) (Int.tmod (wrap64 (a1)) (wrap64 ((wrap64 (Int.tmod a0 10)) + 1))) x11_3 true t596 t597 t600 t601 t604 t605 t608 t609) = some r := by rw [if_neg (show ¬ (some q612).isNone = true by simp)] at H; exact H
                clear H; have H := H1; clear H1
                try simp only [errW_none, errW_some]
                have H' := Goto.m0 H
                clear H
                go_wp2
                go_meet
                case rel => exact ⟨_, (true), (by first | rfl | (simp; done) | (simp [*]; done) | (congr 1; unfold wrap64; omega)), H', ⟨by have := HK1.out; have := HJ14.out; have := HK3.out; first | omega | exact Nat.le_refl _⟩, ⟨Goto.rk HO599⟩, ⟨Goto.rk HO603⟩, ⟨Goto.rk HO607⟩, ⟨Goto.rk HO611⟩, ⟨Goto.bx BK521⟩, ⟨Goto.hx HB⟩⟩
              ·
               replace c29 := Bool.eq_false_iff.mpr c29
               subst c29
               rw [if_neg (show ¬ (false = true) by decide)] at H
               have H' := Goto.m0 H
               clear H
               go_wp2
               go_meet
               case rel => exact ⟨_, (true), (by first | rfl | (simp; done) | (simp [*]; done) | (congr 1; unfold wrap64; omega)), H', ⟨by have := HK1.out; have := HJ14.out; have := HK3.out; first | omega | exact Nat.le_refl _⟩, ⟨Goto.rk HO599⟩, ⟨Goto.rk HO603⟩, ⟨Goto.rk HO607⟩, ⟨Goto.rk HO611⟩, ⟨Goto.bx BK521⟩, ⟨Goto.hx HB⟩⟩
             case rest =>
              clear HC27; try clear c1; try clear c2; try clear p2; try clear c4; try clear c5; try clear c5b0; try clear c5b1; try clear q5; try clear p6; try clear q6; try clear c8; try clear c9; try clear c9b0; try clear c13; try clear c14; try clear c17; try clear c20; try clear c21; try clear c22; try clear c23; try clear c24; try clear c24b0; try clear c25; try clear c25b0; try clear c25b1; try clear c26; try clear c29; try clear p2; try clear p6; try clear q5; try clear q556; try clear q612
              obtain ⟨kq, x84_26, rfl, HA, HJ26, HO_522001, HO_522003, HO_522005, HO_522007, BK521, HB⟩ := hcut
              cases kq with
              | zero => exact absurd HA.out (by simp [tontinelaw9_ObjectDrops.j4])
              | succ kj26 =>
               have H := HA.out; clear HA
               simp only [tontinelaw9_ObjectDrops.j4] at H
               by_cases c30 : x84_26 = true
               ·
                subst c30
                rw [if_pos rfl] at H
                exact absurd ((Option.some.inj H).trans HRT.out) (by decide)
               ·
                replace c30 := Bool.eq_false_iff.mpr c30
                subst c30
                rw [if_neg (show ¬ (false = true) by decide)] at H
                have H' := Goto.m0 H
                clear H
                go_wp2
                go_roundg kj26
                case measure => have := HK1.out; have := HJ14.out; have := HK3.out; have := HJ26.out; omega
                case rel => exact ⟨(wrap64 (x11_3 + 1)), (t596), (t597), (t600), (t601), (t604), (t605), (t608), (t609), (v598), (v602), (v606), (v610), (by first | rfl | (simp; done) | (simp [*]; done) | (congr 1; unfold wrap64; omega)), H', ⟨by have := HK1.out; have := HJ14.out; have := HK3.out; have := HJ26.out; omega⟩, ⟨Goto.rk HO_522001⟩, ⟨Goto.rk HO_522003⟩, ⟨Goto.rk HO_522005⟩, ⟨Goto.rk HO_522007⟩, ⟨Goto.bx BK521⟩, ⟨Goto.hx HB⟩⟩
           ·
            rw [if_neg c24] at H
            have c24b0 : decide (x11_3 < (wrap64 ((wrap64 (Int.tmod a0 10)) + 1))) = false := decide_eq_false c24
            clear c24
            replace H := Option.bind_eq_some_iff.mp H
            obtain ⟨⟨t613, t614, t615, t616, t617, t620, t621, t624, t625, t628, t629⟩, A310, H⟩ := H
            replace H : (if t614 = true then (some false) else ((object_Objects_Count.f t616 t617 t620 t621 t624 t625 t628 t629 1).bind fun bt632 => (some (bt632.1 == 1)))) = some r := H
            have A31 := Goto.m0 A310
            clear A310
            by_cases c32 : t614 = true
            ·
             subst c32
             rw [if_pos rfl] at H
             exact absurd ((Option.some.inj H).trans HRT.out) (by decide)
            ·
             replace c32 := Bool.eq_false_iff.mpr c32
             subst c32
             rw [if_neg (show ¬ (false = true) by decide)] at H
             replace H := Option.bind_eq_some_iff.mp H
             obtain ⟨⟨t632, t633, t634, t637, t638, t641, t642, t645, t646⟩, A330, H⟩ := H
             replace H : (some (t632 == 1)) = some r := H
             have A33 := Goto.m0 A330
             clear A330
             obtain rfl := Option.some.inj H
             go_wp2_with (first | ((with_reducible refine gate_callee (f := 23) rfl ?_); refine goesL_ (some 87) rfl rfl Try.func23 (by kernel_rfl) rfl #[.pointer (some ⟨gb521, 0, none⟩), .int .i64 1] rfl (by (try simp only [List.map_toArray, List.map_cons, List.map_nil]); first | done | rfl | (simp only [List.length_drop, List.length_take]; rfl)) ?_; (with_reducible refine (object_Objects_Signal.calls gb521 x522000_3 (fun k_ => some k_ = (u522001 : Value).ownBlock) u522001 x522001_3 x522002_3 (fun k_ => some k_ = (u522003 : Value).ownBlock) u522003 x522003_3 x522004_3 (fun k_ => some k_ = (u522005 : Value).ownBlock) u522005 x522005_3 x522006_3 (fun k_ => some k_ = (u522007 : Value).ownBlock) u522007 x522007_3 1 t613 false t615 t616 t617 t620 t621 t624 t625 t628 t629 w _ ?side1 ?side2 ?side3 ?side4 ?side5 ?side6 ?side7 ?side8 ?side9 ?side10 ?side11 ?side12 ?side13 ?side14 ?side15 ?side16 ?side17 ?side18 ?side19 A31.out).mono ?_); (case side1 => exact by (with_reducible repeat first | refine blk_drewN ?_ _ | refine blk_drew ?_ | refine blk_alloc ?_ _); exact BK521.out); (case side2 => exact GE521.out); (case side3 => repeat (first | (with_reducible first | exact HB.out | apply below_alloc | apply pw_below_drewN | apply below_drew1 | refine below_set ?_ GE521.out) | exact HB.out)); (case side4 => exact Kd.R_tight rfl HO_522001.out); (case side5 => exact fun k_ e_ => (HO_522001.out.1 k_ e_.symm).1); (case side6 => exact fun k_ e_ => (HO_522001.out.1 k_ e_.symm).2.1); (case side7 => exact fun k_ e_ => (HO_522001.out.1 k_ e_.symm).2.2); (case side8 => exact Kd.R_tight rfl HO_522003.out); (case side9 => exact fun k_ e_ => (HO_522003.out.1 k_ e_.symm).1); (case side10 => exact fun k_ e_ => (HO_522003.out.1 k_ e_.symm).2.1); (case side11 => exact fun k_ e_ => (HO_522003.out.1 k_ e_.symm).2.2); (case side12 => exact Kd.R_tight rfl HO_522005.out); (case side13 => exact fun k_ e_ => (HO_522005.out.1 k_ e_.symm).1); (case side14 => exact fun k_ e_ => (HO_522005.out.1 k_ e_.symm).2.1); (case side15 => exact fun k_ e_ => (HO_522005.out.1 k_ e_.symm).2.2); (case side16 => exact Kd.R_tight rfl HO_522007.out); (case side17 => exact fun k_ e_ => (HO_522007.out.1 k_ e_.symm).1); (case side18 => exact fun k_ e_ => (HO_522007.out.1 k_ e_.symm).2.1); (case side19 => exact fun k_ e_ => (HO_522007.out.1 k_ e_.symm).2.2); rintro e w34 ⟨v618, v622, v626, v630, rfl, ho0, ho1, ho2, ho3, hi, hb, hkp⟩; refine ⟨_, rfl, ?_⟩; have n0_ := Goto.m0 (hi); have n1_ := Goto.m0 (Kd.R_mono (ok' := fun k_ => some k_ ≠ (v622 : Value).ownBlock ∧ some k_ ≠ (v626 : Value).ownBlock ∧ some k_ ≠ (v630 : Value).ownBlock) ho0 (fun k_ hk_ => ⟨hk_.2.1, hk_.2.2.1, hk_.2.2.2⟩)); have n2_ := Goto.m0 (Kd.R_mono (ok' := fun k_ => some k_ ≠ (v618 : Value).ownBlock ∧ some k_ ≠ (v626 : Value).ownBlock ∧ some k_ ≠ (v630 : Value).ownBlock) ho1 (fun k_ hk_ => ⟨hk_.2.1, hk_.2.2.1, hk_.2.2.2⟩)); have n3_ := Goto.m0 (Kd.R_mono (ok' := fun k_ => some k_ ≠ (v618 : Value).ownBlock ∧ some k_ ≠ (v622 : Value).ownBlock ∧ some k_ ≠ (v630 : Value).ownBlock) ho2 (fun k_ hk_ => ⟨hk_.2.1, hk_.2.2.1, hk_.2.2.2⟩)); have n4_ := Goto.m0 (Kd.R_mono (ok' := fun k_ => some k_ ≠ (v618 : Value).ownBlock ∧ some k_ ≠ (v622 : Value).ownBlock ∧ some k_ ≠ (v626 : Value).ownBlock) ho3 (fun k_ hk_ => ⟨hk_.2.1, hk_.2.2.1, hk_.2.2.2⟩)); have n5_ := Goto.m0 (hb); clear BK521; clear HB; clear HO_522001; clear HO_522003; clear HO_522005; clear HO_522007; have BK521 := n0_; have HO619 := n1_; have HO623 := n2_; have HO627 := n3_; have HO631 := n4_; have HB := n5_; clear n0_ n1_ n2_ n3_ n4_ n5_; (try clear hb); (try clear hkp); (try clear ho0); (try clear ho1); (try clear ho2); (try clear ho3); (try simp only [errW_none, errW_some])) | (go_at_call 24; (with_reducible refine (object_Objects_Count.calls gb521 t616 (fun k_ => some k_ = (v618 : Value).ownBlock) v618 t617 t620 (fun k_ => some k_ = (v622 : Value).ownBlock) v622 t621 t624 (fun k_ => some k_ = (v626 : Value).ownBlock) v626 t625 t628 (fun k_ => some k_ = (v630 : Value).ownBlock) v630 t629 1 t632 t633 t634 t637 t638 t641 t642 t645 t646 w _ ?side1 ?side2 ?side3 ?side4 ?side5 ?side6 ?side7 ?side8 ?side9 ?side10 ?side11 ?side12 ?side13 ?side14 ?side15 ?side16 ?side17 ?side18 ?side19 A33.out).mono ?_); (case side1 => exact by (with_reducible repeat first | refine blk_drewN ?_ _ | refine blk_drew ?_ | refine blk_alloc ?_ _); exact BK521.out); (case side2 => exact GE521.out); (case side3 => repeat (first | (with_reducible first | exact HB.out | apply below_alloc | apply pw_below_drewN | apply below_drew1 | refine below_set ?_ GE521.out) | exact HB.out)); (case side4 => exact Kd.R_tight rfl HO619.out); (case side5 => exact fun k_ e_ => (HO619.out.1 k_ e_.symm).1); (case side6 => exact fun k_ e_ => (HO619.out.1 k_ e_.symm).2.1); (case side7 => exact fun k_ e_ => (HO619.out.1 k_ e_.symm).2.2); (case side8 => exact Kd.R_tight rfl HO623.out); (case side9 => exact fun k_ e_ => (HO623.out.1 k_ e_.symm).1); (case side10 => exact fun k_ e_ => (HO623.out.1 k_ e_.symm).2.1); (case side11 => exact fun k_ e_ => (HO623.out.1 k_ e_.symm).2.2); (case side12 => exact Kd.R_tight rfl HO627.out); (case side13 => exact fun k_ e_ => (HO627.out.1 k_ e_.symm).1); (case side14 => exact fun k_ e_ => (HO627.out.1 k_ e_.symm).2.1); (case side15 => exact fun k_ e_ => (HO627.out.1 k_ e_.symm).2.2); (case side16 => exact Kd.R_tight rfl HO631.out); (case side17 => exact fun k_ e_ => (HO631.out.1 k_ e_.symm).1); (case side18 => exact fun k_ e_ => (HO631.out.1 k_ e_.symm).2.1); (case side19 => exact fun k_ e_ => (HO631.out.1 k_ e_.symm).2.2); rintro e w35 ⟨v635, v639, v643, v647, rfl, ho0, ho1, ho2, ho3, hi, hb, hkp⟩; have n0_ := Goto.m0 (hi); have n1_ := Goto.m0 (Kd.R_mono (ok' := fun k_ => some k_ ≠ (v639 : Value).ownBlock ∧ some k_ ≠ (v643 : Value).ownBlock ∧ some k_ ≠ (v647 : Value).ownBlock) ho0 (fun k_ hk_ => ⟨hk_.2.1, hk_.2.2.1, hk_.2.2.2⟩)); have n2_ := Goto.m0 (Kd.R_mono (ok' := fun k_ => some k_ ≠ (v635 : Value).ownBlock ∧ some k_ ≠ (v643 : Value).ownBlock ∧ some k_ ≠ (v647 : Value).ownBlock) ho1 (fun k_ hk_ => ⟨hk_.2.1, hk_.2.2.1, hk_.2.2.2⟩)); have n3_ := Goto.m0 (Kd.R_mono (ok' := fun k_ => some k_ ≠ (v635 : Value).ownBlock ∧ some k_ ≠ (v639 : Value).ownBlock ∧ some k_ ≠ (v647 : Value).ownBlock) ho2 (fun k_ hk_ => ⟨hk_.2.1, hk_.2.2.1, hk_.2.2.2⟩)); have n4_ := Goto.m0 (Kd.R_mono (ok' := fun k_ => some k_ ≠ (v635 : Value).ownBlock ∧ some k_ ≠ (v639 : Value).ownBlock ∧ some k_ ≠ (v643 : Value).ownBlock) ho3 (fun k_ hk_ => ⟨hk_.2.1, hk_.2.2.1, hk_.2.2.2⟩)); have n5_ := Goto.m0 (hb); clear BK521; clear HB; clear HO619; clear HO623; clear HO627; clear HO631; have BK521 := n0_; have HO636 := n1_; have HO640 := n2_; have HO644 := n3_; have HO648 := n4_; have HB := n5_; clear n0_ n1_ n2_ n3_ n4_ n5_; (try clear hb); (try clear hkp); (try clear ho0); (try clear ho1); (try clear ho2); (try clear ho3)))
             go_ret
             exact ⟨Goto.er, by repeat (first | (with_reducible first | exact HB.out | apply below_alloc | apply pw_below_drewN | apply below_drew1 | refine below_set ?_ GE521.out) | exact HB.out)⟩
 ·
  replace c4 := Bool.eq_false_iff.mpr c4
  subst c4
  rw [if_neg (show ¬ (false = true) by decide)] at H
  exact absurd ((Option.some.inj H).trans HRT.out) (by decide)

/-- THE ONE PURE STATEMENT of tontinelaw9_ObjectDrops: yours. -/
def tontinelaw9_ObjectDrops.Pure : Prop := ∀ (a0 : Int) (a1 : Int), (Lit.int .u8 a0).wf = true → (Lit.int .u8 a1).wf = true → ∃ k, tontinelaw9_ObjectDrops.f k a0 a1 = some true
theorem tontinelaw9_ObjectDrops.walk (P : tontinelaw9_ObjectDrops.Pure) (a0 : Int) (a1 : Int) (w : World) (w0 : (Lit.int .u8 a0).wf = true) (w1 : (Lit.int .u8 a1).wf = true) :
    Calls Try.prog 8 #[.int .u8 a0, .int .u8 a1] w fun e w' => e = .returned (.bool true) ∧ Below w.heap.size w w' := by
 obtain ⟨k, h⟩ := P a0 a1 w0 w1
 refine (tontinelaw9_ObjectDrops.calls k a0 a1 true rfl w h).mono ?_
 rintro e w' ⟨rfl, hd⟩
 exact ⟨rfl, hd⟩

end Go.Proofs.Ytiejhnijfgdapaa.P
