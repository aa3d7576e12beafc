/- Printed by a program of this workplace (a turned copy of the kit's optional print), out of the translation; not trusted: Lean checks it. -/
import Derived.Test.YtbhfkhcedjgpdaaPx0
import Derived.Test.YtbhfkhcedjgpdaaPx1
import Derived.Test.YtbhfkhcedjgpdaaPx3
import Derived.Test.YtbhfkhcedjgpdaaPx5
import Derived.Test.YtbhfkhcedjgpdaaPx6
namespace Go.Proofs.Ytbhfkhcedjgpdaa.P
open Go.RowKit Go.Proofs.YtbhfkhcedjgpdaaW.PrintWords Go.Proofs.YtbhfkhcedjgpdaaW.PrintLast Go.Proofs.YtbhfkhcedjgpdaaW.PrintMore
attribute [local go_sem] max2_int min2_int max_two min_two max_three min_three max_four min_four   -- for this text's walks alone
set_option linter.unusedVariables false
set_option linter.unusedSimpArgs false

attribute [local go_sem high] eqA42
/-! ### tontineref1_routes: function 44 -/
mutual
def tontineref1_routes.j0 : Nat → Bool → Int → Int → List (List Int) → List (S44) → Int → Int → List (List Int) → List Int → Int → Int → Int → Int → Int → Int → Option (Bool)
  | 0, _, _, _, _, _, _, _, _, _, _, _, _, _, _, _ => none
  | k + 1, x50, x126000, x126001, x126002, x126003, x128000, x128001, x128002, x128003, x128004, x128005, x128006, x128007, x128008, x128009 => if x50 = true then (some false) else (tontineref1_routes.l0 k 0 x126000 x126001 x126002 x126003 x128000 x128001 x128002 x128003 x128004 x128005 x128006 x128007 x128008 x128009)
def tontineref1_routes.l0 : Nat → Int → Int → Int → List (List Int) → List (S44) → Int → Int → List (List Int) → List Int → Int → Int → Int → Int → Int → Int → Option (Bool)
  | 0, _, _, _, _, _, _, _, _, _, _, _, _, _, _, _ => none
  | k + 1, x6, x126000, x126001, x126002, x126003, x128000, x128001, x128002, x128003, x128004, x128005, x128006, x128007, x128008, x128009 => if x6 < (x128002.length : Int) then (tontineref1_routes.l1 k x6 (([(⟨x128000, x128001⟩ : S42)] : List (S42))) 0 x126000 x126001 x126002 x126003 x128000 x128001 x128002 x128003 x128004 x128005 x128006 x128007 x128008 x128009) else (if x128004 = (-1) then (some true) else (tontineref1_routes.l2 k 0 x126000 x126001 x126002 x126003 x128000 x128001 x128002 x128003 x128004 x128005 x128006 x128007 x128008 x128009))
def tontineref1_routes.l1 : Nat → Int → List (S42) → Int → Int → Int → List (List Int) → List (S44) → Int → Int → List (List Int) → List Int → Int → Int → Int → Int → Int → Int → Option (Bool)
  | 0, _, _, _, _, _, _, _, _, _, _, _, _, _, _, _, _, _ => none
  | k + 1, x6, x7, x8, x126000, x126001, x126002, x126003, x128000, x128001, x128002, x128003, x128004, x128005, x128006, x128007, x128008, x128009 => if 0 ≤ x6 then (if x6 < (x128002.length : Int) then (if x8 < ((rd_L1 x128002 x6).length : Int) then (if 0 ≤ x8 then ((tontineref1_within.f (rd (rd_L1 x128002 x6) x8) 0 (wrap64 ((x126003.length : Int) - 1))).bind fun t134 => (if t134 = true then (if x8 > 300 then (some false) else (if 0 ≤ (rd (rd_L1 x128002 x6) x8) then (if (rd (rd_L1 x128002 x6) x8) < (x126003.length : Int) then (if x7.length < 8796093022208 then (tontineref1_routes.l1 k x6 (x7 ++ [(⟨(rd_T44 x126003 (rd (rd_L1 x128002 x6) x8)).f0.f0, (rd_T44 x126003 (rd (rd_L1 x128002 x6) x8)).f0.f1⟩ : S42)]) (wrap64 (x8 + 1)) x126000 x126001 x126002 x126003 x128000 x128001 x128002 x128003 x128004 x128005 x128006 x128007 x128008 x128009) else (none)) else (none)) else (none))) else (some false))) else (none)) else (if (x7.length : Int) = 1 then (some false) else ((tontineref1_Chain.f k x7).bind fun t139 => (if t139 = true then (tontineref1_routes.l0 k (wrap64 (x6 + 1)) x126000 x126001 x126002 x126003 x128000 x128001 x128002 x128003 x128004 x128005 x128006 x128007 x128008 x128009) else (some false))))) else (none)) else (none)
def tontineref1_routes.l2 : Nat → Int → Int → Int → List (List Int) → List (S44) → Int → Int → List (List Int) → List Int → Int → Int → Int → Int → Int → Int → Option (Bool)
  | 0, _, _, _, _, _, _, _, _, _, _, _, _, _, _, _ => none
  | k + 1, x10, x126000, x126001, x126002, x126003, x128000, x128001, x128002, x128003, x128004, x128005, x128006, x128007, x128008, x128009 => if x10 < (x128003.length : Int) then (if 0 ≤ x10 then ((tontineref1_within.f (rd x128003 x10) 0 x126000).bind fun t141 => (if t141 = true then (tontineref1_routes.l2 k (wrap64 (x10 + 1)) x126000 x126001 x126002 x126003 x128000 x128001 x128002 x128003 x128004 x128005 x128006 x128007 x128008 x128009) else (some false))) else (none)) else (if 0 ≤ x128004 then (if x128004 < (x126003.length : Int) then ((tontineref1_within.f (x128003.length : Int) 1 4).bind fun t144 => (if t144 = true then ((tontineref1_Leq.f ((rd_T44 x126003 x128004).f0.f0) ((rd_T44 x126003 x128004).f0.f1) x128000 x128001).bind fun t145 => (if t145 = true then (some (!(((rd_T44 x126003 x128004).f0.f0) == x128000) || (!(((rd_T44 x126003 x128004).f0.f1) == x128001)))) else (some false))) else (some false))) else (none)) else (none))
end
def tontineref1_routes.f (k : Nat) (a0_0 : Int) (a0_1 : Int) (l0_2 : List (List Int)) (l0_3 : List (S44)) (a1 : Int) : Option (Bool) := if 0 ≤ a1 then (if a1 < (l0_3.length : Int) then (if (((rd_T44 l0_3 a1).f1).length : Int) > 3 then (tontineref1_routes.j0 k true a0_0 a0_1 l0_2 l0_3 ((rd_T44 l0_3 a1).f0.f0) ((rd_T44 l0_3 a1).f0.f1) ((rd_T44 l0_3 a1).f1) ((rd_T44 l0_3 a1).f2) ((rd_T44 l0_3 a1).f3) ((rd_T44 l0_3 a1).f4) ((rd_T44 l0_3 a1).f5) ((rd_T44 l0_3 a1).f6) ((rd_T44 l0_3 a1).f7) ((rd_T44 l0_3 a1).f8)) else (if ((rd_T44 l0_3 a1).f3) < (-1) then (tontineref1_routes.j0 k true a0_0 a0_1 l0_2 l0_3 ((rd_T44 l0_3 a1).f0.f0) ((rd_T44 l0_3 a1).f0.f1) ((rd_T44 l0_3 a1).f1) ((rd_T44 l0_3 a1).f2) ((rd_T44 l0_3 a1).f3) ((rd_T44 l0_3 a1).f4) ((rd_T44 l0_3 a1).f5) ((rd_T44 l0_3 a1).f6) ((rd_T44 l0_3 a1).f7) ((rd_T44 l0_3 a1).f8)) else (if ((rd_T44 l0_3 a1).f3) ≥ (l0_3.length : Int) then (tontineref1_routes.j0 k true a0_0 a0_1 l0_2 l0_3 ((rd_T44 l0_3 a1).f0.f0) ((rd_T44 l0_3 a1).f0.f1) ((rd_T44 l0_3 a1).f1) ((rd_T44 l0_3 a1).f2) ((rd_T44 l0_3 a1).f3) ((rd_T44 l0_3 a1).f4) ((rd_T44 l0_3 a1).f5) ((rd_T44 l0_3 a1).f6) ((rd_T44 l0_3 a1).f7) ((rd_T44 l0_3 a1).f8)) else (if ((rd_T44 l0_3 a1).f3) = a1 then (tontineref1_routes.j0 k true a0_0 a0_1 l0_2 l0_3 ((rd_T44 l0_3 a1).f0.f0) ((rd_T44 l0_3 a1).f0.f1) ((rd_T44 l0_3 a1).f1) ((rd_T44 l0_3 a1).f2) ((rd_T44 l0_3 a1).f3) ((rd_T44 l0_3 a1).f4) ((rd_T44 l0_3 a1).f5) ((rd_T44 l0_3 a1).f6) ((rd_T44 l0_3 a1).f7) ((rd_T44 l0_3 a1).f8)) else (if ((rd_T44 l0_3 a1).f3) = (-1) then (tontineref1_routes.j0 k (decide ((((rd_T44 l0_3 a1).f2).length : Int) > 0)) a0_0 a0_1 l0_2 l0_3 ((rd_T44 l0_3 a1).f0.f0) ((rd_T44 l0_3 a1).f0.f1) ((rd_T44 l0_3 a1).f1) ((rd_T44 l0_3 a1).f2) ((rd_T44 l0_3 a1).f3) ((rd_T44 l0_3 a1).f4) ((rd_T44 l0_3 a1).f5) ((rd_T44 l0_3 a1).f6) ((rd_T44 l0_3 a1).f7) ((rd_T44 l0_3 a1).f8)) else (tontineref1_routes.j0 k false a0_0 a0_1 l0_2 l0_3 ((rd_T44 l0_3 a1).f0.f0) ((rd_T44 l0_3 a1).f0.f1) ((rd_T44 l0_3 a1).f1) ((rd_T44 l0_3 a1).f2) ((rd_T44 l0_3 a1).f3) ((rd_T44 l0_3 a1).f4) ((rd_T44 l0_3 a1).f5) ((rd_T44 l0_3 a1).f6) ((rd_T44 l0_3 a1).f7) ((rd_T44 l0_3 a1).f8))))))) else (none)) else (none)
theorem tontineref1_routes.mono_l : ∀ k, (∀ y0 y1 y2 y3 y4 y5 y6 y7 y8 y9 y10 y11 y12 y13 y14, LeO (tontineref1_routes.j0 k y0 y1 y2 y3 y4 y5 y6 y7 y8 y9 y10 y11 y12 y13 y14) (tontineref1_routes.j0 (k + 1) y0 y1 y2 y3 y4 y5 y6 y7 y8 y9 y10 y11 y12 y13 y14)) ∧ (∀ y0 y1 y2 y3 y4 y5 y6 y7 y8 y9 y10 y11 y12 y13 y14, LeO (tontineref1_routes.l0 k y0 y1 y2 y3 y4 y5 y6 y7 y8 y9 y10 y11 y12 y13 y14) (tontineref1_routes.l0 (k + 1) y0 y1 y2 y3 y4 y5 y6 y7 y8 y9 y10 y11 y12 y13 y14)) ∧ (∀ y0 y1 y2 y3 y4 y5 y6 y7 y8 y9 y10 y11 y12 y13 y14 y15 y16, LeO (tontineref1_routes.l1 k y0 y1 y2 y3 y4 y5 y6 y7 y8 y9 y10 y11 y12 y13 y14 y15 y16) (tontineref1_routes.l1 (k + 1) y0 y1 y2 y3 y4 y5 y6 y7 y8 y9 y10 y11 y12 y13 y14 y15 y16)) ∧ (∀ y0 y1 y2 y3 y4 y5 y6 y7 y8 y9 y10 y11 y12 y13 y14, LeO (tontineref1_routes.l2 k y0 y1 y2 y3 y4 y5 y6 y7 y8 y9 y10 y11 y12 y13 y14) (tontineref1_routes.l2 (k + 1) y0 y1 y2 y3 y4 y5 y6 y7 y8 y9 y10 y11 y12 y13 y14))
  | 0 => ⟨fun _ _ _ _ _ _ _ _ _ _ _ _ _ _ _ r h => by simp [tontineref1_routes.j0] at h, fun _ _ _ _ _ _ _ _ _ _ _ _ _ _ _ r h => by simp [tontineref1_routes.l0] at h, fun _ _ _ _ _ _ _ _ _ _ _ _ _ _ _ _ _ r h => by simp [tontineref1_routes.l1] at h, fun _ _ _ _ _ _ _ _ _ _ _ _ _ _ _ r h => by simp [tontineref1_routes.l2] at h⟩
  | k + 1 => by
    obtain ⟨ih0, ih1, ih2, ih3⟩ := tontineref1_routes.mono_l k
    refine ⟨?_, ?_, ?_, ?_⟩
    · intro y0 y1 y2 y3 y4 y5 y6 y7 y8 y9 y10 y11 y12 y13 y14
      unfold tontineref1_routes.j0
      repeat' first
      | (with_reducible exact ih0 _ _ _ _ _ _ _ _ _ _ _ _ _ _ _)
      | (with_reducible exact ih1 _ _ _ _ _ _ _ _ _ _ _ _ _ _ _)
      | (with_reducible exact ih2 _ _ _ _ _ _ _ _ _ _ _ _ _ _ _ _ _)
      | (with_reducible exact ih3 _ _ _ _ _ _ _ _ _ _ _ _ _ _ _)
      | (with_reducible exact tontineref1_Chain.mono _ _)
      | (with_reducible exact LeO.refl _)
      | (with_reducible exact LeO.none _)
      | (with_reducible refine LeO.ite ?_ ?_)
      | (with_reducible refine LeO.bind ?_ (fun _ => ?_))
      | exact ih0 _ _ _ _ _ _ _ _ _ _ _ _ _ _ _
      | exact ih1 _ _ _ _ _ _ _ _ _ _ _ _ _ _ _
      | exact ih2 _ _ _ _ _ _ _ _ _ _ _ _ _ _ _ _ _
      | exact ih3 _ _ _ _ _ _ _ _ _ _ _ _ _ _ _
      | exact tontineref1_Chain.mono _ _
      | exact LeO.none _
      | refine LeO.ite ?_ ?_
      | refine LeO.bind ?_ (fun _ => ?_)
    · intro y0 y1 y2 y3 y4 y5 y6 y7 y8 y9 y10 y11 y12 y13 y14
      unfold tontineref1_routes.l0
      repeat' first
      | (with_reducible exact ih0 _ _ _ _ _ _ _ _ _ _ _ _ _ _ _)
      | (with_reducible exact ih1 _ _ _ _ _ _ _ _ _ _ _ _ _ _ _)
      | (with_reducible exact ih2 _ _ _ _ _ _ _ _ _ _ _ _ _ _ _ _ _)
      | (with_reducible exact ih3 _ _ _ _ _ _ _ _ _ _ _ _ _ _ _)
      | (with_reducible exact tontineref1_Chain.mono _ _)
      | (with_reducible exact LeO.refl _)
      | (with_reducible exact LeO.none _)
      | (with_reducible refine LeO.ite ?_ ?_)
      | (with_reducible refine LeO.bind ?_ (fun _ => ?_))
      | exact ih0 _ _ _ _ _ _ _ _ _ _ _ _ _ _ _
      | exact ih1 _ _ _ _ _ _ _ _ _ _ _ _ _ _ _
      | exact ih2 _ _ _ _ _ _ _ _ _ _ _ _ _ _ _ _ _
      | exact ih3 _ _ _ _ _ _ _ _ _ _ _ _ _ _ _
      | exact tontineref1_Chain.mono _ _
      | exact LeO.none _
      | refine LeO.ite ?_ ?_
      | refine LeO.bind ?_ (fun _ => ?_)
    · intro y0 y1 y2 y3 y4 y5 y6 y7 y8 y9 y10 y11 y12 y13 y14 y15 y16
      unfold tontineref1_routes.l1
      repeat' first
      | (with_reducible exact ih0 _ _ _ _ _ _ _ _ _ _ _ _ _ _ _)
      | (with_reducible exact ih1 _ _ _ _ _ _ _ _ _ _ _ _ _ _ _)
      | (with_reducible exact ih2 _ _ _ _ _ _ _ _ _ _ _ _ _ _ _ _ _)
      | (with_reducible exact ih3 _ _ _ _ _ _ _ _ _ _ _ _ _ _ _)
      | (with_reducible exact tontineref1_Chain.mono _ _)
      | (with_reducible exact LeO.refl _)
      | (with_reducible exact LeO.none _)
      | (with_reducible refine LeO.ite ?_ ?_)
      | (with_reducible refine LeO.bind ?_ (fun _ => ?_))
      | exact ih0 _ _ _ _ _ _ _ _ _ _ _ _ _ _ _
      | exact ih1 _ _ _ _ _ _ _ _ _ _ _ _ _ _ _
      | exact ih2 _ _ _ _ _ _ _ _ _ _ _ _ _ _ _ _ _
      | exact ih3 _ _ _ _ _ _ _ _ _ _ _ _ _ _ _
      | exact tontineref1_Chain.mono _ _
      | exact LeO.none _
      | refine LeO.ite ?_ ?_
      | refine LeO.bind ?_ (fun _ => ?_)
    · intro y0 y1 y2 y3 y4 y5 y6 y7 y8 y9 y10 y11 y12 y13 y14
      unfold tontineref1_routes.l2
      repeat' first
      | (with_reducible exact ih0 _ _ _ _ _ _ _ _ _ _ _ _ _ _ _)
      | (with_reducible exact ih1 _ _ _ _ _ _ _ _ _ _ _ _ _ _ _)
      | (with_reducible exact ih2 _ _ _ _ _ _ _ _ _ _ _ _ _ _ _ _ _)
      | (with_reducible exact ih3 _ _ _ _ _ _ _ _ _ _ _ _ _ _ _)
      | (with_reducible exact tontineref1_Chain.mono _ _)
      | (with_reducible exact LeO.refl _)
      | (with_reducible exact LeO.none _)
      | (with_reducible refine LeO.ite ?_ ?_)
      | (with_reducible refine LeO.bind ?_ (fun _ => ?_))
      | exact ih0 _ _ _ _ _ _ _ _ _ _ _ _ _ _ _
      | exact ih1 _ _ _ _ _ _ _ _ _ _ _ _ _ _ _
      | exact ih2 _ _ _ _ _ _ _ _ _ _ _ _ _ _ _ _ _
      | exact ih3 _ _ _ _ _ _ _ _ _ _ _ _ _ _ _
      | exact tontineref1_Chain.mono _ _
      | exact LeO.none _
      | refine LeO.ite ?_ ?_
      | refine LeO.bind ?_ (fun _ => ?_)
theorem tontineref1_routes.mono : ∀ a0 a1 a2 a3 a4 k, LeO (tontineref1_routes.f k a0 a1 a2 a3 a4) (tontineref1_routes.f (k + 1) a0 a1 a2 a3 a4) := by
 intro a0 a1 a2 a3 a4 k
 obtain ⟨ih0, ih1, ih2, ih3⟩ := tontineref1_routes.mono_l k
 unfold tontineref1_routes.f
 repeat' first
   | (with_reducible exact ih0 _ _ _ _ _ _ _ _ _ _ _ _ _ _ _)
   | (with_reducible exact ih1 _ _ _ _ _ _ _ _ _ _ _ _ _ _ _)
   | (with_reducible exact ih2 _ _ _ _ _ _ _ _ _ _ _ _ _ _ _ _ _)
   | (with_reducible exact ih3 _ _ _ _ _ _ _ _ _ _ _ _ _ _ _)
   | (with_reducible exact tontineref1_Chain.mono _ _)
   | (with_reducible exact LeO.refl _)
   | (with_reducible exact LeO.none _)
   | (with_reducible refine LeO.ite ?_ ?_)
   | (with_reducible refine LeO.bind ?_ (fun _ => ?_))
   | exact ih0 _ _ _ _ _ _ _ _ _ _ _ _ _ _ _
   | exact ih1 _ _ _ _ _ _ _ _ _ _ _ _ _ _ _
   | exact ih2 _ _ _ _ _ _ _ _ _ _ _ _ _ _ _ _ _
   | exact ih3 _ _ _ _ _ _ _ _ _ _ _ _ _ _ _
   | exact tontineref1_Chain.mono _ _
   | exact LeO.none _
   | refine LeO.ite ?_ ?_
   | refine LeO.bind ?_ (fun _ => ?_)
set_option maxHeartbeats 8000000 in
set_option maxRecDepth 100000 in
theorem tontineref1_routes.calls (k : Nat) (a0_0 : Int) (a0_1 : Int) (A0_2 : Option Addr) (c0_2 : Nat) (l0_2 : List (List Int)) (A0_3 : Option Addr) (c0_3 : Nat) (l0_3 : List (S44)) (a1 : Int) (r : Bool) (w : World) (hr0_2 : Kd.C (Kd.slice 3 (Kd.int .i64)) w A0_2 l0_2.length l0_2) (hc0_2 : l0_2.length ≤ c0_2) (hr0_3 : Kd.C k44 w A0_3 l0_3.length l0_3) (hc0_3 : l0_3.length ≤ c0_3) (h : tontineref1_routes.f k a0_0 a0_1 l0_2 l0_3 a1 = some r) :
    Calls Try.prog 44 #[.agg #[.int .i64 a0_0, .int .i64 a0_1, .slice A0_2 l0_2.length c0_2, .slice A0_3 l0_3.length c0_3], .int .i64 a1] w fun e w' => e = .returned (.bool r) ∧ Below w.heap.size w w' := by
 have hu25 := Try.underlying25; have hu44 := Try.underlying44; have hu42 := Try.underlying42
 have HR0_2 := Goto.m0 hr0_2
 have HC0_2 := Goto.m0 hc0_2
 clear hr0_2 hc0_2
 have HR0_3 := Goto.m0 hr0_3
 have HC0_3 := Goto.m0 hc0_3
 clear hr0_3 hc0_3
 have HB := Goto.m0 (Below.refl w.heap.size w)
 have H : (if 0 ≤ a1 then (if a1 < (l0_3.length : Int) then (if (((rd_T44 l0_3 a1).f1).length : Int) > 3 then (tontineref1_routes.j0 k true a0_0 a0_1 l0_2 l0_3 ((rd_T44 l0_3 a1).f0.f0) ((rd_T44 l0_3 a1).f0.f1) ((rd_T44 l0_3 a1).f1) ((rd_T44 l0_3 a1).f2) ((rd_T44 l0_3 a1).f3) ((rd_T44 l0_3 a1).f4) ((rd_T44 l0_3 a1).f5) ((rd_T44 l0_3 a1).f6) ((rd_T44 l0_3 a1).f7) ((rd_T44 l0_3 a1).f8)) else (if ((rd_T44 l0_3 a1).f3) < (-1) then (tontineref1_routes.j0 k true a0_0 a0_1 l0_2 l0_3 ((rd_T44 l0_3 a1).f0.f0) ((rd_T44 l0_3 a1).f0.f1) ((rd_T44 l0_3 a1).f1) ((rd_T44 l0_3 a1).f2) ((rd_T44 l0_3 a1).f3) ((rd_T44 l0_3 a1).f4) ((rd_T44 l0_3 a1).f5) ((rd_T44 l0_3 a1).f6) ((rd_T44 l0_3 a1).f7) ((rd_T44 l0_3 a1).f8)) else (if ((rd_T44 l0_3 a1).f3) ≥ (l0_3.length : Int) then (tontineref1_routes.j0 k true a0_0 a0_1 l0_2 l0_3 ((rd_T44 l0_3 a1).f0.f0) ((rd_T44 l0_3 a1).f0.f1) ((rd_T44 l0_3 a1).f1) ((rd_T44 l0_3 a1).f2) ((rd_T44 l0_3 a1).f3) ((rd_T44 l0_3 a1).f4) ((rd_T44 l0_3 a1).f5) ((rd_T44 l0_3 a1).f6) ((rd_T44 l0_3 a1).f7) ((rd_T44 l0_3 a1).f8)) else (if ((rd_T44 l0_3 a1).f3) = a1 then (tontineref1_routes.j0 k true a0_0 a0_1 l0_2 l0_3 ((rd_T44 l0_3 a1).f0.f0) ((rd_T44 l0_3 a1).f0.f1) ((rd_T44 l0_3 a1).f1) ((rd_T44 l0_3 a1).f2) ((rd_T44 l0_3 a1).f3) ((rd_T44 l0_3 a1).f4) ((rd_T44 l0_3 a1).f5) ((rd_T44 l0_3 a1).f6) ((rd_T44 l0_3 a1).f7) ((rd_T44 l0_3 a1).f8)) else (if ((rd_T44 l0_3 a1).f3) = (-1) then (tontineref1_routes.j0 k (decide ((((rd_T44 l0_3 a1).f2).length : Int) > 0)) a0_0 a0_1 l0_2 l0_3 ((rd_T44 l0_3 a1).f0.f0) ((rd_T44 l0_3 a1).f0.f1) ((rd_T44 l0_3 a1).f1) ((rd_T44 l0_3 a1).f2) ((rd_T44 l0_3 a1).f3) ((rd_T44 l0_3 a1).f4) ((rd_T44 l0_3 a1).f5) ((rd_T44 l0_3 a1).f6) ((rd_T44 l0_3 a1).f7) ((rd_T44 l0_3 a1).f8)) else (tontineref1_routes.j0 k false a0_0 a0_1 l0_2 l0_3 ((rd_T44 l0_3 a1).f0.f0) ((rd_T44 l0_3 a1).f0.f1) ((rd_T44 l0_3 a1).f1) ((rd_T44 l0_3 a1).f2) ((rd_T44 l0_3 a1).f3) ((rd_T44 l0_3 a1).f4) ((rd_T44 l0_3 a1).f5) ((rd_T44 l0_3 a1).f6) ((rd_T44 l0_3 a1).f7) ((rd_T44 l0_3 a1).f8))))))) else (none)) else (none)) = some r := h
 clear h
 by_cases c3 : 0 ≤ a1
 ·
  rw [if_pos c3] at H
  have c3b0 : decide (0 ≤ a1) = true := decide_eq_true c3
  clear c3
  by_cases c4 : a1 < (l0_3.length : Int)
  ·
   rw [if_pos c4] at H
   have c4b0 : decide (a1 < (l0_3.length : Int)) = true := decide_eq_true c4
   clear c4
   have HC5 := Goto.m0 H
   clear H
   go_enter Try.func44, Try.ntmps44
   go_upto_region 2 with (first | ((with_reducible refine gate_dst (N := 2) rfl ?_); (try (refine gate_guard (by rfl) ?_; dsimp only)); refine box_event ?hg (N := 2) ?hd (cs := #[.int .i64 a0_0, .int .i64 a0_1, .slice A0_2 l0_2.length c0_2, .slice A0_3 l0_3.length c0_3]) (t := 25) ?hr ?_; (case hd => rfl); (case hg => rfl); (case hr => first | (go_simp; done) | (go_simp; rfl)); intro gb125 hg w6 hbox hb; have BK125 := Goto.m0 (hbox); have GW125 := Goto.gs HB hg; have GE125 := Goto.gs HB hg; replace HB := Goto.hs HB hb; clear hb hbox hg; have hcz7_0 := Goto.bc0 BK125; have hcz7_1 := Goto.bc1 BK125; have hcz7_2 := Goto.bc2 BK125; have hcz7_3 := Goto.bc3 BK125; have hfz7_0 := blk_frozen BK125.out 0; have hfz7_1 := blk_frozen BK125.out 1; have hfz7_2 := blk_frozen BK125.out 2; have hfz7_3 := blk_frozen BK125.out 3; have p126 : 0 ≤ (a1 : Int) := of_decide_eq_true (by first | (with_reducible assumption) | assumption); have q126 : a1 < (l0_3.length : Int) := of_decide_eq_true (by first | (with_reducible assumption) | assumption); obtain ⟨ad126, A126_2, c126_2, A126_3, c126_3, e126, hx126_0, hx126_1, hx126_2, hx126_3, hx126_4, hx126_5, hx126_6, hx126_7, hx126_8, hx126_9, hl126_2, hi126_2, hl126_3, hi126_3⟩ := at_T44 HR0_3.out a1 p126 q126; cases e126; replace hx126_0 := Goto.kc HB.out hx126_0; replace hx126_1 := Goto.kc HB.out hx126_1; replace hx126_2 := Goto.kc HB.out hx126_2; replace hx126_3 := Goto.kc HB.out hx126_3; replace hx126_4 := Goto.kc HB.out hx126_4; replace hx126_5 := Goto.kc HB.out hx126_5; replace hx126_6 := Goto.kc HB.out hx126_6; replace hx126_7 := Goto.kc HB.out hx126_7; replace hx126_8 := Goto.kc HB.out hx126_8; replace hx126_9 := Goto.kc HB.out hx126_9; have HR126_2 := Goto.m0 hi126_2; have HC126_2 := Goto.m0 hl126_2; clear hi126_2 hl126_2; have HR126_3 := Goto.m0 hi126_3; have HC126_3 := Goto.m0 hl126_3; clear hi126_3 hl126_3; replace p126 := eq_true p126; replace q126 := eq_true q126) | ((with_reducible refine gate_dst (N := 5) rfl ?_); (try (refine gate_guard (by rfl) ?_; dsimp only)); refine box_event ?hg (N := 5) ?hd (cs := #[.int .i64 0, .int .u64 0, .slice none 0 0, .slice none 0 0, .int .i64 0, .int .i64 0, .int .i64 0, .int .i64 0, .int .i64 0, .int .i64 0]) (t := 44) ?hr ?_; (case hd => rfl); (case hg => rfl); (case hr => first | (go_simp; done) | (go_simp; rfl)); intro gb127 hg w8 hbox hb; have BK127 := Goto.m0 (hbox); have GW127 := Goto.gs HB hg; have GE127 := Goto.gs HB hg; have NB125_127 := Goto.nl BK125 hg; have NB127_125 := Goto.nr BK125 hg; replace BK125 := Goto.bb BK125 hb; replace HB := Goto.hs HB hb; clear hb hbox hg; have hnb9 := NB127_125.out; have hnc9 := NB125_127.out; have hcz10_0 := Goto.bc0 BK127; have hcz10_1 := Goto.bc1 BK127; have hcz10_2 := Goto.bc2 BK127; have hcz10_3 := Goto.bc3 BK127; have hcz10_4 := Goto.bc4 BK127; have hcz10_5 := Goto.bc5 BK127; have hcz10_6 := Goto.bc6 BK127; have hcz10_7 := Goto.bc7 BK127; have hcz10_8 := Goto.bc8 BK127; have hcz10_9 := Goto.bc9 BK127; have hfz10_0 := blk_frozen BK127.out 0; have hfz10_1 := blk_frozen BK127.out 1; have hfz10_2 := blk_frozen BK127.out 2; have hfz10_3 := blk_frozen BK127.out 3; have hfz10_4 := blk_frozen BK127.out 4; have hfz10_5 := blk_frozen BK127.out 5; have hfz10_6 := blk_frozen BK127.out 6; have hfz10_7 := blk_frozen BK127.out 7; have hfz10_8 := blk_frozen BK127.out 8; have hfz10_9 := blk_frozen BK127.out 9))
   repeat (go_quiet (first | ((with_reducible refine gate_dst (N := 2) rfl ?_); (try (refine gate_guard (by rfl) ?_; dsimp only)); refine box_event ?hg (N := 2) ?hd (cs := #[.int .i64 a0_0, .int .i64 a0_1, .slice A0_2 l0_2.length c0_2, .slice A0_3 l0_3.length c0_3]) (t := 25) ?hr ?_; (case hd => rfl); (case hg => rfl); (case hr => first | (go_simp; done) | (go_simp; rfl)); intro gb125 hg w6 hbox hb; have BK125 := Goto.m0 (hbox); have GW125 := Goto.gs HB hg; have GE125 := Goto.gs HB hg; replace HB := Goto.hs HB hb; clear hb hbox hg; have hcz7_0 := Goto.bc0 BK125; have hcz7_1 := Goto.bc1 BK125; have hcz7_2 := Goto.bc2 BK125; have hcz7_3 := Goto.bc3 BK125; have hfz7_0 := blk_frozen BK125.out 0; have hfz7_1 := blk_frozen BK125.out 1; have hfz7_2 := blk_frozen BK125.out 2; have hfz7_3 := blk_frozen BK125.out 3; have p126 : 0 ≤ (a1 : Int) := of_decide_eq_true (by first | (with_reducible assumption) | assumption); have q126 : a1 < (l0_3.length : Int) := of_decide_eq_true (by first | (with_reducible assumption) | assumption); obtain ⟨ad126, A126_2, c126_2, A126_3, c126_3, e126, hx126_0, hx126_1, hx126_2, hx126_3, hx126_4, hx126_5, hx126_6, hx126_7, hx126_8, hx126_9, hl126_2, hi126_2, hl126_3, hi126_3⟩ := at_T44 HR0_3.out a1 p126 q126; cases e126; replace hx126_0 := Goto.kc HB.out hx126_0; replace hx126_1 := Goto.kc HB.out hx126_1; replace hx126_2 := Goto.kc HB.out hx126_2; replace hx126_3 := Goto.kc HB.out hx126_3; replace hx126_4 := Goto.kc HB.out hx126_4; replace hx126_5 := Goto.kc HB.out hx126_5; replace hx126_6 := Goto.kc HB.out hx126_6; replace hx126_7 := Goto.kc HB.out hx126_7; replace hx126_8 := Goto.kc HB.out hx126_8; replace hx126_9 := Goto.kc HB.out hx126_9; have HR126_2 := Goto.m0 hi126_2; have HC126_2 := Goto.m0 hl126_2; clear hi126_2 hl126_2; have HR126_3 := Goto.m0 hi126_3; have HC126_3 := Goto.m0 hl126_3; clear hi126_3 hl126_3; replace p126 := eq_true p126; replace q126 := eq_true q126) | ((with_reducible refine gate_dst (N := 5) rfl ?_); (try (refine gate_guard (by rfl) ?_; dsimp only)); refine box_event ?hg (N := 5) ?hd (cs := #[.int .i64 0, .int .u64 0, .slice none 0 0, .slice none 0 0, .int .i64 0, .int .i64 0, .int .i64 0, .int .i64 0, .int .i64 0, .int .i64 0]) (t := 44) ?hr ?_; (case hd => rfl); (case hg => rfl); (case hr => first | (go_simp; done) | (go_simp; rfl)); intro gb127 hg w8 hbox hb; have BK127 := Goto.m0 (hbox); have GW127 := Goto.gs HB hg; have GE127 := Goto.gs HB hg; have NB125_127 := Goto.nl BK125 hg; have NB127_125 := Goto.nr BK125 hg; replace BK125 := Goto.bb BK125 hb; replace HB := Goto.hs HB hb; clear hb hbox hg; have hnb9 := NB127_125.out; have hnc9 := NB125_127.out; have hcz10_0 := Goto.bc0 BK127; have hcz10_1 := Goto.bc1 BK127; have hcz10_2 := Goto.bc2 BK127; have hcz10_3 := Goto.bc3 BK127; have hcz10_4 := Goto.bc4 BK127; have hcz10_5 := Goto.bc5 BK127; have hcz10_6 := Goto.bc6 BK127; have hcz10_7 := Goto.bc7 BK127; have hcz10_8 := Goto.bc8 BK127; have hcz10_9 := Goto.bc9 BK127; have hfz10_0 := blk_frozen BK127.out 0; have hfz10_1 := blk_frozen BK127.out 1; have hfz10_2 := blk_frozen BK127.out 2; have hfz10_3 := blk_frozen BK127.out 3; have hfz10_4 := blk_frozen BK127.out 4; have hfz10_5 := blk_frozen BK127.out 5; have hfz10_6 := blk_frozen BK127.out 6; have hfz10_7 := blk_frozen BK127.out 7; have hfz10_8 := blk_frozen BK127.out 8; have hfz10_9 := blk_frozen BK127.out 9)); go_upto_region 2 with (first | ((with_reducible refine gate_dst (N := 2) rfl ?_); (try (refine gate_guard (by rfl) ?_; dsimp only)); refine box_event ?hg (N := 2) ?hd (cs := #[.int .i64 a0_0, .int .i64 a0_1, .slice A0_2 l0_2.length c0_2, .slice A0_3 l0_3.length c0_3]) (t := 25) ?hr ?_; (case hd => rfl); (case hg => rfl); (case hr => first | (go_simp; done) | (go_simp; rfl)); intro gb125 hg w6 hbox hb; have BK125 := Goto.m0 (hbox); have GW125 := Goto.gs HB hg; have GE125 := Goto.gs HB hg; replace HB := Goto.hs HB hb; clear hb hbox hg; have hcz7_0 := Goto.bc0 BK125; have hcz7_1 := Goto.bc1 BK125; have hcz7_2 := Goto.bc2 BK125; have hcz7_3 := Goto.bc3 BK125; have hfz7_0 := blk_frozen BK125.out 0; have hfz7_1 := blk_frozen BK125.out 1; have hfz7_2 := blk_frozen BK125.out 2; have hfz7_3 := blk_frozen BK125.out 3; have p126 : 0 ≤ (a1 : Int) := of_decide_eq_true (by first | (with_reducible assumption) | assumption); have q126 : a1 < (l0_3.length : Int) := of_decide_eq_true (by first | (with_reducible assumption) | assumption); obtain ⟨ad126, A126_2, c126_2, A126_3, c126_3, e126, hx126_0, hx126_1, hx126_2, hx126_3, hx126_4, hx126_5, hx126_6, hx126_7, hx126_8, hx126_9, hl126_2, hi126_2, hl126_3, hi126_3⟩ := at_T44 HR0_3.out a1 p126 q126; cases e126; replace hx126_0 := Goto.kc HB.out hx126_0; replace hx126_1 := Goto.kc HB.out hx126_1; replace hx126_2 := Goto.kc HB.out hx126_2; replace hx126_3 := Goto.kc HB.out hx126_3; replace hx126_4 := Goto.kc HB.out hx126_4; replace hx126_5 := Goto.kc HB.out hx126_5; replace hx126_6 := Goto.kc HB.out hx126_6; replace hx126_7 := Goto.kc HB.out hx126_7; replace hx126_8 := Goto.kc HB.out hx126_8; replace hx126_9 := Goto.kc HB.out hx126_9; have HR126_2 := Goto.m0 hi126_2; have HC126_2 := Goto.m0 hl126_2; clear hi126_2 hl126_2; have HR126_3 := Goto.m0 hi126_3; have HC126_3 := Goto.m0 hl126_3; clear hi126_3 hl126_3; replace p126 := eq_true p126; replace q126 := eq_true q126) | ((with_reducible refine gate_dst (N := 5) rfl ?_); (try (refine gate_guard (by rfl) ?_; dsimp only)); refine box_event ?hg (N := 5) ?hd (cs := #[.int .i64 0, .int .u64 0, .slice none 0 0, .slice none 0 0, .int .i64 0, .int .i64 0, .int .i64 0, .int .i64 0, .int .i64 0, .int .i64 0]) (t := 44) ?hr ?_; (case hd => rfl); (case hg => rfl); (case hr => first | (go_simp; done) | (go_simp; rfl)); intro gb127 hg w8 hbox hb; have BK127 := Goto.m0 (hbox); have GW127 := Goto.gs HB hg; have GE127 := Goto.gs HB hg; have NB125_127 := Goto.nl BK125 hg; have NB127_125 := Goto.nr BK125 hg; replace BK125 := Goto.bb BK125 hb; replace HB := Goto.hs HB hb; clear hb hbox hg; have hnb9 := NB127_125.out; have hnc9 := NB125_127.out; have hcz10_0 := Goto.bc0 BK127; have hcz10_1 := Goto.bc1 BK127; have hcz10_2 := Goto.bc2 BK127; have hcz10_3 := Goto.bc3 BK127; have hcz10_4 := Goto.bc4 BK127; have hcz10_5 := Goto.bc5 BK127; have hcz10_6 := Goto.bc6 BK127; have hcz10_7 := Goto.bc7 BK127; have hcz10_8 := Goto.bc8 BK127; have hcz10_9 := Goto.bc9 BK127; have hfz10_0 := blk_frozen BK127.out 0; have hfz10_1 := blk_frozen BK127.out 1; have hfz10_2 := blk_frozen BK127.out 2; have hfz10_3 := blk_frozen BK127.out 3; have hfz10_4 := blk_frozen BK127.out 4; have hfz10_5 := blk_frozen BK127.out 5; have hfz10_6 := blk_frozen BK127.out 6; have hfz10_7 := blk_frozen BK127.out 7; have hfz10_8 := blk_frozen BK127.out 8; have hfz10_9 := blk_frozen BK127.out 9)))
   (try simp only [Act.put, List.setIfInBounds_toArray, List.set_cons_zero, List.set_cons_succ])
   go_cut [50] (fun v50 wc => ∃ (kq : Nat) (x50_4 : Bool), v50 = .bool x50_4 ∧ Aside0 (tontineref1_routes.j0 kq x50_4 a0_0 a0_1 l0_2 l0_3 ((rd_T44 l0_3 a1).f0.f0) ((rd_T44 l0_3 a1).f0.f1) ((rd_T44 l0_3 a1).f1) ((rd_T44 l0_3 a1).f2) ((rd_T44 l0_3 a1).f3) ((rd_T44 l0_3 a1).f4) ((rd_T44 l0_3 a1).f5) ((rd_T44 l0_3 a1).f6) ((rd_T44 l0_3 a1).f7) ((rd_T44 l0_3 a1).f8) = some r) ∧ Aside0 (kq ≤ k) ∧ Aside0 (wc.heap[gb125]? = some (.cells #[.int .i64 a0_0, .int .i64 a0_1, (.slice A0_2 l0_2.length c0_2), (.slice (some ad126) l0_3.length c0_3)] 25 (0, 0))) ∧ Aside0 (wc.heap[gb127]? = some (.cells #[.int .i64 ((rd_T44 l0_3 a1).f0.f0), .int .u64 ((rd_T44 l0_3 a1).f0.f1), (.slice A126_2 ((rd_T44 l0_3 a1).f1).length c126_2), (.slice A126_3 ((rd_T44 l0_3 a1).f2).length c126_3), .int .i64 ((rd_T44 l0_3 a1).f3), .int .i64 ((rd_T44 l0_3 a1).f4), .int .i64 ((rd_T44 l0_3 a1).f5), .int .i64 ((rd_T44 l0_3 a1).f6), .int .i64 ((rd_T44 l0_3 a1).f7), .int .i64 ((rd_T44 l0_3 a1).f8)] 44 (0, 0))) ∧ Aside0 (Below w.heap.size w wc))
   case first =>
    have H := HC5.out; clear HC5
    by_cases c11 : (((rd_T44 l0_3 a1).f1).length : Int) > 3
    ·
     rw [if_pos c11] at H
     have c11b0 : decide (3 < (((rd_T44 l0_3 a1).f1).length : Int)) = true := decide_eq_true c11
     have c11b1 : decide (3 < ((rd_T44 l0_3 a1).f1).length) = true := decide_eq_true (by omega)
     clear c11
     (first | rw [c11b0] | (simp only [i64_w, i32_w]; rw [c11b0]) | skip)
     have H' := Goto.m0 H
     clear H; have hnb12 := NB127_125.out; have hnc12 := NB125_127.out; have hcz13_0 := Goto.bc0 BK127; have hcz13_1 := Goto.bc1 BK127; have hcz13_2 := Goto.bc2 BK127; have hcz13_3 := Goto.bc3 BK127; have hcz13_4 := Goto.bc4 BK127; have hcz13_5 := Goto.bc5 BK127; have hcz13_6 := Goto.bc6 BK127; have hcz13_7 := Goto.bc7 BK127; have hcz13_8 := Goto.bc8 BK127; have hcz13_9 := Goto.bc9 BK127; have hfz13_0 := blk_frozen BK127.out 0; have hfz13_1 := blk_frozen BK127.out 1; have hfz13_2 := blk_frozen BK127.out 2; have hfz13_3 := blk_frozen BK127.out 3; have hfz13_4 := blk_frozen BK127.out 4; have hfz13_5 := blk_frozen BK127.out 5; have hfz13_6 := blk_frozen BK127.out 6; have hfz13_7 := blk_frozen BK127.out 7; have hfz13_8 := blk_frozen BK127.out 8; have hfz13_9 := blk_frozen BK127.out 9
     go_wp2
     repeat (go_quiet (fail); try go_wp2)
     go_meet
     case rel => exact ⟨_, (true), (by first | rfl | (simp; done) | (simp [*]; done)), H', ⟨by first | omega | exact Nat.le_refl _⟩, ⟨Goto.bx BK125⟩, ⟨Goto.bx BK127⟩, ⟨Goto.hx HB⟩⟩
    ·
     rw [if_neg c11] at H
     have c11b0 : decide (3 < (((rd_T44 l0_3 a1).f1).length : Int)) = false := decide_eq_false c11
     have c11b1 : decide (3 < ((rd_T44 l0_3 a1).f1).length) = false := decide_eq_false (by omega)
     clear c11
     (first | rw [c11b0] | (simp only [i64_w, i32_w]; rw [c11b0]) | skip)
     by_cases c14 : ((rd_T44 l0_3 a1).f3) < (-1)
     ·
      rw [if_pos c14] at H
      have c14b0 : decide (((rd_T44 l0_3 a1).f3) < (-1)) = true := decide_eq_true c14
      clear c14
      have H' := Goto.m0 H
      clear H; have hnb15 := NB127_125.out; have hnc15 := NB125_127.out; have hcz16_0 := Goto.bc0 BK127; have hcz16_1 := Goto.bc1 BK127; have hcz16_2 := Goto.bc2 BK127; have hcz16_3 := Goto.bc3 BK127; have hcz16_4 := Goto.bc4 BK127; have hcz16_5 := Goto.bc5 BK127; have hcz16_6 := Goto.bc6 BK127; have hcz16_7 := Goto.bc7 BK127; have hcz16_8 := Goto.bc8 BK127; have hcz16_9 := Goto.bc9 BK127; have hfz16_0 := blk_frozen BK127.out 0; have hfz16_1 := blk_frozen BK127.out 1; have hfz16_2 := blk_frozen BK127.out 2; have hfz16_3 := blk_frozen BK127.out 3; have hfz16_4 := blk_frozen BK127.out 4; have hfz16_5 := blk_frozen BK127.out 5; have hfz16_6 := blk_frozen BK127.out 6; have hfz16_7 := blk_frozen BK127.out 7; have hfz16_8 := blk_frozen BK127.out 8; have hfz16_9 := blk_frozen BK127.out 9
      go_wp2
      repeat (go_quiet (fail); try go_wp2)
      go_meet
      case rel => exact ⟨_, (true), (by first | rfl | (simp; done) | (simp [*]; done)), H', ⟨by first | omega | exact Nat.le_refl _⟩, ⟨Goto.bx BK125⟩, ⟨Goto.bx BK127⟩, ⟨Goto.hx HB⟩⟩
     ·
      rw [if_neg c14] at H
      have c14b0 : decide (((rd_T44 l0_3 a1).f3) < (-1)) = false := decide_eq_false c14
      clear c14
      by_cases c17 : ((rd_T44 l0_3 a1).f3) ≥ (l0_3.length : Int)
      ·
       rw [if_pos c17] at H
       have c17b0 : decide ((l0_3.length : Int) ≤ ((rd_T44 l0_3 a1).f3)) = true := decide_eq_true c17
       clear c17
       have H' := Goto.m0 H
       clear H; have hnb18 := NB127_125.out; have hnc18 := NB125_127.out; have hcz19_0 := Goto.bc0 BK127; have hcz19_1 := Goto.bc1 BK127; have hcz19_2 := Goto.bc2 BK127; have hcz19_3 := Goto.bc3 BK127; have hcz19_4 := Goto.bc4 BK127; have hcz19_5 := Goto.bc5 BK127; have hcz19_6 := Goto.bc6 BK127; have hcz19_7 := Goto.bc7 BK127; have hcz19_8 := Goto.bc8 BK127; have hcz19_9 := Goto.bc9 BK127; have hfz19_0 := blk_frozen BK127.out 0; have hfz19_1 := blk_frozen BK127.out 1; have hfz19_2 := blk_frozen BK127.out 2; have hfz19_3 := blk_frozen BK127.out 3; have hfz19_4 := blk_frozen BK127.out 4; have hfz19_5 := blk_frozen BK127.out 5; have hfz19_6 := blk_frozen BK127.out 6; have hfz19_7 := blk_frozen BK127.out 7; have hfz19_8 := blk_frozen BK127.out 8; have hfz19_9 := blk_frozen BK127.out 9; have hcz20_0 := Goto.bc0 BK125; have hcz20_1 := Goto.bc1 BK125; have hcz20_2 := Goto.bc2 BK125
       have hcz20_3 := Goto.bc3 BK125
       have hfz20_0 := blk_frozen BK125.out 0; have hfz20_1 := blk_frozen BK125.out 1; have hfz20_2 := blk_frozen BK125.out 2; have hfz20_3 := blk_frozen BK125.out 3
       go_wp2
       repeat (go_quiet (fail); try go_wp2)
       go_meet
       case rel => exact ⟨_, (true), (by first | rfl | (simp; done) | (simp [*]; done)), H', ⟨by first | omega | exact Nat.le_refl _⟩, ⟨Goto.bx BK125⟩, ⟨Goto.bx BK127⟩, ⟨Goto.hx HB⟩⟩
      ·
       rw [if_neg c17] at H
       have c17b0 : decide ((l0_3.length : Int) ≤ ((rd_T44 l0_3 a1).f3)) = false := decide_eq_false c17
       clear c17
       by_cases c21 : ((rd_T44 l0_3 a1).f3) = a1
       ·
        rw [if_pos c21] at H
        have c21b0 : (((rd_T44 l0_3 a1).f3) == a1) = true := beq_iff_eq.mpr c21
        have c21b1 : (((rd_T44 l0_3 a1).f3) != a1) = false := bne_eq_false_iff_eq.mpr c21
        clear c21
        have H' := Goto.m0 H
        clear H; have hnb22 := NB127_125.out; have hnc22 := NB125_127.out; have hcz23_0 := Goto.bc0 BK127; have hcz23_1 := Goto.bc1 BK127; have hcz23_2 := Goto.bc2 BK127; have hcz23_3 := Goto.bc3 BK127; have hcz23_4 := Goto.bc4 BK127; have hcz23_5 := Goto.bc5 BK127; have hcz23_6 := Goto.bc6 BK127; have hcz23_7 := Goto.bc7 BK127; have hcz23_8 := Goto.bc8 BK127; have hcz23_9 := Goto.bc9 BK127; have hfz23_0 := blk_frozen BK127.out 0; have hfz23_1 := blk_frozen BK127.out 1; have hfz23_2 := blk_frozen BK127.out 2; have hfz23_3 := blk_frozen BK127.out 3; have hfz23_4 := blk_frozen BK127.out 4; have hfz23_5 := blk_frozen BK127.out 5; have hfz23_6 := blk_frozen BK127.out 6; have hfz23_7 := blk_frozen BK127.out 7; have hfz23_8 := blk_frozen BK127.out 8; have hfz23_9 := blk_frozen BK127.out 9; have hcz24_0 := Goto.bc0 BK125; have hcz24_1 := Goto.bc1 BK125; have hcz24_2 := Goto.bc2 BK125
        have hcz24_3 := Goto.bc3 BK125
        have hfz24_0 := blk_frozen BK125.out 0; have hfz24_1 := blk_frozen BK125.out 1; have hfz24_2 := blk_frozen BK125.out 2; have hfz24_3 := blk_frozen BK125.out 3
        go_wp2
        repeat (go_quiet (fail); try go_wp2)
        go_meet
        case rel => exact ⟨_, (true), (by first | rfl | (simp; done) | (simp [*]; done)), H', ⟨by first | omega | exact Nat.le_refl _⟩, ⟨Goto.bx BK125⟩, ⟨Goto.bx BK127⟩, ⟨Goto.hx HB⟩⟩
       ·
        rw [if_neg c21] at H
        have c21b0 : (((rd_T44 l0_3 a1).f3) == a1) = false := beq_eq_false_iff_ne.mpr c21
        have c21b1 : (((rd_T44 l0_3 a1).f3) != a1) = true := bne_iff_ne.mpr c21
        by_cases c25 : ((rd_T44 l0_3 a1).f3) = (-1)
        ·
         rw [if_pos c25] at H
         have c25b0 : (((rd_T44 l0_3 a1).f3) == (-1)) = true := beq_iff_eq.mpr c25
         have c25b1 : (((rd_T44 l0_3 a1).f3) != (-1)) = false := bne_eq_false_iff_eq.mpr c25
         clear c25
         have H' := Goto.m0 H
         clear H; have hnb26 := NB127_125.out; have hnc26 := NB125_127.out; have hcz27_0 := Goto.bc0 BK127; have hcz27_1 := Goto.bc1 BK127; have hcz27_2 := Goto.bc2 BK127; have hcz27_3 := Goto.bc3 BK127; have hcz27_4 := Goto.bc4 BK127; have hcz27_5 := Goto.bc5 BK127; have hcz27_6 := Goto.bc6 BK127; have hcz27_7 := Goto.bc7 BK127; have hcz27_8 := Goto.bc8 BK127; have hcz27_9 := Goto.bc9 BK127; have hfz27_0 := blk_frozen BK127.out 0; have hfz27_1 := blk_frozen BK127.out 1; have hfz27_2 := blk_frozen BK127.out 2; have hfz27_3 := blk_frozen BK127.out 3; have hfz27_4 := blk_frozen BK127.out 4; have hfz27_5 := blk_frozen BK127.out 5; have hfz27_6 := blk_frozen BK127.out 6; have hfz27_7 := blk_frozen BK127.out 7; have hfz27_8 := blk_frozen BK127.out 8; have hfz27_9 := blk_frozen BK127.out 9; have hcz28_0 := Goto.bc0 BK125; have hcz28_1 := Goto.bc1 BK125; have hcz28_2 := Goto.bc2 BK125
         have hcz28_3 := Goto.bc3 BK125
         have hfz28_0 := blk_frozen BK125.out 0; have hfz28_1 := blk_frozen BK125.out 1; have hfz28_2 := blk_frozen BK125.out 2; have hfz28_3 := blk_frozen BK125.out 3
         go_wp2
         repeat (go_quiet (fail); try go_wp2)
         go_meet
         case rel => exact ⟨_, (decide ((((rd_T44 l0_3 a1).f2).length : Int) > 0)), (by first | rfl | (simp; done) | (simp [*]; done)), H', ⟨by first | omega | exact Nat.le_refl _⟩, ⟨Goto.bx BK125⟩, ⟨Goto.bx BK127⟩, ⟨Goto.hx HB⟩⟩
        ·
         rw [if_neg c25] at H
         have c25b0 : (((rd_T44 l0_3 a1).f3) == (-1)) = false := beq_eq_false_iff_ne.mpr c25
         have c25b1 : (((rd_T44 l0_3 a1).f3) != (-1)) = true := bne_iff_ne.mpr c25
         have H' := Goto.m0 H
         clear H; have hnb29 := NB127_125.out; have hnc29 := NB125_127.out; have hcz30_0 := Goto.bc0 BK127; have hcz30_1 := Goto.bc1 BK127; have hcz30_2 := Goto.bc2 BK127; have hcz30_3 := Goto.bc3 BK127; have hcz30_4 := Goto.bc4 BK127; have hcz30_5 := Goto.bc5 BK127; have hcz30_6 := Goto.bc6 BK127; have hcz30_7 := Goto.bc7 BK127; have hcz30_8 := Goto.bc8 BK127; have hcz30_9 := Goto.bc9 BK127; have hfz30_0 := blk_frozen BK127.out 0; have hfz30_1 := blk_frozen BK127.out 1; have hfz30_2 := blk_frozen BK127.out 2; have hfz30_3 := blk_frozen BK127.out 3; have hfz30_4 := blk_frozen BK127.out 4; have hfz30_5 := blk_frozen BK127.out 5; have hfz30_6 := blk_frozen BK127.out 6; have hfz30_7 := blk_frozen BK127.out 7; have hfz30_8 := blk_frozen BK127.out 8; have hfz30_9 := blk_frozen BK127.out 9; have hcz31_0 := Goto.bc0 BK125; have hcz31_1 := Goto.bc1 BK125; have hcz31_2 := Goto.bc2 BK125
         have hcz31_3 := Goto.bc3 BK125
         have hfz31_0 := blk_frozen BK125.out 0; have hfz31_1 := blk_frozen BK125.out 1; have hfz31_2 := blk_frozen BK125.out 2; have hfz31_3 := blk_frozen BK125.out 3
         go_wp2
         repeat (go_quiet (fail); try go_wp2)
         go_meet
         case rel => exact ⟨_, (false), (by first | rfl | (simp; done) | (simp [*]; done)), H', ⟨by first | omega | exact Nat.le_refl _⟩, ⟨Goto.bx BK125⟩, ⟨Goto.bx BK127⟩, ⟨Goto.hx HB⟩⟩
   case rest =>
    clear HC5; try clear c1; try clear p1; try clear q1; try clear hx1; try clear c2; try clear p2; try clear c3; try clear c3b0; try clear c4; try clear c4b0; try clear c9; try clear c11; try clear c11b0; try clear c11b1; try clear c12; try clear p12; try clear q12; try clear hx12; try clear c14; try clear c14b0; try clear c15; try clear c17; try clear c17b0; try clear c18; try clear c21; try clear c21b0; try clear c21b1; try clear c22; try clear c25; try clear c25b0; try clear c25b1; try clear c26; try clear c29; try clear hcz10_0; try clear hcz10_1; try clear hcz10_2; try clear hcz10_3; try clear hcz10_4; try clear hcz10_5; try clear hcz10_6; try clear hcz10_7; try clear hcz10_8; try clear hcz10_9; try clear hcz13_0; try clear hcz13_1; try clear hcz13_2; try clear hcz13_3; try clear hcz13_4; try clear hcz13_5; try clear hcz13_6; try clear hcz13_7; try clear hcz13_8; try clear hcz13_9; try clear hcz16_0; try clear hcz16_1; try clear hcz16_2; try clear hcz16_3; try clear hcz16_4; try clear hcz16_5; try clear hcz16_6; try clear hcz16_7; try clear hcz16_8; try clear hcz16_9; try clear hcz19_0; try clear hcz19_1; try clear hcz19_2; try clear hcz19_3; try clear hcz19_4; try clear hcz19_5; try clear hcz19_6; try clear hcz19_7; try clear hcz19_8; try clear hcz19_9; try clear hcz20_0; try clear hcz20_1; try clear hcz20_2; try clear hcz20_3; try clear hcz23_0; try clear hcz23_1; try clear hcz23_2; try clear hcz23_3; try clear hcz23_4; try clear hcz23_5; try clear hcz23_6; try clear hcz23_7; try clear hcz23_8; try clear hcz23_9; try clear hcz24_0; try clear hcz24_1; try clear hcz24_2; try clear hcz24_3; try clear hcz27_0; try clear hcz27_1; try clear hcz27_2; try clear hcz27_3; try clear hcz27_4; try clear hcz27_5; try clear hcz27_6; try clear hcz27_7; try clear hcz27_8; try clear hcz27_9; try clear hcz28_0; try clear hcz28_1; try clear hcz28_2; try clear hcz28_3; try clear hcz30_0; try clear hcz30_1; try clear hcz30_2; try clear hcz30_3; try clear hcz30_4; try clear hcz30_5; try clear hcz30_6; try clear hcz30_7; try clear hcz30_8; try clear hcz30_9; try clear hcz31_0; try clear hcz31_1; try clear hcz31_2; try clear hcz31_3; try clear hcz7_0; try clear hcz7_1; try clear hcz7_2; try clear hcz7_3; try clear hfz10_0; try clear hfz10_1; try clear hfz10_2; try clear hfz10_3; try clear hfz10_4; try clear hfz10_5; try clear hfz10_6; try clear hfz10_7; try clear hfz10_8; try clear hfz10_9; try clear hfz13_0; try clear hfz13_1; try clear hfz13_2; try clear hfz13_3; try clear hfz13_4; try clear hfz13_5; try clear hfz13_6; try clear hfz13_7; try clear hfz13_8; try clear hfz13_9; try clear hfz16_0; try clear hfz16_1; try clear hfz16_2; try clear hfz16_3; try clear hfz16_4; try clear hfz16_5; try clear hfz16_6; try clear hfz16_7; try clear hfz16_8; try clear hfz16_9; try clear hfz19_0; try clear hfz19_1; try clear hfz19_2; try clear hfz19_3; try clear hfz19_4; try clear hfz19_5; try clear hfz19_6; try clear hfz19_7; try clear hfz19_8; try clear hfz19_9; try clear hfz20_0; try clear hfz20_1; try clear hfz20_2; try clear hfz20_3; try clear hfz23_0; try clear hfz23_1; try clear hfz23_2; try clear hfz23_3; try clear hfz23_4; try clear hfz23_5; try clear hfz23_6; try clear hfz23_7; try clear hfz23_8; try clear hfz23_9; try clear hfz24_0; try clear hfz24_1; try clear hfz24_2; try clear hfz24_3; try clear hfz27_0; try clear hfz27_1; try clear hfz27_2; try clear hfz27_3; try clear hfz27_4; try clear hfz27_5; try clear hfz27_6; try clear hfz27_7; try clear hfz27_8; try clear hfz27_9; try clear hfz28_0; try clear hfz28_1; try clear hfz28_2; try clear hfz28_3; try clear hfz30_0; try clear hfz30_1; try clear hfz30_2; try clear hfz30_3; try clear hfz30_4; try clear hfz30_5; try clear hfz30_6; try clear hfz30_7; try clear hfz30_8; try clear hfz30_9; try clear hfz31_0; try clear hfz31_1; try clear hfz31_2; try clear hfz31_3; try clear hfz7_0; try clear hfz7_1; try clear hfz7_2; try clear hfz7_3; try clear hx126_0; try clear hx126_1; try clear hx126_2; try clear hx126_3; try clear hx126_4
    try clear hx126_5; try clear hx126_6; try clear hx126_7; try clear hx126_8; try clear hx126_9; try clear p126; try clear q126
    obtain ⟨kq, x50_4, rfl, HA, HJ4, BK125, BK127, HB⟩ := hcut
    cases kq with
    | zero => exact absurd HA.out (by simp [tontineref1_routes.j0])
    | succ kj4 =>
     have H := HA.out; clear HA
     simp only [tontineref1_routes.j0] at H
     by_cases c32 : x50_4 = true
     ·
      subst c32
      rw [if_pos rfl] at H
      obtain rfl := Option.some.inj H
      go_wp2
      repeat (go_quiet (fail); try go_wp2)
      go_ret
      exact ⟨by first | rfl | (simp [errW_none, errW_some] <;> rfl) | (simp [*, errW_none, errW_some] <;> rfl), by repeat (first | (with_reducible first | exact HB.out | apply below_alloc | apply pw_below_drewN | apply below_drew1 | refine below_set ?_ GE125.out | refine below_set ?_ GE127.out) | exact HB.out)⟩
     ·
      replace c32 := Bool.eq_false_iff.mpr c32
      subst c32
      rw [if_neg (show ¬ (false = true) by decide)] at H
      have H' := Goto.m0 H
      clear H
      go_wp2
      repeat (go_quiet (fail); try go_wp2)
      go_loopg [6] kj4 (fun kq v6 w' => ∃ (x6_2 : Int), v6 = .int .i64 x6_2 ∧ Aside0 (tontineref1_routes.l0 kq x6_2 a0_0 a0_1 l0_2 l0_3 ((rd_T44 l0_3 a1).f0.f0) ((rd_T44 l0_3 a1).f0.f1) ((rd_T44 l0_3 a1).f1) ((rd_T44 l0_3 a1).f2) ((rd_T44 l0_3 a1).f3) ((rd_T44 l0_3 a1).f4) ((rd_T44 l0_3 a1).f5) ((rd_T44 l0_3 a1).f6) ((rd_T44 l0_3 a1).f7) ((rd_T44 l0_3 a1).f8) = some r) ∧ Aside0 (kq ≤ kj4) ∧ Aside0 (w'.heap[gb125]? = some (.cells #[.int .i64 a0_0, .int .i64 a0_1, (.slice A0_2 l0_2.length c0_2), (.slice (some ad126) l0_3.length c0_3)] 25 (0, 0))) ∧ Aside0 (w'.heap[gb127]? = some (.cells #[.int .i64 ((rd_T44 l0_3 a1).f0.f0), .int .u64 ((rd_T44 l0_3 a1).f0.f1), (.slice A126_2 ((rd_T44 l0_3 a1).f1).length c126_2), (.slice A126_3 ((rd_T44 l0_3 a1).f2).length c126_3), .int .i64 ((rd_T44 l0_3 a1).f3), .int .i64 ((rd_T44 l0_3 a1).f4), .int .i64 ((rd_T44 l0_3 a1).f5), .int .i64 ((rd_T44 l0_3 a1).f6), .int .i64 ((rd_T44 l0_3 a1).f7), .int .i64 ((rd_T44 l0_3 a1).f8)] 44 (0, 0))) ∧ Aside0 (Below w.heap.size w w'))
      case atStart => exact ⟨(0), (by first | rfl | (simp; done) | (simp [*]; done)), H', ⟨Nat.le_refl _⟩, ⟨Goto.bx BK125⟩, ⟨Goto.bx BK127⟩, ⟨Goto.hx HB⟩⟩
      case round =>
       clear H'
       try clear c1; try clear p1; try clear q1; try clear hx1; try clear c2; try clear p2; try clear c3; try clear c3b0; try clear c4; try clear c4b0; try clear c9; try clear c11; try clear c11b0; try clear c11b1; try clear c12; try clear p12; try clear q12; try clear hx12; try clear c14; try clear c14b0; try clear c15; try clear c17; try clear c17b0; try clear c18; try clear c21; try clear c21b0; try clear c21b1; try clear c22; try clear c25; try clear c25b0; try clear c25b1; try clear c26; try clear c29; try clear c32; try clear hcz10_0; try clear hcz10_1; try clear hcz10_2; try clear hcz10_3; try clear hcz10_4; try clear hcz10_5; try clear hcz10_6; try clear hcz10_7; try clear hcz10_8; try clear hcz10_9; try clear hcz13_0; try clear hcz13_1; try clear hcz13_2; try clear hcz13_3; try clear hcz13_4; try clear hcz13_5; try clear hcz13_6; try clear hcz13_7; try clear hcz13_8; try clear hcz13_9; try clear hcz16_0; try clear hcz16_1; try clear hcz16_2; try clear hcz16_3; try clear hcz16_4; try clear hcz16_5; try clear hcz16_6; try clear hcz16_7; try clear hcz16_8; try clear hcz16_9; try clear hcz19_0; try clear hcz19_1; try clear hcz19_2; try clear hcz19_3; try clear hcz19_4; try clear hcz19_5; try clear hcz19_6; try clear hcz19_7; try clear hcz19_8; try clear hcz19_9; try clear hcz20_0; try clear hcz20_1; try clear hcz20_2; try clear hcz20_3; try clear hcz23_0; try clear hcz23_1; try clear hcz23_2; try clear hcz23_3; try clear hcz23_4; try clear hcz23_5; try clear hcz23_6; try clear hcz23_7; try clear hcz23_8; try clear hcz23_9; try clear hcz24_0; try clear hcz24_1; try clear hcz24_2; try clear hcz24_3; try clear hcz27_0; try clear hcz27_1; try clear hcz27_2; try clear hcz27_3; try clear hcz27_4; try clear hcz27_5; try clear hcz27_6; try clear hcz27_7; try clear hcz27_8; try clear hcz27_9; try clear hcz28_0; try clear hcz28_1; try clear hcz28_2; try clear hcz28_3; try clear hcz30_0; try clear hcz30_1; try clear hcz30_2; try clear hcz30_3; try clear hcz30_4; try clear hcz30_5; try clear hcz30_6; try clear hcz30_7; try clear hcz30_8; try clear hcz30_9; try clear hcz31_0; try clear hcz31_1; try clear hcz31_2; try clear hcz31_3; try clear hcz7_0; try clear hcz7_1; try clear hcz7_2; try clear hcz7_3; try clear hfz10_0; try clear hfz10_1; try clear hfz10_2; try clear hfz10_3; try clear hfz10_4; try clear hfz10_5; try clear hfz10_6; try clear hfz10_7; try clear hfz10_8; try clear hfz10_9; try clear hfz13_0; try clear hfz13_1; try clear hfz13_2; try clear hfz13_3; try clear hfz13_4; try clear hfz13_5; try clear hfz13_6; try clear hfz13_7; try clear hfz13_8; try clear hfz13_9; try clear hfz16_0; try clear hfz16_1; try clear hfz16_2; try clear hfz16_3; try clear hfz16_4; try clear hfz16_5; try clear hfz16_6; try clear hfz16_7; try clear hfz16_8; try clear hfz16_9; try clear hfz19_0; try clear hfz19_1; try clear hfz19_2; try clear hfz19_3; try clear hfz19_4; try clear hfz19_5; try clear hfz19_6; try clear hfz19_7; try clear hfz19_8; try clear hfz19_9; try clear hfz20_0; try clear hfz20_1; try clear hfz20_2; try clear hfz20_3; try clear hfz23_0; try clear hfz23_1; try clear hfz23_2; try clear hfz23_3; try clear hfz23_4; try clear hfz23_5; try clear hfz23_6; try clear hfz23_7; try clear hfz23_8; try clear hfz23_9; try clear hfz24_0; try clear hfz24_1; try clear hfz24_2; try clear hfz24_3; try clear hfz27_0; try clear hfz27_1; try clear hfz27_2; try clear hfz27_3; try clear hfz27_4; try clear hfz27_5; try clear hfz27_6; try clear hfz27_7; try clear hfz27_8; try clear hfz27_9; try clear hfz28_0; try clear hfz28_1; try clear hfz28_2; try clear hfz28_3; try clear hfz30_0; try clear hfz30_1; try clear hfz30_2; try clear hfz30_3; try clear hfz30_4; try clear hfz30_5; try clear hfz30_6; try clear hfz30_7; try clear hfz30_8; try clear hfz30_9; try clear hfz31_0; try clear hfz31_1; try clear hfz31_2; try clear hfz31_3; try clear hfz7_0; try clear hfz7_1; try clear hfz7_2; try clear hfz7_3; try clear hx126_0; try clear hx126_1; try clear hx126_2; try clear hx126_3
       try clear hx126_4; try clear hx126_5; try clear hx126_6; try clear hx126_7; try clear hx126_8; try clear hx126_9; try clear p1; try clear p12; try clear p126; try clear p2; try clear q1; try clear q12; try clear q126
       obtain ⟨x6_2, rfl, HA, HK2, BK125, BK127, HB⟩ := hrel
       cases gk with
       | zero => exact absurd HA.out (by simp [tontineref1_routes.l0])
       | succ k2 =>
        have H := HA.out; clear HA
        simp only [tontineref1_routes.l0] at H
        by_cases c33 : x6_2 < (((rd_T44 l0_3 a1).f1).length : Int)
        ·
         rw [if_pos c33] at H
         have c33b0 : decide (x6_2 < (((rd_T44 l0_3 a1).f1).length : Int)) = true := decide_eq_true c33
         clear c33
         obtain ⟨y128, hy128⟩ : ∃ y_ : List (S42), y_ = (([(⟨((rd_T44 l0_3 a1).f0.f0), ((rd_T44 l0_3 a1).f0.f1)⟩ : S42)] : List (S42))) := ⟨_, rfl⟩
         replace H : (tontineref1_routes.l1 k2 x6_2 y128 0 a0_0 a0_1 l0_2 l0_3 ((rd_T44 l0_3 a1).f0.f0) ((rd_T44 l0_3 a1).f0.f1) ((rd_T44 l0_3 a1).f1) ((rd_T44 l0_3 a1).f2) ((rd_T44 l0_3 a1).f3) ((rd_T44 l0_3 a1).f4) ((rd_T44 l0_3 a1).f5) ((rd_T44 l0_3 a1).f6) ((rd_T44 l0_3 a1).f7) ((rd_T44 l0_3 a1).f8)) = some r := by first | (rw [hy128]; with_reducible exact H) | (have H2_ := (Option.bind_some _ _).symm.trans H; rw [hy128]; with_reducible exact H2_) | (have H2_ := (Option.bind_some _ _).symm.trans H; with_reducible exact H2_) | with_reducible exact H | (rw [hy128]; exact H) | exact H
         have Ny128 := Goto.m0 hy128
         clear hy128
         have H' := Goto.m0 H
         clear H; have hnb34 := NB127_125.out; have hnc34 := NB125_127.out
         have hcz35_0 := Goto.bc0 BK127
         have hcz35_1 := Goto.bc1 BK127
         have hcz35_2 := Goto.bc2 BK127
         have hcz35_3 := Goto.bc3 BK127
         have hcz35_4 := Goto.bc4 BK127
         have hcz35_5 := Goto.bc5 BK127
         have hcz35_6 := Goto.bc6 BK127
         have hcz35_7 := Goto.bc7 BK127
         have hcz35_8 := Goto.bc8 BK127
         have hcz35_9 := Goto.bc9 BK127
         have hfz35_0 := blk_frozen BK127.out 0; have hfz35_1 := blk_frozen BK127.out 1; have hfz35_2 := blk_frozen BK127.out 2; have hfz35_3 := blk_frozen BK127.out 3; have hfz35_4 := blk_frozen BK127.out 4; have hfz35_5 := blk_frozen BK127.out 5; have hfz35_6 := blk_frozen BK127.out 6; have hfz35_7 := blk_frozen BK127.out 7; have hfz35_8 := blk_frozen BK127.out 8; have hfz35_9 := blk_frozen BK127.out 9
         go_wp2_with (first | ((with_reducible refine gate_dst (N := 60) rfl ?_); (try (refine gate_guard (by rfl) ?_; dsimp only)); refine Kd.R_lit k42 _ 42 ?hg (N := 60) ?hd (xs := ([(⟨((rd_T44 l0_3 a1).f0.f0), ((rd_T44 l0_3 a1).f0.f1)⟩ : S42)] : List (S42))) (inner := [.int .i64 ((rd_T44 l0_3 a1).f0.f0), .int .u64 ((rd_T44 l0_3 a1).f0.f1)]) (ok := fun _ => True) (okp := fun _ => True) ?hr ?hp (fun _ hk => hk) trivial (Below.refl _ _) (Nat.le_refl _) (by simp) ?_; (case hd => rfl); (case hg => rfl); (case hr => first | (go_simp; done) | (go_simp; rfl)); (case hp => exact (Reps.c2 (show Kd.M k42 _ _ _ (⟨((rd_T44 l0_3 a1).f0.f0), ((rd_T44 l0_3 a1).f0.f1)⟩ : S42) [.int .i64 ((rd_T44 l0_3 a1).f0.f0), .int .u64 ((rd_T44 l0_3 a1).f0.f1)] from (k42_mkM _ _ _ (⟨((rd_T44 l0_3 a1).f0.f0), ((rd_T44 l0_3 a1).f0.f1)⟩ : S42) )) (Reps.none _ _))); intro v129 w36 ho37 hb hg_ hnew_; clear hg_ hnew_; (first | rw [← Ny128.out] at ho37 | (simp only [Int.reduceToNat] at ho37; rw [← Ny128.out] at ho37)); have HO130 := Goto.m0 (Kd.R_lower ho37 (below_size (Goto.hx HB))); replace BK125 := Goto.bb BK125 hb; replace BK127 := Goto.bb BK127 hb; replace HB := Goto.hs HB hb; clear hb ho37))
         repeat (go_quiet (first | ((with_reducible refine gate_dst (N := 60) rfl ?_); (try (refine gate_guard (by rfl) ?_; dsimp only)); refine Kd.R_lit k42 _ 42 ?hg (N := 60) ?hd (xs := ([(⟨((rd_T44 l0_3 a1).f0.f0), ((rd_T44 l0_3 a1).f0.f1)⟩ : S42)] : List (S42))) (inner := [.int .i64 ((rd_T44 l0_3 a1).f0.f0), .int .u64 ((rd_T44 l0_3 a1).f0.f1)]) (ok := fun _ => True) (okp := fun _ => True) ?hr ?hp (fun _ hk => hk) trivial (Below.refl _ _) (Nat.le_refl _) (by simp) ?_; (case hd => rfl); (case hg => rfl); (case hr => first | (go_simp; done) | (go_simp; rfl)); (case hp => exact (Reps.c2 (show Kd.M k42 _ _ _ (⟨((rd_T44 l0_3 a1).f0.f0), ((rd_T44 l0_3 a1).f0.f1)⟩ : S42) [.int .i64 ((rd_T44 l0_3 a1).f0.f0), .int .u64 ((rd_T44 l0_3 a1).f0.f1)] from (k42_mkM _ _ _ (⟨((rd_T44 l0_3 a1).f0.f0), ((rd_T44 l0_3 a1).f0.f1)⟩ : S42) )) (Reps.none _ _))); intro v129 w36 ho37 hb hg_ hnew_; clear hg_ hnew_; (first | rw [← Ny128.out] at ho37 | (simp only [Int.reduceToNat] at ho37; rw [← Ny128.out] at ho37)); have HO130 := Goto.m0 (Kd.R_lower ho37 (below_size (Goto.hx HB))); replace BK125 := Goto.bb BK125 hb; replace BK127 := Goto.bb BK127 hb; replace HB := Goto.hs HB hb; clear hb ho37)); try go_wp2_with (first | ((with_reducible refine gate_dst (N := 60) rfl ?_); (try (refine gate_guard (by rfl) ?_; dsimp only)); refine Kd.R_lit k42 _ 42 ?hg (N := 60) ?hd (xs := ([(⟨((rd_T44 l0_3 a1).f0.f0), ((rd_T44 l0_3 a1).f0.f1)⟩ : S42)] : List (S42))) (inner := [.int .i64 ((rd_T44 l0_3 a1).f0.f0), .int .u64 ((rd_T44 l0_3 a1).f0.f1)]) (ok := fun _ => True) (okp := fun _ => True) ?hr ?hp (fun _ hk => hk) trivial (Below.refl _ _) (Nat.le_refl _) (by simp) ?_; (case hd => rfl); (case hg => rfl); (case hr => first | (go_simp; done) | (go_simp; rfl)); (case hp => exact (Reps.c2 (show Kd.M k42 _ _ _ (⟨((rd_T44 l0_3 a1).f0.f0), ((rd_T44 l0_3 a1).f0.f1)⟩ : S42) [.int .i64 ((rd_T44 l0_3 a1).f0.f0), .int .u64 ((rd_T44 l0_3 a1).f0.f1)] from (k42_mkM _ _ _ (⟨((rd_T44 l0_3 a1).f0.f0), ((rd_T44 l0_3 a1).f0.f1)⟩ : S42) )) (Reps.none _ _))); intro v129 w36 ho37 hb hg_ hnew_; clear hg_ hnew_; (first | rw [← Ny128.out] at ho37 | (simp only [Int.reduceToNat] at ho37; rw [← Ny128.out] at ho37)); have HO130 := Goto.m0 (Kd.R_lower ho37 (below_size (Goto.hx HB))); replace BK125 := Goto.bb BK125 hb; replace BK127 := Goto.bb BK127 hb; replace HB := Goto.hs HB hb; clear hb ho37)))
         go_loopg [7, 8] k2 (fun kq v7 v8 w' => ∃ (x7_3 : List (S42)) (x8_3 : Int), v8 = .int .i64 x8_3 ∧ Aside0 (tontineref1_routes.l1 kq x6_2 x7_3 x8_3 a0_0 a0_1 l0_2 l0_3 ((rd_T44 l0_3 a1).f0.f0) ((rd_T44 l0_3 a1).f0.f1) ((rd_T44 l0_3 a1).f1) ((rd_T44 l0_3 a1).f2) ((rd_T44 l0_3 a1).f3) ((rd_T44 l0_3 a1).f4) ((rd_T44 l0_3 a1).f5) ((rd_T44 l0_3 a1).f6) ((rd_T44 l0_3 a1).f7) ((rd_T44 l0_3 a1).f8) = some r) ∧ Aside0 (kq ≤ k2) ∧ Aside0 (Kd.R k42 42 w' w.heap.size (fun _ => True) v7 x7_3) ∧ Aside0 (w'.heap[gb125]? = some (.cells #[.int .i64 a0_0, .int .i64 a0_1, (.slice A0_2 l0_2.length c0_2), (.slice (some ad126) l0_3.length c0_3)] 25 (0, 0))) ∧ Aside0 (w'.heap[gb127]? = some (.cells #[.int .i64 ((rd_T44 l0_3 a1).f0.f0), .int .u64 ((rd_T44 l0_3 a1).f0.f1), (.slice A126_2 ((rd_T44 l0_3 a1).f1).length c126_2), (.slice A126_3 ((rd_T44 l0_3 a1).f2).length c126_3), .int .i64 ((rd_T44 l0_3 a1).f3), .int .i64 ((rd_T44 l0_3 a1).f4), .int .i64 ((rd_T44 l0_3 a1).f5), .int .i64 ((rd_T44 l0_3 a1).f6), .int .i64 ((rd_T44 l0_3 a1).f7), .int .i64 ((rd_T44 l0_3 a1).f8)] 44 (0, 0))) ∧ Aside0 (Below w.heap.size w w'))
         case atStart => exact ⟨(y128), (0), (by first | rfl | (simp; done) | (simp [*]; done)), H', ⟨Nat.le_refl _⟩, ⟨by (with_reducible repeat (first | apply Kd.R_alloc | apply Kd.R_drewN | apply Kd.R_drew)); exact HO130.out⟩, ⟨Goto.bx BK125⟩, ⟨Goto.bx BK127⟩, ⟨Goto.hx HB⟩⟩
         case round =>
          clear H'
          try clear c1; try clear p1; try clear q1; try clear hx1; try clear c2; try clear p2; try clear c3; try clear c3b0; try clear c4; try clear c4b0; try clear c9; try clear c11; try clear c11b0; try clear c11b1; try clear c12; try clear p12; try clear q12; try clear hx12; try clear c14; try clear c14b0; try clear c15; try clear c17; try clear c17b0; try clear c18; try clear c21; try clear c21b0; try clear c21b1; try clear c22; try clear c25; try clear c25b0; try clear c25b1; try clear c26; try clear c29; try clear c32; try clear c33; try clear c33b0; try clear c34; try clear hcz10_0; try clear hcz10_1; try clear hcz10_2; try clear hcz10_3; try clear hcz10_4; try clear hcz10_5; try clear hcz10_6; try clear hcz10_7; try clear hcz10_8; try clear hcz10_9; try clear hcz13_0; try clear hcz13_1; try clear hcz13_2; try clear hcz13_3; try clear hcz13_4; try clear hcz13_5; try clear hcz13_6; try clear hcz13_7; try clear hcz13_8; try clear hcz13_9; try clear hcz16_0; try clear hcz16_1; try clear hcz16_2; try clear hcz16_3; try clear hcz16_4; try clear hcz16_5; try clear hcz16_6; try clear hcz16_7; try clear hcz16_8; try clear hcz16_9; try clear hcz19_0; try clear hcz19_1; try clear hcz19_2; try clear hcz19_3; try clear hcz19_4; try clear hcz19_5; try clear hcz19_6; try clear hcz19_7; try clear hcz19_8; try clear hcz19_9; try clear hcz20_0; try clear hcz20_1; try clear hcz20_2; try clear hcz20_3; try clear hcz23_0; try clear hcz23_1; try clear hcz23_2; try clear hcz23_3; try clear hcz23_4; try clear hcz23_5; try clear hcz23_6; try clear hcz23_7; try clear hcz23_8; try clear hcz23_9; try clear hcz24_0; try clear hcz24_1; try clear hcz24_2; try clear hcz24_3; try clear hcz27_0; try clear hcz27_1; try clear hcz27_2; try clear hcz27_3; try clear hcz27_4; try clear hcz27_5; try clear hcz27_6; try clear hcz27_7; try clear hcz27_8; try clear hcz27_9; try clear hcz28_0; try clear hcz28_1; try clear hcz28_2; try clear hcz28_3; try clear hcz30_0; try clear hcz30_1; try clear hcz30_2; try clear hcz30_3; try clear hcz30_4; try clear hcz30_5; try clear hcz30_6; try clear hcz30_7; try clear hcz30_8; try clear hcz30_9; try clear hcz31_0; try clear hcz31_1; try clear hcz31_2; try clear hcz31_3; try clear hcz35_0; try clear hcz35_1; try clear hcz35_2; try clear hcz35_3; try clear hcz35_4; try clear hcz35_5; try clear hcz35_6; try clear hcz35_7; try clear hcz35_8; try clear hcz35_9; try clear hcz7_0; try clear hcz7_1; try clear hcz7_2; try clear hcz7_3; try clear hfz10_0; try clear hfz10_1; try clear hfz10_2; try clear hfz10_3; try clear hfz10_4; try clear hfz10_5; try clear hfz10_6; try clear hfz10_7; try clear hfz10_8; try clear hfz10_9; try clear hfz13_0; try clear hfz13_1; try clear hfz13_2; try clear hfz13_3; try clear hfz13_4; try clear hfz13_5; try clear hfz13_6; try clear hfz13_7; try clear hfz13_8; try clear hfz13_9; try clear hfz16_0; try clear hfz16_1; try clear hfz16_2; try clear hfz16_3; try clear hfz16_4; try clear hfz16_5; try clear hfz16_6; try clear hfz16_7; try clear hfz16_8; try clear hfz16_9; try clear hfz19_0; try clear hfz19_1; try clear hfz19_2; try clear hfz19_3; try clear hfz19_4; try clear hfz19_5; try clear hfz19_6; try clear hfz19_7; try clear hfz19_8; try clear hfz19_9; try clear hfz20_0; try clear hfz20_1; try clear hfz20_2; try clear hfz20_3; try clear hfz23_0; try clear hfz23_1; try clear hfz23_2; try clear hfz23_3; try clear hfz23_4; try clear hfz23_5; try clear hfz23_6; try clear hfz23_7; try clear hfz23_8; try clear hfz23_9; try clear hfz24_0; try clear hfz24_1; try clear hfz24_2; try clear hfz24_3; try clear hfz27_0; try clear hfz27_1; try clear hfz27_2; try clear hfz27_3; try clear hfz27_4; try clear hfz27_5; try clear hfz27_6; try clear hfz27_7; try clear hfz27_8; try clear hfz27_9; try clear hfz28_0; try clear hfz28_1; try clear hfz28_2; try clear hfz28_3; try clear hfz30_0; try clear hfz30_1; try clear hfz30_2; try clear hfz30_3; try clear hfz30_4; try clear hfz30_5; try clear hfz30_6; try clear hfz30_7; try clear hfz30_8
          try clear hfz30_9; try clear hfz31_0; try clear hfz31_1; try clear hfz31_2; try clear hfz31_3; try clear hfz35_0; try clear hfz35_1; try clear hfz35_2; try clear hfz35_3; try clear hfz35_4; try clear hfz35_5; try clear hfz35_6; try clear hfz35_7; try clear hfz35_8; try clear hfz35_9; try clear hfz7_0; try clear hfz7_1; try clear hfz7_2; try clear hfz7_3; try clear hx126_0; try clear hx126_1; try clear hx126_2; try clear hx126_3; try clear hx126_4; try clear hx126_5; try clear hx126_6; try clear hx126_7; try clear hx126_8; try clear hx126_9; try clear p1; try clear p12; try clear p126; try clear p2; try clear q1; try clear q12; try clear q126
          obtain ⟨x7_3, x8_3, rfl, HA, HK3, HO_7, BK125, BK127, HB⟩ := hrel
          cases gk with
          | zero => exact absurd HA.out (by simp [tontineref1_routes.l1])
          | succ k3 =>
           have H := HA.out; clear HA
           simp only [tontineref1_routes.l1] at H
           by_cases c38 : 0 ≤ x6_2
           ·
            rw [if_pos c38] at H
            have c38b0 : decide (0 ≤ x6_2) = true := decide_eq_true c38
            clear c38
            by_cases c39 : x6_2 < (((rd_T44 l0_3 a1).f1).length : Int)
            ·
             rw [if_pos c39] at H
             have c39b0 : decide (x6_2 < (((rd_T44 l0_3 a1).f1).length : Int)) = true := decide_eq_true c39
             clear c39
             by_cases c40 : x8_3 < ((rd_L1 ((rd_T44 l0_3 a1).f1) x6_2).length : Int)
             ·
              rw [if_pos c40] at H
              have c40b0 : decide (x8_3 < ((rd_L1 ((rd_T44 l0_3 a1).f1) x6_2).length : Int)) = true := decide_eq_true c40
              clear c40
              by_cases c41 : 0 ≤ x8_3
              ·
               rw [if_pos c41] at H
               have c41b0 : decide (0 ≤ x8_3) = true := decide_eq_true c41
               clear c41
               replace H := Option.bind_eq_some_iff.mp H
               obtain ⟨t134, A420, H⟩ := H
               have A42 := Goto.m0 A420
               clear A420
               by_cases c43 : t134 = true
               ·
                subst c43
                rw [if_pos rfl] at H
                by_cases c44 : x8_3 > 300
                ·
                 rw [if_pos c44] at H
                 have c44b0 : decide (300 < x8_3) = true := decide_eq_true c44
                 clear c44
                 obtain rfl := Option.some.inj H
                 have hnb45 := NB127_125.out; have hnc45 := NB125_127.out
                 have hcz46_0 := Goto.bc0 BK127
                 have hcz46_1 := Goto.bc1 BK127
                 have hcz46_2 := Goto.bc2 BK127
                 have hcz46_3 := Goto.bc3 BK127
                 have hcz46_4 := Goto.bc4 BK127
                 have hcz46_5 := Goto.bc5 BK127
                 have hcz46_6 := Goto.bc6 BK127
                 have hcz46_7 := Goto.bc7 BK127
                 have hcz46_8 := Goto.bc8 BK127
                 have hcz46_9 := Goto.bc9 BK127
                 have hfz46_0 := blk_frozen BK127.out 0; have hfz46_1 := blk_frozen BK127.out 1; have hfz46_2 := blk_frozen BK127.out 2; have hfz46_3 := blk_frozen BK127.out 3; have hfz46_4 := blk_frozen BK127.out 4; have hfz46_5 := blk_frozen BK127.out 5; have hfz46_6 := blk_frozen BK127.out 6; have hfz46_7 := blk_frozen BK127.out 7; have hfz46_8 := blk_frozen BK127.out 8; have hfz46_9 := blk_frozen BK127.out 9
                 have p131 : 0 ≤ (x6_2 : Int) := of_decide_eq_true (by first | (with_reducible assumption) | assumption)
                 have q131 : x6_2 < (((rd_T44 l0_3 a1).f1).length : Int) := of_decide_eq_true (by first | (with_reducible assumption) | assumption)
                 obtain ⟨ad131, A131_0, c131_0, e131, hx131_0, hl131_0, hi131_0⟩ := at_L1 HR126_2.out x6_2 p131 q131
                 cases e131
                 replace hx131_0 := Goto.kc HB.out hx131_0
                 have HR131_0 := Goto.m0 hi131_0
                 have HC131_0 := Goto.m0 hl131_0
                 clear hi131_0 hl131_0; replace p131 := eq_true p131; replace q131 := eq_true q131
                 have p132 : 0 ≤ (x6_2 : Int) := of_decide_eq_true (by first | (with_reducible assumption) | assumption)
                 have q132 : x6_2 < (((rd_T44 l0_3 a1).f1).length : Int) := of_decide_eq_true (by first | (with_reducible assumption) | assumption)
                 obtain ⟨ad132, A132_0, c132_0, e132, hx132_0, hl132_0, hi132_0⟩ := at_L1 HR126_2.out x6_2 p132 q132
                 obtain rfl : ad131 = ad132 := (by injection e132)
                 replace hx132_0 := Goto.kc HB.out hx132_0
                 have HR132_0 := Goto.m0 hi132_0
                 have HC132_0 := Goto.m0 hl132_0
                 clear hi132_0 hl132_0; replace p132 := eq_true p132; replace q132 := eq_true q132
                 have ea_ := Option.some.inj (hx131_0.symm.trans hx132_0)
                 injection ea_ with ea_ en_ ec_
                 subst ea_
                 subst ec_
                 clear en_
                 have p133 : 0 ≤ (x8_3 : Int) := of_decide_eq_true (by first | (with_reducible assumption) | assumption)
                 have q133 : x8_3 < ((rd_L1 ((rd_T44 l0_3 a1).f1) x6_2).length : Int) := of_decide_eq_true (by first | (with_reducible assumption) | assumption)
                 obtain ⟨ad133, e133, hx133_0⟩ := Kd.at_int HR132_0.out x8_3 p133 q133
                 cases e133
                 replace hx133_0 := Goto.kc HB.out hx133_0
                 replace p133 := eq_true p133; replace q133 := eq_true q133; have hcz47_0 := Goto.bc0 BK125; have hcz47_1 := Goto.bc1 BK125; have hcz47_2 := Goto.bc2 BK125
                 have hcz47_3 := Goto.bc3 BK125
                 have hfz47_0 := blk_frozen BK125.out 0; have hfz47_1 := blk_frozen BK125.out 1; have hfz47_2 := blk_frozen BK125.out 2; have hfz47_3 := blk_frozen BK125.out 3
                 go_wp2_with (first | (go_at_call 41; (with_reducible refine (tontineref1_within.calls (rd (rd_L1 ((rd_T44 l0_3 a1).f1) x6_2) x8_3) 0 (wrap64 ((l0_3.length : Int) - 1)) true _ A42.out).mono ?_); rintro e w' ⟨rfl, ⟨nd, rfl⟩⟩; (try first | exact ⟨rfl, _, World.drewN_drewN _ _ _⟩ | exact ⟨rfl, _, Eq.trans (World.drewN_drewN _ _ _) (congrArg (World.drewN _) (Nat.add_assoc _ _ _))⟩)))
                 repeat (go_quiet (first | (go_at_call 41; (with_reducible refine (tontineref1_within.calls (rd (rd_L1 ((rd_T44 l0_3 a1).f1) x6_2) x8_3) 0 (wrap64 ((l0_3.length : Int) - 1)) true _ A42.out).mono ?_); rintro e w' ⟨rfl, ⟨nd, rfl⟩⟩; (try first | exact ⟨rfl, _, World.drewN_drewN _ _ _⟩ | exact ⟨rfl, _, Eq.trans (World.drewN_drewN _ _ _) (congrArg (World.drewN _) (Nat.add_assoc _ _ _))⟩))); try go_wp2_with (first | (go_at_call 41; (with_reducible refine (tontineref1_within.calls (rd (rd_L1 ((rd_T44 l0_3 a1).f1) x6_2) x8_3) 0 (wrap64 ((l0_3.length : Int) - 1)) true _ A42.out).mono ?_); rintro e w' ⟨rfl, ⟨nd, rfl⟩⟩; (try first | exact ⟨rfl, _, World.drewN_drewN _ _ _⟩ | exact ⟨rfl, _, Eq.trans (World.drewN_drewN _ _ _) (congrArg (World.drewN _) (Nat.add_assoc _ _ _))⟩))))
                 go_ret
                 exact ⟨by first | rfl | (simp [errW_none, errW_some] <;> rfl) | (simp [*, errW_none, errW_some] <;> rfl), by repeat (first | (with_reducible first | exact HB.out | apply below_alloc | apply pw_below_drewN | apply below_drew1 | refine below_set ?_ GE125.out | refine below_set ?_ GE127.out) | exact HB.out)⟩
                ·
                 rw [if_neg c44] at H
                 have c44b0 : decide (300 < x8_3) = false := decide_eq_false c44
                 clear c44
                 by_cases c48 : 0 ≤ (rd (rd_L1 ((rd_T44 l0_3 a1).f1) x6_2) x8_3)
                 ·
                  rw [if_pos c48] at H
                  have c48b0 : decide (0 ≤ (rd (rd_L1 ((rd_T44 l0_3 a1).f1) x6_2) x8_3)) = true := decide_eq_true c48
                  clear c48
                  by_cases c49 : (rd (rd_L1 ((rd_T44 l0_3 a1).f1) x6_2) x8_3) < (l0_3.length : Int)
                  ·
                   rw [if_pos c49] at H
                   have c49b0 : decide ((rd (rd_L1 ((rd_T44 l0_3 a1).f1) x6_2) x8_3) < (l0_3.length : Int)) = true := decide_eq_true c49
                   clear c49
                   by_cases c50 : x7_3.length < 8796093022208
                   ·
                    rw [if_pos c50] at H
                    have LMc50 := Goto.m0 c50
                    clear c50
                    obtain ⟨y136, hy136⟩ : ∃ y_ : List (S42), y_ = (x7_3 ++ [(⟨(rd_T44 l0_3 (rd (rd_L1 ((rd_T44 l0_3 a1).f1) x6_2) x8_3)).f0.f0, (rd_T44 l0_3 (rd (rd_L1 ((rd_T44 l0_3 a1).f1) x6_2) x8_3)).f0.f1⟩ : S42)]) := ⟨_, rfl⟩
                    replace H : (tontineref1_routes.l1 k3 x6_2 y136 (wrap64 (x8_3 + 1)) a0_0 a0_1 l0_2 l0_3 ((rd_T44 l0_3 a1).f0.f0) ((rd_T44 l0_3 a1).f0.f1) ((rd_T44 l0_3 a1).f1) ((rd_T44 l0_3 a1).f2) ((rd_T44 l0_3 a1).f3) ((rd_T44 l0_3 a1).f4) ((rd_T44 l0_3 a1).f5) ((rd_T44 l0_3 a1).f6) ((rd_T44 l0_3 a1).f7) ((rd_T44 l0_3 a1).f8)) = some r := by first | (rw [hy136]; with_reducible exact H) | (have H2_ := (Option.bind_some _ _).symm.trans H; rw [hy136]; with_reducible exact H2_) | (have H2_ := (Option.bind_some _ _).symm.trans H; with_reducible exact H2_) | with_reducible exact H | (rw [hy136]; exact H) | exact H
                    have Ny136 := Goto.m0 hy136
                    clear hy136
                    have H' := Goto.m0 H
                    clear H; have hnb51 := NB127_125.out; have hnc51 := NB125_127.out
                    have hcz52_0 := Goto.bc0 BK127
                    have hcz52_1 := Goto.bc1 BK127
                    have hcz52_2 := Goto.bc2 BK127
                    have hcz52_3 := Goto.bc3 BK127
                    have hcz52_4 := Goto.bc4 BK127
                    have hcz52_5 := Goto.bc5 BK127
                    have hcz52_6 := Goto.bc6 BK127
                    have hcz52_7 := Goto.bc7 BK127
                    have hcz52_8 := Goto.bc8 BK127
                    have hcz52_9 := Goto.bc9 BK127
                    have hfz52_0 := blk_frozen BK127.out 0; have hfz52_1 := blk_frozen BK127.out 1; have hfz52_2 := blk_frozen BK127.out 2; have hfz52_3 := blk_frozen BK127.out 3; have hfz52_4 := blk_frozen BK127.out 4; have hfz52_5 := blk_frozen BK127.out 5; have hfz52_6 := blk_frozen BK127.out 6; have hfz52_7 := blk_frozen BK127.out 7; have hfz52_8 := blk_frozen BK127.out 8; have hfz52_9 := blk_frozen BK127.out 9
                    have p131 : 0 ≤ (x6_2 : Int) := of_decide_eq_true (by first | (with_reducible assumption) | assumption)
                    have q131 : x6_2 < (((rd_T44 l0_3 a1).f1).length : Int) := of_decide_eq_true (by first | (with_reducible assumption) | assumption)
                    obtain ⟨ad131, A131_0, c131_0, e131, hx131_0, hl131_0, hi131_0⟩ := at_L1 HR126_2.out x6_2 p131 q131
                    cases e131
                    replace hx131_0 := Goto.kc HB.out hx131_0
                    have HR131_0 := Goto.m0 hi131_0
                    have HC131_0 := Goto.m0 hl131_0
                    clear hi131_0 hl131_0; replace p131 := eq_true p131; replace q131 := eq_true q131
                    have p132 : 0 ≤ (x6_2 : Int) := of_decide_eq_true (by first | (with_reducible assumption) | assumption)
                    have q132 : x6_2 < (((rd_T44 l0_3 a1).f1).length : Int) := of_decide_eq_true (by first | (with_reducible assumption) | assumption)
                    obtain ⟨ad132, A132_0, c132_0, e132, hx132_0, hl132_0, hi132_0⟩ := at_L1 HR126_2.out x6_2 p132 q132
                    obtain rfl : ad131 = ad132 := (by injection e132)
                    replace hx132_0 := Goto.kc HB.out hx132_0
                    have HR132_0 := Goto.m0 hi132_0
                    have HC132_0 := Goto.m0 hl132_0
                    clear hi132_0 hl132_0; replace p132 := eq_true p132; replace q132 := eq_true q132
                    have ea_ := Option.some.inj (hx131_0.symm.trans hx132_0)
                    injection ea_ with ea_ en_ ec_
                    subst ea_
                    subst ec_
                    clear en_
                    have p133 : 0 ≤ (x8_3 : Int) := of_decide_eq_true (by first | (with_reducible assumption) | assumption)
                    have q133 : x8_3 < ((rd_L1 ((rd_T44 l0_3 a1).f1) x6_2).length : Int) := of_decide_eq_true (by first | (with_reducible assumption) | assumption)
                    obtain ⟨ad133, e133, hx133_0⟩ := Kd.at_int HR132_0.out x8_3 p133 q133
                    cases e133
                    replace hx133_0 := Goto.kc HB.out hx133_0
                    replace p133 := eq_true p133; replace q133 := eq_true q133; have hcz53_0 := Goto.bc0 BK125; have hcz53_1 := Goto.bc1 BK125; have hcz53_2 := Goto.bc2 BK125
                    have hcz53_3 := Goto.bc3 BK125
                    have hfz53_0 := blk_frozen BK125.out 0; have hfz53_1 := blk_frozen BK125.out 1; have hfz53_2 := blk_frozen BK125.out 2; have hfz53_3 := blk_frozen BK125.out 3
                    go_wp2_with (first | (go_at_call 41; (with_reducible refine (tontineref1_within.calls (rd (rd_L1 ((rd_T44 l0_3 a1).f1) x6_2) x8_3) 0 (wrap64 ((l0_3.length : Int) - 1)) true _ A42.out).mono ?_); rintro e w' ⟨rfl, ⟨nd, rfl⟩⟩; (try first | exact ⟨rfl, _, World.drewN_drewN _ _ _⟩ | exact ⟨rfl, _, Eq.trans (World.drewN_drewN _ _ _) (congrArg (World.drewN _) (Nat.add_assoc _ _ _))⟩); have p135 : 0 ≤ ((rd (rd_L1 ((rd_T44 l0_3 a1).f1) x6_2) x8_3) : Int) := of_decide_eq_true (by first | (with_reducible assumption) | assumption); have q135 : (rd (rd_L1 ((rd_T44 l0_3 a1).f1) x6_2) x8_3) < (l0_3.length : Int) := of_decide_eq_true (by first | (with_reducible assumption) | assumption); obtain ⟨ad135, A135_2, c135_2, A135_3, c135_3, e135, hx135_0, hx135_1, hx135_2, hx135_3, hx135_4, hx135_5, hx135_6, hx135_7, hx135_8, hx135_9, hl135_2, hi135_2, hl135_3, hi135_3⟩ := at_T44 HR0_3.out (rd (rd_L1 ((rd_T44 l0_3 a1).f1) x6_2) x8_3) p135 q135; obtain rfl : ad126 = ad135 := (by injection e135); replace hx135_0 := Goto.kc HB.out hx135_0; replace hx135_1 := Goto.kc HB.out hx135_1; replace hx135_2 := Goto.kc HB.out hx135_2; replace hx135_3 := Goto.kc HB.out hx135_3; replace hx135_4 := Goto.kc HB.out hx135_4; replace hx135_5 := Goto.kc HB.out hx135_5; replace hx135_6 := Goto.kc HB.out hx135_6; replace hx135_7 := Goto.kc HB.out hx135_7; replace hx135_8 := Goto.kc HB.out hx135_8; replace hx135_9 := Goto.kc HB.out hx135_9; have HR135_2 := Goto.m0 hi135_2; have HC135_2 := Goto.m0 hl135_2; clear hi135_2 hl135_2; have HR135_3 := Goto.m0 hi135_3; have HC135_3 := Goto.m0 hl135_3; clear hi135_3 hl135_3; replace p135 := eq_true p135; replace q135 := eq_true q135) | ((with_reducible refine gate_builtin (b := .append) (xs := #[.tmp 90, .tmp 97]) rfl ?_); (try (refine gate_guard (by rfl) ?_; dsimp only)); at_builtin; refine Kd.R_append k42 (w0 := w) w.heap.size rfl (.tmp 90) (.tmp 97) 87 42 (.agg #[(.int .i64 0), (.int .u64 0)]) 16 rfl Try.underlying87 info42 rfl (by decide) (by omega) u7 x7_3 (⟨(rd_T44 l0_3 (rd (rd_L1 ((rd_T44 l0_3 a1).f1) x6_2) x8_3)).f0.f0, (rd_T44 l0_3 (rd (rd_L1 ((rd_T44 l0_3 a1).f1) x6_2) x8_3)).f0.f1⟩ : S42) [.int .i64 ((rd_T44 l0_3 (rd (rd_L1 ((rd_T44 l0_3 a1).f1) x6_2) x8_3)).f0.f0), .int .u64 ((rd_T44 l0_3 (rd (rd_L1 ((rd_T44 l0_3 a1).f1) x6_2) x8_3)).f0.f1)] (fun _ => True) (fun _ => False) rfl rfl ?aP (fun _ hk => hk.elim) ?aF ?aO ?aB ?aS ?aL ?_; (case aP => exact k42_mkM _ _ _ (⟨(rd_T44 l0_3 (rd (rd_L1 ((rd_T44 l0_3 a1).f1) x6_2) x8_3)).f0.f0, (rd_T44 l0_3 (rd (rd_L1 ((rd_T44 l0_3 a1).f1) x6_2) x8_3)).f0.f1⟩ : S42)); (case aB => exact (Goto.hx HB)); (case aF => exact (fun _ _ => trivial)); (case aO => exact (by (with_reducible repeat (first | apply Kd.R_alloc | apply Kd.R_drewN | apply Kd.R_drew)); exact HO_7.out)); (case aS => exact (below_size (Goto.hx HB))); (case aL => have := LMc50.out; omega); intro v137 w54 ho hb hg hat; rw [← Ny136.out] at ho; have n0_ := Goto.m0 (blk_grown (g := gb125) (o := .cells #[.int .i64 a0_0, .int .i64 a0_1, .slice A0_2 l0_2.length c0_2, .slice (some ad126) l0_3.length c0_3] 25 (0, 0)) (Goto.bx BK125) hg (Kd.R_ne HO_7.out BK125.out (by decide))); have n1_ := Goto.m0 (blk_grown (g := gb127) (o := .cells #[.int .i64 ((rd_T44 l0_3 a1).f0.f0), .int .u64 ((rd_T44 l0_3 a1).f0.f1), .slice (some ad131) ((rd_T44 l0_3 a1).f1).length c126_2, .slice A126_3 ((rd_T44 l0_3 a1).f2).length c126_3, .int .i64 ((rd_T44 l0_3 a1).f3), .int .i64 ((rd_T44 l0_3 a1).f4), .int .i64 ((rd_T44 l0_3 a1).f5), .int .i64 ((rd_T44 l0_3 a1).f6), .int .i64 ((rd_T44 l0_3 a1).f7), .int .i64 ((rd_T44 l0_3 a1).f8)] 44 (0, 0)) (Goto.bx BK127) hg (Kd.R_ne HO_7.out BK127.out (by decide))); have n2_ := Goto.m0 (hb); have n3_ := Goto.m0 (ho); clear BK125; clear BK127; clear HB; clear HO_7; have BK125 := n0_; have BK127 := n1_; have HB := n2_; have HO138 := n3_; clear n0_ n1_ n2_ n3_; clear ho hb hg hat))
                    repeat (go_quiet (first | (go_at_call 41; (with_reducible refine (tontineref1_within.calls (rd (rd_L1 ((rd_T44 l0_3 a1).f1) x6_2) x8_3) 0 (wrap64 ((l0_3.length : Int) - 1)) true _ A42.out).mono ?_); rintro e w' ⟨rfl, ⟨nd, rfl⟩⟩; (try first | exact ⟨rfl, _, World.drewN_drewN _ _ _⟩ | exact ⟨rfl, _, Eq.trans (World.drewN_drewN _ _ _) (congrArg (World.drewN _) (Nat.add_assoc _ _ _))⟩); have p135 : 0 ≤ ((rd (rd_L1 ((rd_T44 l0_3 a1).f1) x6_2) x8_3) : Int) := of_decide_eq_true (by first | (with_reducible assumption) | assumption); have q135 : (rd (rd_L1 ((rd_T44 l0_3 a1).f1) x6_2) x8_3) < (l0_3.length : Int) := of_decide_eq_true (by first | (with_reducible assumption) | assumption); obtain ⟨ad135, A135_2, c135_2, A135_3, c135_3, e135, hx135_0, hx135_1, hx135_2, hx135_3, hx135_4, hx135_5, hx135_6, hx135_7, hx135_8, hx135_9, hl135_2, hi135_2, hl135_3, hi135_3⟩ := at_T44 HR0_3.out (rd (rd_L1 ((rd_T44 l0_3 a1).f1) x6_2) x8_3) p135 q135; obtain rfl : ad126 = ad135 := (by injection e135); replace hx135_0 := Goto.kc HB.out hx135_0; replace hx135_1 := Goto.kc HB.out hx135_1; replace hx135_2 := Goto.kc HB.out hx135_2; replace hx135_3 := Goto.kc HB.out hx135_3; replace hx135_4 := Goto.kc HB.out hx135_4; replace hx135_5 := Goto.kc HB.out hx135_5; replace hx135_6 := Goto.kc HB.out hx135_6; replace hx135_7 := Goto.kc HB.out hx135_7; replace hx135_8 := Goto.kc HB.out hx135_8; replace hx135_9 := Goto.kc HB.out hx135_9; have HR135_2 := Goto.m0 hi135_2; have HC135_2 := Goto.m0 hl135_2; clear hi135_2 hl135_2; have HR135_3 := Goto.m0 hi135_3; have HC135_3 := Goto.m0 hl135_3; clear hi135_3 hl135_3; replace p135 := eq_true p135; replace q135 := eq_true q135) | ((with_reducible refine gate_builtin (b := .append) (xs := #[.tmp 90, .tmp 97]) rfl ?_); (try (refine gate_guard (by rfl) ?_; dsimp only)); at_builtin; refine Kd.R_append k42 (w0 := w) w.heap.size rfl (.tmp 90) (.tmp 97) 87 42 (.agg #[(.int .i64 0), (.int .u64 0)]) 16 rfl Try.underlying87 info42 rfl (by decide) (by omega) u7 x7_3 (⟨(rd_T44 l0_3 (rd (rd_L1 ((rd_T44 l0_3 a1).f1) x6_2) x8_3)).f0.f0, (rd_T44 l0_3 (rd (rd_L1 ((rd_T44 l0_3 a1).f1) x6_2) x8_3)).f0.f1⟩ : S42) [.int .i64 ((rd_T44 l0_3 (rd (rd_L1 ((rd_T44 l0_3 a1).f1) x6_2) x8_3)).f0.f0), .int .u64 ((rd_T44 l0_3 (rd (rd_L1 ((rd_T44 l0_3 a1).f1) x6_2) x8_3)).f0.f1)] (fun _ => True) (fun _ => False) rfl rfl ?aP (fun _ hk => hk.elim) ?aF ?aO ?aB ?aS ?aL ?_; (case aP => exact k42_mkM _ _ _ (⟨(rd_T44 l0_3 (rd (rd_L1 ((rd_T44 l0_3 a1).f1) x6_2) x8_3)).f0.f0, (rd_T44 l0_3 (rd (rd_L1 ((rd_T44 l0_3 a1).f1) x6_2) x8_3)).f0.f1⟩ : S42)); (case aB => exact (Goto.hx HB)); (case aF => exact (fun _ _ => trivial)); (case aO => exact (by (with_reducible repeat (first | apply Kd.R_alloc | apply Kd.R_drewN | apply Kd.R_drew)); exact HO_7.out)); (case aS => exact (below_size (Goto.hx HB))); (case aL => have := LMc50.out; omega); intro v137 w54 ho hb hg hat; rw [← Ny136.out] at ho; have n0_ := Goto.m0 (blk_grown (g := gb125) (o := .cells #[.int .i64 a0_0, .int .i64 a0_1, .slice A0_2 l0_2.length c0_2, .slice (some ad126) l0_3.length c0_3] 25 (0, 0)) (Goto.bx BK125) hg (Kd.R_ne HO_7.out BK125.out (by decide))); have n1_ := Goto.m0 (blk_grown (g := gb127) (o := .cells #[.int .i64 ((rd_T44 l0_3 a1).f0.f0), .int .u64 ((rd_T44 l0_3 a1).f0.f1), .slice (some ad131) ((rd_T44 l0_3 a1).f1).length c126_2, .slice A126_3 ((rd_T44 l0_3 a1).f2).length c126_3, .int .i64 ((rd_T44 l0_3 a1).f3), .int .i64 ((rd_T44 l0_3 a1).f4), .int .i64 ((rd_T44 l0_3 a1).f5), .int .i64 ((rd_T44 l0_3 a1).f6), .int .i64 ((rd_T44 l0_3 a1).f7), .int .i64 ((rd_T44 l0_3 a1).f8)] 44 (0, 0)) (Goto.bx BK127) hg (Kd.R_ne HO_7.out BK127.out (by decide))); have n2_ := Goto.m0 (hb); have n3_ := Goto.m0 (ho); clear BK125; clear BK127; clear HB; clear HO_7; have BK125 := n0_; have BK127 := n1_; have HB := n2_; have HO138 := n3_; clear n0_ n1_ n2_ n3_; clear ho hb hg hat)); try go_wp2_with (first | (go_at_call 41; (with_reducible refine (tontineref1_within.calls (rd (rd_L1 ((rd_T44 l0_3 a1).f1) x6_2) x8_3) 0 (wrap64 ((l0_3.length : Int) - 1)) true _ A42.out).mono ?_); rintro e w' ⟨rfl, ⟨nd, rfl⟩⟩; (try first | exact ⟨rfl, _, World.drewN_drewN _ _ _⟩ | exact ⟨rfl, _, Eq.trans (World.drewN_drewN _ _ _) (congrArg (World.drewN _) (Nat.add_assoc _ _ _))⟩); have p135 : 0 ≤ ((rd (rd_L1 ((rd_T44 l0_3 a1).f1) x6_2) x8_3) : Int) := of_decide_eq_true (by first | (with_reducible assumption) | assumption); have q135 : (rd (rd_L1 ((rd_T44 l0_3 a1).f1) x6_2) x8_3) < (l0_3.length : Int) := of_decide_eq_true (by first | (with_reducible assumption) | assumption); obtain ⟨ad135, A135_2, c135_2, A135_3, c135_3, e135, hx135_0, hx135_1, hx135_2, hx135_3, hx135_4, hx135_5, hx135_6, hx135_7, hx135_8, hx135_9, hl135_2, hi135_2, hl135_3, hi135_3⟩ := at_T44 HR0_3.out (rd (rd_L1 ((rd_T44 l0_3 a1).f1) x6_2) x8_3) p135 q135; obtain rfl : ad126 = ad135 := (by injection e135); replace hx135_0 := Goto.kc HB.out hx135_0; replace hx135_1 := Goto.kc HB.out hx135_1; replace hx135_2 := Goto.kc HB.out hx135_2; replace hx135_3 := Goto.kc HB.out hx135_3; replace hx135_4 := Goto.kc HB.out hx135_4; replace hx135_5 := Goto.kc HB.out hx135_5; replace hx135_6 := Goto.kc HB.out hx135_6; replace hx135_7 := Goto.kc HB.out hx135_7; replace hx135_8 := Goto.kc HB.out hx135_8; replace hx135_9 := Goto.kc HB.out hx135_9; have HR135_2 := Goto.m0 hi135_2; have HC135_2 := Goto.m0 hl135_2; clear hi135_2 hl135_2; have HR135_3 := Goto.m0 hi135_3; have HC135_3 := Goto.m0 hl135_3; clear hi135_3 hl135_3; replace p135 := eq_true p135; replace q135 := eq_true q135) | ((with_reducible refine gate_builtin (b := .append) (xs := #[.tmp 90, .tmp 97]) rfl ?_); (try (refine gate_guard (by rfl) ?_; dsimp only)); at_builtin; refine Kd.R_append k42 (w0 := w) w.heap.size rfl (.tmp 90) (.tmp 97) 87 42 (.agg #[(.int .i64 0), (.int .u64 0)]) 16 rfl Try.underlying87 info42 rfl (by decide) (by omega) u7 x7_3 (⟨(rd_T44 l0_3 (rd (rd_L1 ((rd_T44 l0_3 a1).f1) x6_2) x8_3)).f0.f0, (rd_T44 l0_3 (rd (rd_L1 ((rd_T44 l0_3 a1).f1) x6_2) x8_3)).f0.f1⟩ : S42) [.int .i64 ((rd_T44 l0_3 (rd (rd_L1 ((rd_T44 l0_3 a1).f1) x6_2) x8_3)).f0.f0), .int .u64 ((rd_T44 l0_3 (rd (rd_L1 ((rd_T44 l0_3 a1).f1) x6_2) x8_3)).f0.f1)] (fun _ => True) (fun _ => False) rfl rfl ?aP (fun _ hk => hk.elim) ?aF ?aO ?aB ?aS ?aL ?_; (case aP => exact k42_mkM _ _ _ (⟨(rd_T44 l0_3 (rd (rd_L1 ((rd_T44 l0_3 a1).f1) x6_2) x8_3)).f0.f0, (rd_T44 l0_3 (rd (rd_L1 ((rd_T44 l0_3 a1).f1) x6_2) x8_3)).f0.f1⟩ : S42)); (case aB => exact (Goto.hx HB)); (case aF => exact (fun _ _ => trivial)); (case aO => exact (by (with_reducible repeat (first | apply Kd.R_alloc | apply Kd.R_drewN | apply Kd.R_drew)); exact HO_7.out)); (case aS => exact (below_size (Goto.hx HB))); (case aL => have := LMc50.out; omega); intro v137 w54 ho hb hg hat; rw [← Ny136.out] at ho; have n0_ := Goto.m0 (blk_grown (g := gb125) (o := .cells #[.int .i64 a0_0, .int .i64 a0_1, .slice A0_2 l0_2.length c0_2, .slice (some ad126) l0_3.length c0_3] 25 (0, 0)) (Goto.bx BK125) hg (Kd.R_ne HO_7.out BK125.out (by decide))); have n1_ := Goto.m0 (blk_grown (g := gb127) (o := .cells #[.int .i64 ((rd_T44 l0_3 a1).f0.f0), .int .u64 ((rd_T44 l0_3 a1).f0.f1), .slice (some ad131) ((rd_T44 l0_3 a1).f1).length c126_2, .slice A126_3 ((rd_T44 l0_3 a1).f2).length c126_3, .int .i64 ((rd_T44 l0_3 a1).f3), .int .i64 ((rd_T44 l0_3 a1).f4), .int .i64 ((rd_T44 l0_3 a1).f5), .int .i64 ((rd_T44 l0_3 a1).f6), .int .i64 ((rd_T44 l0_3 a1).f7), .int .i64 ((rd_T44 l0_3 a1).f8)] 44 (0, 0)) (Goto.bx BK127) hg (Kd.R_ne HO_7.out BK127.out (by decide))); have n2_ := Goto.m0 (hb); have n3_ := Goto.m0 (ho); clear BK125; clear BK127; clear HB; clear HO_7; have BK125 := n0_; have BK127 := n1_; have HB := n2_; have HO138 := n3_; clear n0_ n1_ n2_ n3_; clear ho hb hg hat)))
                    go_roundg k3
                    case measure => have := HJ4.out; have := HK2.out; have := HK3.out; omega
                    case rel => exact ⟨(y136), (wrap64 (x8_3 + 1)), (by first | rfl | (simp; done) | (simp [*]; done)), H', ⟨by have := HJ4.out; have := HK2.out; have := HK3.out; omega⟩, ⟨by (with_reducible repeat (first | apply Kd.R_alloc | apply Kd.R_drewN | apply Kd.R_drew)); exact HO138.out⟩, ⟨Goto.bx BK125⟩, ⟨Goto.bx BK127⟩, ⟨Goto.hx HB⟩⟩
                   ·
                    rw [if_neg c50] at H
                    exact absurd H (by simp)
                  ·
                   rw [if_neg c49] at H
                   exact absurd H (by simp)
                 ·
                  rw [if_neg c48] at H
                  exact absurd H (by simp)
               ·
                replace c43 := Bool.eq_false_iff.mpr c43
                subst c43
                rw [if_neg (show ¬ (false = true) by decide)] at H
                obtain rfl := Option.some.inj H
                have hnb55 := NB127_125.out; have hnc55 := NB125_127.out
                have hcz56_0 := Goto.bc0 BK127
                have hcz56_1 := Goto.bc1 BK127
                have hcz56_2 := Goto.bc2 BK127
                have hcz56_3 := Goto.bc3 BK127
                have hcz56_4 := Goto.bc4 BK127
                have hcz56_5 := Goto.bc5 BK127
                have hcz56_6 := Goto.bc6 BK127
                have hcz56_7 := Goto.bc7 BK127
                have hcz56_8 := Goto.bc8 BK127
                have hcz56_9 := Goto.bc9 BK127
                have hfz56_0 := blk_frozen BK127.out 0; have hfz56_1 := blk_frozen BK127.out 1; have hfz56_2 := blk_frozen BK127.out 2; have hfz56_3 := blk_frozen BK127.out 3; have hfz56_4 := blk_frozen BK127.out 4; have hfz56_5 := blk_frozen BK127.out 5; have hfz56_6 := blk_frozen BK127.out 6; have hfz56_7 := blk_frozen BK127.out 7; have hfz56_8 := blk_frozen BK127.out 8; have hfz56_9 := blk_frozen BK127.out 9
                have p131 : 0 ≤ (x6_2 : Int) := of_decide_eq_true (by first | (with_reducible assumption) | assumption)
                have q131 : x6_2 < (((rd_T44 l0_3 a1).f1).length : Int) := of_decide_eq_true (by first | (with_reducible assumption) | assumption)
                obtain ⟨ad131, A131_0, c131_0, e131, hx131_0, hl131_0, hi131_0⟩ := at_L1 HR126_2.out x6_2 p131 q131
                cases e131
                replace hx131_0 := Goto.kc HB.out hx131_0
                have HR131_0 := Goto.m0 hi131_0
                have HC131_0 := Goto.m0 hl131_0
                clear hi131_0 hl131_0; replace p131 := eq_true p131; replace q131 := eq_true q131
                have p132 : 0 ≤ (x6_2 : Int) := of_decide_eq_true (by first | (with_reducible assumption) | assumption)
                have q132 : x6_2 < (((rd_T44 l0_3 a1).f1).length : Int) := of_decide_eq_true (by first | (with_reducible assumption) | assumption)
                obtain ⟨ad132, A132_0, c132_0, e132, hx132_0, hl132_0, hi132_0⟩ := at_L1 HR126_2.out x6_2 p132 q132
                obtain rfl : ad131 = ad132 := (by injection e132)
                replace hx132_0 := Goto.kc HB.out hx132_0
                have HR132_0 := Goto.m0 hi132_0
                have HC132_0 := Goto.m0 hl132_0
                clear hi132_0 hl132_0; replace p132 := eq_true p132; replace q132 := eq_true q132
                have ea_ := Option.some.inj (hx131_0.symm.trans hx132_0)
                injection ea_ with ea_ en_ ec_
                subst ea_
                subst ec_
                clear en_
                have p133 : 0 ≤ (x8_3 : Int) := of_decide_eq_true (by first | (with_reducible assumption) | assumption)
                have q133 : x8_3 < ((rd_L1 ((rd_T44 l0_3 a1).f1) x6_2).length : Int) := of_decide_eq_true (by first | (with_reducible assumption) | assumption)
                obtain ⟨ad133, e133, hx133_0⟩ := Kd.at_int HR132_0.out x8_3 p133 q133
                cases e133
                replace hx133_0 := Goto.kc HB.out hx133_0
                replace p133 := eq_true p133; replace q133 := eq_true q133; have hcz57_0 := Goto.bc0 BK125; have hcz57_1 := Goto.bc1 BK125; have hcz57_2 := Goto.bc2 BK125
                have hcz57_3 := Goto.bc3 BK125
                have hfz57_0 := blk_frozen BK125.out 0; have hfz57_1 := blk_frozen BK125.out 1; have hfz57_2 := blk_frozen BK125.out 2; have hfz57_3 := blk_frozen BK125.out 3
                go_wp2_with (first | (go_at_call 41; (with_reducible refine (tontineref1_within.calls (rd (rd_L1 ((rd_T44 l0_3 a1).f1) x6_2) x8_3) 0 (wrap64 ((l0_3.length : Int) - 1)) false _ A42.out).mono ?_); rintro e w' ⟨rfl, ⟨nd, rfl⟩⟩; (try first | exact ⟨rfl, _, World.drewN_drewN _ _ _⟩ | exact ⟨rfl, _, Eq.trans (World.drewN_drewN _ _ _) (congrArg (World.drewN _) (Nat.add_assoc _ _ _))⟩)))
                repeat (go_quiet (first | (go_at_call 41; (with_reducible refine (tontineref1_within.calls (rd (rd_L1 ((rd_T44 l0_3 a1).f1) x6_2) x8_3) 0 (wrap64 ((l0_3.length : Int) - 1)) false _ A42.out).mono ?_); rintro e w' ⟨rfl, ⟨nd, rfl⟩⟩; (try first | exact ⟨rfl, _, World.drewN_drewN _ _ _⟩ | exact ⟨rfl, _, Eq.trans (World.drewN_drewN _ _ _) (congrArg (World.drewN _) (Nat.add_assoc _ _ _))⟩))); try go_wp2_with (first | (go_at_call 41; (with_reducible refine (tontineref1_within.calls (rd (rd_L1 ((rd_T44 l0_3 a1).f1) x6_2) x8_3) 0 (wrap64 ((l0_3.length : Int) - 1)) false _ A42.out).mono ?_); rintro e w' ⟨rfl, ⟨nd, rfl⟩⟩; (try first | exact ⟨rfl, _, World.drewN_drewN _ _ _⟩ | exact ⟨rfl, _, Eq.trans (World.drewN_drewN _ _ _) (congrArg (World.drewN _) (Nat.add_assoc _ _ _))⟩))))
                go_ret
                exact ⟨by first | rfl | (simp [errW_none, errW_some] <;> rfl) | (simp [*, errW_none, errW_some] <;> rfl), by repeat (first | (with_reducible first | exact HB.out | apply below_alloc | apply pw_below_drewN | apply below_drew1 | refine below_set ?_ GE125.out | refine below_set ?_ GE127.out) | exact HB.out)⟩
              ·
               rw [if_neg c41] at H
               exact absurd H (by simp)
             ·
              rw [if_neg c40] at H
              have c40b0 : decide (x8_3 < ((rd_L1 ((rd_T44 l0_3 a1).f1) x6_2).length : Int)) = false := decide_eq_false c40
              clear c40
              by_cases c58 : (x7_3.length : Int) = 1
              ·
               rw [if_pos c58] at H
               have c58b0 : ((x7_3.length : Int) == 1) = true := beq_iff_eq.mpr c58
               have c58b1 : ((x7_3.length : Int) != 1) = false := bne_eq_false_iff_eq.mpr c58
               clear c58
               obtain rfl := Option.some.inj H
               have hnb59 := NB127_125.out; have hnc59 := NB125_127.out
               have hcz60_0 := Goto.bc0 BK127
               have hcz60_1 := Goto.bc1 BK127
               have hcz60_2 := Goto.bc2 BK127
               have hcz60_3 := Goto.bc3 BK127
               have hcz60_4 := Goto.bc4 BK127
               have hcz60_5 := Goto.bc5 BK127
               have hcz60_6 := Goto.bc6 BK127
               have hcz60_7 := Goto.bc7 BK127
               have hcz60_8 := Goto.bc8 BK127
               have hcz60_9 := Goto.bc9 BK127
               have hfz60_0 := blk_frozen BK127.out 0; have hfz60_1 := blk_frozen BK127.out 1; have hfz60_2 := blk_frozen BK127.out 2; have hfz60_3 := blk_frozen BK127.out 3; have hfz60_4 := blk_frozen BK127.out 4; have hfz60_5 := blk_frozen BK127.out 5; have hfz60_6 := blk_frozen BK127.out 6; have hfz60_7 := blk_frozen BK127.out 7; have hfz60_8 := blk_frozen BK127.out 8; have hfz60_9 := blk_frozen BK127.out 9
               have p131 : 0 ≤ (x6_2 : Int) := of_decide_eq_true (by first | (with_reducible assumption) | assumption)
               have q131 : x6_2 < (((rd_T44 l0_3 a1).f1).length : Int) := of_decide_eq_true (by first | (with_reducible assumption) | assumption)
               obtain ⟨ad131, A131_0, c131_0, e131, hx131_0, hl131_0, hi131_0⟩ := at_L1 HR126_2.out x6_2 p131 q131
               cases e131
               replace hx131_0 := Goto.kc HB.out hx131_0
               have HR131_0 := Goto.m0 hi131_0
               have HC131_0 := Goto.m0 hl131_0
               clear hi131_0 hl131_0; replace p131 := eq_true p131; replace q131 := eq_true q131
               obtain ⟨Ao61, co61, eo61⟩ := Kd.R_slice HO_7.out
               subst eo61
               go_wp2
               repeat (go_quiet (fail); try go_wp2)
               go_ret
               exact ⟨by first | rfl | (simp [errW_none, errW_some] <;> rfl) | (simp [*, errW_none, errW_some] <;> rfl), by repeat (first | (with_reducible first | exact HB.out | apply below_alloc | apply pw_below_drewN | apply below_drew1 | refine below_set ?_ GE125.out | refine below_set ?_ GE127.out) | exact HB.out)⟩
              ·
               rw [if_neg c58] at H
               have c58b0 : ((x7_3.length : Int) == 1) = false := beq_eq_false_iff_ne.mpr c58
               have c58b1 : ((x7_3.length : Int) != 1) = true := bne_iff_ne.mpr c58
               replace H := Option.bind_eq_some_iff.mp H
               obtain ⟨t139, A620, H⟩ := H
               have A62 := Goto.m0 A620
               clear A620
               by_cases c63 : t139 = true
               ·
                subst c63
                rw [if_pos rfl] at H
                have H' := Goto.m0 H
                clear H; have hnb64 := NB127_125.out; have hnc64 := NB125_127.out
                have hcz65_0 := Goto.bc0 BK127
                have hcz65_1 := Goto.bc1 BK127
                have hcz65_2 := Goto.bc2 BK127
                have hcz65_3 := Goto.bc3 BK127
                have hcz65_4 := Goto.bc4 BK127
                have hcz65_5 := Goto.bc5 BK127
                have hcz65_6 := Goto.bc6 BK127
                have hcz65_7 := Goto.bc7 BK127
                have hcz65_8 := Goto.bc8 BK127
                have hcz65_9 := Goto.bc9 BK127
                have hfz65_0 := blk_frozen BK127.out 0; have hfz65_1 := blk_frozen BK127.out 1; have hfz65_2 := blk_frozen BK127.out 2; have hfz65_3 := blk_frozen BK127.out 3; have hfz65_4 := blk_frozen BK127.out 4; have hfz65_5 := blk_frozen BK127.out 5; have hfz65_6 := blk_frozen BK127.out 6; have hfz65_7 := blk_frozen BK127.out 7; have hfz65_8 := blk_frozen BK127.out 8; have hfz65_9 := blk_frozen BK127.out 9
                have p131 : 0 ≤ (x6_2 : Int) := of_decide_eq_true (by first | (with_reducible assumption) | assumption)
                have q131 : x6_2 < (((rd_T44 l0_3 a1).f1).length : Int) := of_decide_eq_true (by first | (with_reducible assumption) | assumption)
                obtain ⟨ad131, A131_0, c131_0, e131, hx131_0, hl131_0, hi131_0⟩ := at_L1 HR126_2.out x6_2 p131 q131
                cases e131
                replace hx131_0 := Goto.kc HB.out hx131_0
                have HR131_0 := Goto.m0 hi131_0
                have HC131_0 := Goto.m0 hl131_0
                clear hi131_0 hl131_0; replace p131 := eq_true p131; replace q131 := eq_true q131
                obtain ⟨Ao66, co66, eo66⟩ := Kd.R_slice HO_7.out
                subst eo66
                go_wp2_with (first | (go_at_call 51; (with_reducible refine (tontineref1_Chain.calls k3 _ _ x7_3 true _ ?side1 ?side2 A62.out).mono ?_); (case side1 => repeat (first | exact (Kd.R_reads' HO_7.out).2.2 | (with_reducible refine Kd.C_alloc ?_ _) | (with_reducible refine Kd.C_drewN ?_ _) | (with_reducible refine Kd.C_drew ?_))); (case side2 => exact (Kd.R_reads' HO_7.out).2.1); rintro e w67 ⟨rfl, hb⟩; replace HO_7 := Goto.m0 (Kd.R_below (by (with_reducible repeat (first | apply Kd.R_alloc | apply Kd.R_drewN | apply Kd.R_drew)); exact HO_7.out) hb); replace BK125 := Goto.bb BK125 hb; replace BK127 := Goto.bb BK127 hb; replace HB := Goto.hs HB hb; (try clear hb); (try clear hb2); (try clear hk); (try clear hi)))
                repeat (go_quiet (first | (go_at_call 51; (with_reducible refine (tontineref1_Chain.calls k3 _ _ x7_3 true _ ?side1 ?side2 A62.out).mono ?_); (case side1 => repeat (first | exact (Kd.R_reads' HO_7.out).2.2 | (with_reducible refine Kd.C_alloc ?_ _) | (with_reducible refine Kd.C_drewN ?_ _) | (with_reducible refine Kd.C_drew ?_))); (case side2 => exact (Kd.R_reads' HO_7.out).2.1); rintro e w67 ⟨rfl, hb⟩; replace HO_7 := Goto.m0 (Kd.R_below (by (with_reducible repeat (first | apply Kd.R_alloc | apply Kd.R_drewN | apply Kd.R_drew)); exact HO_7.out) hb); replace BK125 := Goto.bb BK125 hb; replace BK127 := Goto.bb BK127 hb; replace HB := Goto.hs HB hb; (try clear hb); (try clear hb2); (try clear hk); (try clear hi))); try go_wp2_with (first | (go_at_call 51; (with_reducible refine (tontineref1_Chain.calls k3 _ _ x7_3 true _ ?side1 ?side2 A62.out).mono ?_); (case side1 => repeat (first | exact (Kd.R_reads' HO_7.out).2.2 | (with_reducible refine Kd.C_alloc ?_ _) | (with_reducible refine Kd.C_drewN ?_ _) | (with_reducible refine Kd.C_drew ?_))); (case side2 => exact (Kd.R_reads' HO_7.out).2.1); rintro e w67 ⟨rfl, hb⟩; replace HO_7 := Goto.m0 (Kd.R_below (by (with_reducible repeat (first | apply Kd.R_alloc | apply Kd.R_drewN | apply Kd.R_drew)); exact HO_7.out) hb); replace BK125 := Goto.bb BK125 hb; replace BK127 := Goto.bb BK127 hb; replace HB := Goto.hs HB hb; (try clear hb); (try clear hb2); (try clear hk); (try clear hi))))
                go_roundg k3
                case measure => have := HJ4.out; have := HK2.out; have := HK3.out; omega
                case rel => exact ⟨(wrap64 (x6_2 + 1)), (by first | rfl | (simp; done) | (simp [*]; done)), H', ⟨by have := HJ4.out; have := HK2.out; have := HK3.out; omega⟩, ⟨Goto.bx BK125⟩, ⟨Goto.bx BK127⟩, ⟨Goto.hx HB⟩⟩
               ·
                replace c63 := Bool.eq_false_iff.mpr c63
                subst c63
                rw [if_neg (show ¬ (false = true) by decide)] at H
                obtain rfl := Option.some.inj H
                have hnb68 := NB127_125.out; have hnc68 := NB125_127.out
                have hcz69_0 := Goto.bc0 BK127
                have hcz69_1 := Goto.bc1 BK127
                have hcz69_2 := Goto.bc2 BK127
                have hcz69_3 := Goto.bc3 BK127
                have hcz69_4 := Goto.bc4 BK127
                have hcz69_5 := Goto.bc5 BK127
                have hcz69_6 := Goto.bc6 BK127
                have hcz69_7 := Goto.bc7 BK127
                have hcz69_8 := Goto.bc8 BK127
                have hcz69_9 := Goto.bc9 BK127
                have hfz69_0 := blk_frozen BK127.out 0; have hfz69_1 := blk_frozen BK127.out 1; have hfz69_2 := blk_frozen BK127.out 2; have hfz69_3 := blk_frozen BK127.out 3; have hfz69_4 := blk_frozen BK127.out 4; have hfz69_5 := blk_frozen BK127.out 5; have hfz69_6 := blk_frozen BK127.out 6; have hfz69_7 := blk_frozen BK127.out 7; have hfz69_8 := blk_frozen BK127.out 8; have hfz69_9 := blk_frozen BK127.out 9
                have p131 : 0 ≤ (x6_2 : Int) := of_decide_eq_true (by first | (with_reducible assumption) | assumption)
                have q131 : x6_2 < (((rd_T44 l0_3 a1).f1).length : Int) := of_decide_eq_true (by first | (with_reducible assumption) | assumption)
                obtain ⟨ad131, A131_0, c131_0, e131, hx131_0, hl131_0, hi131_0⟩ := at_L1 HR126_2.out x6_2 p131 q131
                cases e131
                replace hx131_0 := Goto.kc HB.out hx131_0
                have HR131_0 := Goto.m0 hi131_0
                have HC131_0 := Goto.m0 hl131_0
                clear hi131_0 hl131_0; replace p131 := eq_true p131; replace q131 := eq_true q131
                obtain ⟨Ao70, co70, eo70⟩ := Kd.R_slice HO_7.out
                subst eo70
                go_wp2_with (first | (go_at_call 51; (with_reducible refine (tontineref1_Chain.calls k3 _ _ x7_3 false _ ?side1 ?side2 A62.out).mono ?_); (case side1 => repeat (first | exact (Kd.R_reads' HO_7.out).2.2 | (with_reducible refine Kd.C_alloc ?_ _) | (with_reducible refine Kd.C_drewN ?_ _) | (with_reducible refine Kd.C_drew ?_))); (case side2 => exact (Kd.R_reads' HO_7.out).2.1); rintro e w71 ⟨rfl, hb⟩; replace HO_7 := Goto.m0 (Kd.R_below (by (with_reducible repeat (first | apply Kd.R_alloc | apply Kd.R_drewN | apply Kd.R_drew)); exact HO_7.out) hb); replace BK125 := Goto.bb BK125 hb; replace BK127 := Goto.bb BK127 hb; replace HB := Goto.hs HB hb; (try clear hb); (try clear hb2); (try clear hk); (try clear hi)))
                repeat (go_quiet (first | (go_at_call 51; (with_reducible refine (tontineref1_Chain.calls k3 _ _ x7_3 false _ ?side1 ?side2 A62.out).mono ?_); (case side1 => repeat (first | exact (Kd.R_reads' HO_7.out).2.2 | (with_reducible refine Kd.C_alloc ?_ _) | (with_reducible refine Kd.C_drewN ?_ _) | (with_reducible refine Kd.C_drew ?_))); (case side2 => exact (Kd.R_reads' HO_7.out).2.1); rintro e w71 ⟨rfl, hb⟩; replace HO_7 := Goto.m0 (Kd.R_below (by (with_reducible repeat (first | apply Kd.R_alloc | apply Kd.R_drewN | apply Kd.R_drew)); exact HO_7.out) hb); replace BK125 := Goto.bb BK125 hb; replace BK127 := Goto.bb BK127 hb; replace HB := Goto.hs HB hb; (try clear hb); (try clear hb2); (try clear hk); (try clear hi))); try go_wp2_with (first | (go_at_call 51; (with_reducible refine (tontineref1_Chain.calls k3 _ _ x7_3 false _ ?side1 ?side2 A62.out).mono ?_); (case side1 => repeat (first | exact (Kd.R_reads' HO_7.out).2.2 | (with_reducible refine Kd.C_alloc ?_ _) | (with_reducible refine Kd.C_drewN ?_ _) | (with_reducible refine Kd.C_drew ?_))); (case side2 => exact (Kd.R_reads' HO_7.out).2.1); rintro e w71 ⟨rfl, hb⟩; replace HO_7 := Goto.m0 (Kd.R_below (by (with_reducible repeat (first | apply Kd.R_alloc | apply Kd.R_drewN | apply Kd.R_drew)); exact HO_7.out) hb); replace BK125 := Goto.bb BK125 hb; replace BK127 := Goto.bb BK127 hb; replace HB := Goto.hs HB hb; (try clear hb); (try clear hb2); (try clear hk); (try clear hi))))
                go_ret
                exact ⟨by first | rfl | (simp [errW_none, errW_some] <;> rfl) | (simp [*, errW_none, errW_some] <;> rfl), by repeat (first | (with_reducible first | exact HB.out | apply below_alloc | apply pw_below_drewN | apply below_drew1 | refine below_set ?_ GE125.out | refine below_set ?_ GE127.out) | exact HB.out)⟩
            ·
             rw [if_neg c39] at H
             exact absurd H (by simp)
           ·
            rw [if_neg c38] at H
            exact absurd H (by simp)
        ·
         rw [if_neg c33] at H
         have c33b0 : decide (x6_2 < (((rd_T44 l0_3 a1).f1).length : Int)) = false := decide_eq_false c33
         clear c33
         by_cases c72 : ((rd_T44 l0_3 a1).f3) = (-1)
         ·
          rw [if_pos c72] at H
          have c72b0 : (((rd_T44 l0_3 a1).f3) == (-1)) = true := beq_iff_eq.mpr c72
          have c72b1 : (((rd_T44 l0_3 a1).f3) != (-1)) = false := bne_eq_false_iff_eq.mpr c72
          clear c72
          obtain rfl := Option.some.inj H
          have hnb73 := NB127_125.out; have hnc73 := NB125_127.out
          have hcz74_0 := Goto.bc0 BK127
          have hcz74_1 := Goto.bc1 BK127
          have hcz74_2 := Goto.bc2 BK127
          have hcz74_3 := Goto.bc3 BK127
          have hcz74_4 := Goto.bc4 BK127
          have hcz74_5 := Goto.bc5 BK127
          have hcz74_6 := Goto.bc6 BK127
          have hcz74_7 := Goto.bc7 BK127
          have hcz74_8 := Goto.bc8 BK127
          have hcz74_9 := Goto.bc9 BK127
          have hfz74_0 := blk_frozen BK127.out 0; have hfz74_1 := blk_frozen BK127.out 1; have hfz74_2 := blk_frozen BK127.out 2; have hfz74_3 := blk_frozen BK127.out 3; have hfz74_4 := blk_frozen BK127.out 4; have hfz74_5 := blk_frozen BK127.out 5; have hfz74_6 := blk_frozen BK127.out 6; have hfz74_7 := blk_frozen BK127.out 7; have hfz74_8 := blk_frozen BK127.out 8; have hfz74_9 := blk_frozen BK127.out 9
          go_wp2
          repeat (go_quiet (fail); try go_wp2)
          go_ret
          exact ⟨by first | rfl | (simp [errW_none, errW_some] <;> rfl) | (simp [*, errW_none, errW_some] <;> rfl), by repeat (first | (with_reducible first | exact HB.out | apply below_alloc | apply pw_below_drewN | apply below_drew1 | refine below_set ?_ GE125.out | refine below_set ?_ GE127.out) | exact HB.out)⟩
         ·
          rw [if_neg c72] at H
          have c72b0 : (((rd_T44 l0_3 a1).f3) == (-1)) = false := beq_eq_false_iff_ne.mpr c72
          have c72b1 : (((rd_T44 l0_3 a1).f3) != (-1)) = true := bne_iff_ne.mpr c72
          have H' := Goto.m0 H
          clear H; have hnb75 := NB127_125.out; have hnc75 := NB125_127.out
          have hcz76_0 := Goto.bc0 BK127
          have hcz76_1 := Goto.bc1 BK127
          have hcz76_2 := Goto.bc2 BK127
          have hcz76_3 := Goto.bc3 BK127
          have hcz76_4 := Goto.bc4 BK127
          have hcz76_5 := Goto.bc5 BK127
          have hcz76_6 := Goto.bc6 BK127
          have hcz76_7 := Goto.bc7 BK127
          have hcz76_8 := Goto.bc8 BK127
          have hcz76_9 := Goto.bc9 BK127
          have hfz76_0 := blk_frozen BK127.out 0; have hfz76_1 := blk_frozen BK127.out 1; have hfz76_2 := blk_frozen BK127.out 2; have hfz76_3 := blk_frozen BK127.out 3; have hfz76_4 := blk_frozen BK127.out 4; have hfz76_5 := blk_frozen BK127.out 5; have hfz76_6 := blk_frozen BK127.out 6; have hfz76_7 := blk_frozen BK127.out 7; have hfz76_8 := blk_frozen BK127.out 8; have hfz76_9 := blk_frozen BK127.out 9
          go_wp2
          repeat (go_quiet (fail); try go_wp2)
          go_loopg [10] k2 (fun kq v10 w' => ∃ (x10_3 : Int), v10 = .int .i64 x10_3 ∧ Aside0 (tontineref1_routes.l2 kq x10_3 a0_0 a0_1 l0_2 l0_3 ((rd_T44 l0_3 a1).f0.f0) ((rd_T44 l0_3 a1).f0.f1) ((rd_T44 l0_3 a1).f1) ((rd_T44 l0_3 a1).f2) ((rd_T44 l0_3 a1).f3) ((rd_T44 l0_3 a1).f4) ((rd_T44 l0_3 a1).f5) ((rd_T44 l0_3 a1).f6) ((rd_T44 l0_3 a1).f7) ((rd_T44 l0_3 a1).f8) = some r) ∧ Aside0 (kq ≤ k2) ∧ Aside0 (w'.heap[gb125]? = some (.cells #[.int .i64 a0_0, .int .i64 a0_1, (.slice A0_2 l0_2.length c0_2), (.slice (some ad126) l0_3.length c0_3)] 25 (0, 0))) ∧ Aside0 (w'.heap[gb127]? = some (.cells #[.int .i64 ((rd_T44 l0_3 a1).f0.f0), .int .u64 ((rd_T44 l0_3 a1).f0.f1), (.slice A126_2 ((rd_T44 l0_3 a1).f1).length c126_2), (.slice A126_3 ((rd_T44 l0_3 a1).f2).length c126_3), .int .i64 ((rd_T44 l0_3 a1).f3), .int .i64 ((rd_T44 l0_3 a1).f4), .int .i64 ((rd_T44 l0_3 a1).f5), .int .i64 ((rd_T44 l0_3 a1).f6), .int .i64 ((rd_T44 l0_3 a1).f7), .int .i64 ((rd_T44 l0_3 a1).f8)] 44 (0, 0))) ∧ Aside0 (Below w.heap.size w w'))
          case atStart => exact ⟨(0), (by first | rfl | (simp; done) | (simp [*]; done)), H', ⟨Nat.le_refl _⟩, ⟨Goto.bx BK125⟩, ⟨Goto.bx BK127⟩, ⟨Goto.hx HB⟩⟩
          case round =>
           clear H'
           try clear c1; try clear p1; try clear q1; try clear hx1; try clear p2; try clear c3; try clear c4; try clear c5; try clear c6; try clear p6; try clear c7; try clear c12; try clear p12; try clear q12; try clear hx12; try clear c13; try clear p13; try clear q13; try clear hx13; try clear c33; try clear c33b0; try clear c38; try clear c38b0; try clear c39; try clear c39b0; try clear c40; try clear c40b0; try clear c41; try clear c41b0; try clear c43; try clear c44; try clear c44b0; try clear c45; try clear c48; try clear c48b0; try clear c49; try clear c49b0; try clear c50; try clear c51; try clear c55; try clear c58; try clear c58b0; try clear c58b1; try clear c59; try clear c63; try clear c64; try clear p64; try clear c68; try clear c72; try clear c72b0; try clear c72b1; try clear c73; try clear c75; try clear hcz46_0; try clear hcz46_1; try clear hcz46_2; try clear hcz46_3; try clear hcz46_4; try clear hcz46_5; try clear hcz46_6; try clear hcz46_7; try clear hcz46_8; try clear hcz46_9; try clear hcz47_0; try clear hcz47_1; try clear hcz47_2; try clear hcz47_3; try clear hcz52_0; try clear hcz52_1; try clear hcz52_2; try clear hcz52_3; try clear hcz52_4; try clear hcz52_5; try clear hcz52_6; try clear hcz52_7; try clear hcz52_8; try clear hcz52_9; try clear hcz53_0; try clear hcz53_1; try clear hcz53_2; try clear hcz53_3; try clear hcz56_0; try clear hcz56_1; try clear hcz56_2; try clear hcz56_3; try clear hcz56_4; try clear hcz56_5; try clear hcz56_6; try clear hcz56_7; try clear hcz56_8; try clear hcz56_9; try clear hcz57_0; try clear hcz57_1; try clear hcz57_2; try clear hcz57_3; try clear hcz60_0; try clear hcz60_1; try clear hcz60_2; try clear hcz60_3; try clear hcz60_4; try clear hcz60_5; try clear hcz60_6; try clear hcz60_7; try clear hcz60_8; try clear hcz60_9; try clear hcz65_0; try clear hcz65_1; try clear hcz65_2; try clear hcz65_3; try clear hcz65_4; try clear hcz65_5; try clear hcz65_6; try clear hcz65_7; try clear hcz65_8; try clear hcz65_9; try clear hcz69_0; try clear hcz69_1; try clear hcz69_2; try clear hcz69_3; try clear hcz69_4; try clear hcz69_5; try clear hcz69_6; try clear hcz69_7; try clear hcz69_8; try clear hcz69_9; try clear hcz74_0; try clear hcz74_1; try clear hcz74_2; try clear hcz74_3; try clear hcz74_4; try clear hcz74_5; try clear hcz74_6; try clear hcz74_7; try clear hcz74_8; try clear hcz74_9; try clear hcz76_0; try clear hcz76_1; try clear hcz76_2; try clear hcz76_3; try clear hcz76_4; try clear hcz76_5; try clear hcz76_6; try clear hcz76_7; try clear hcz76_8; try clear hcz76_9; try clear hfz13_0; try clear hfz13_1; try clear hfz13_2; try clear hfz13_3; try clear hfz13_4; try clear hfz13_5; try clear hfz13_6; try clear hfz13_7; try clear hfz13_8; try clear hfz13_9; try clear hfz16_0; try clear hfz16_1; try clear hfz16_2; try clear hfz16_3; try clear hfz16_4; try clear hfz16_5; try clear hfz16_6; try clear hfz16_7; try clear hfz16_8; try clear hfz16_9; try clear hfz19_0; try clear hfz19_1; try clear hfz19_2; try clear hfz19_3; try clear hfz19_4; try clear hfz19_5; try clear hfz19_6; try clear hfz19_7; try clear hfz19_8; try clear hfz19_9; try clear hfz20_0; try clear hfz20_1; try clear hfz20_2; try clear hfz20_3; try clear hfz23_0; try clear hfz23_1; try clear hfz23_2; try clear hfz23_3; try clear hfz23_4; try clear hfz23_5; try clear hfz23_6; try clear hfz23_7; try clear hfz23_8; try clear hfz23_9; try clear hfz24_0; try clear hfz24_1; try clear hfz24_2; try clear hfz24_3; try clear hfz27_0; try clear hfz27_1; try clear hfz27_2; try clear hfz27_3; try clear hfz27_4; try clear hfz27_5; try clear hfz27_6; try clear hfz27_7; try clear hfz27_8; try clear hfz27_9; try clear hfz28_0; try clear hfz28_1; try clear hfz28_2; try clear hfz28_3; try clear hfz30_0; try clear hfz30_1; try clear hfz30_2; try clear hfz30_3; try clear hfz30_4; try clear hfz30_5; try clear hfz30_6; try clear hfz30_7; try clear hfz30_8; try clear hfz30_9; try clear hfz31_0; try clear hfz31_1; try clear hfz31_2; try clear hfz31_3
           try clear hfz35_0; try clear hfz35_1; try clear hfz35_2; try clear hfz35_3; try clear hfz35_4; try clear hfz35_5; try clear hfz35_6; try clear hfz35_7; try clear hfz35_8; try clear hfz35_9; try clear hfz46_0; try clear hfz46_1; try clear hfz46_2; try clear hfz46_3; try clear hfz46_4; try clear hfz46_5; try clear hfz46_6; try clear hfz46_7; try clear hfz46_8; try clear hfz46_9; try clear hfz47_0; try clear hfz47_1; try clear hfz47_2; try clear hfz47_3; try clear hfz52_0; try clear hfz52_1; try clear hfz52_2; try clear hfz52_3; try clear hfz52_4; try clear hfz52_5; try clear hfz52_6; try clear hfz52_7; try clear hfz52_8; try clear hfz52_9; try clear hfz53_0; try clear hfz53_1; try clear hfz53_2; try clear hfz53_3; try clear hfz56_0; try clear hfz56_1; try clear hfz56_2; try clear hfz56_3; try clear hfz56_4; try clear hfz56_5; try clear hfz56_6; try clear hfz56_7; try clear hfz56_8; try clear hfz56_9; try clear hfz57_0; try clear hfz57_1; try clear hfz57_2; try clear hfz57_3; try clear hfz60_0; try clear hfz60_1; try clear hfz60_2; try clear hfz60_3; try clear hfz60_4; try clear hfz60_5; try clear hfz60_6; try clear hfz60_7; try clear hfz60_8; try clear hfz60_9; try clear hfz65_0; try clear hfz65_1; try clear hfz65_2; try clear hfz65_3; try clear hfz65_4; try clear hfz65_5; try clear hfz65_6; try clear hfz65_7; try clear hfz65_8; try clear hfz65_9; try clear hfz69_0; try clear hfz69_1; try clear hfz69_2; try clear hfz69_3; try clear hfz69_4; try clear hfz69_5; try clear hfz69_6; try clear hfz69_7; try clear hfz69_8; try clear hfz69_9; try clear hfz74_0; try clear hfz74_1; try clear hfz74_2; try clear hfz74_3; try clear hfz74_4; try clear hfz74_5; try clear hfz74_6; try clear hfz74_7; try clear hfz74_8; try clear hfz74_9; try clear hfz76_0; try clear hfz76_1; try clear hfz76_2; try clear hfz76_3; try clear hfz76_4; try clear hfz76_5; try clear hfz76_6; try clear hfz76_7; try clear hfz76_8; try clear hfz76_9; try clear hfz7_0; try clear hfz7_1; try clear hfz7_2; try clear hfz7_3; try clear hx126_0; try clear hx126_1; try clear hx126_2; try clear hx126_3; try clear hx126_4; try clear hx126_5; try clear hx126_6; try clear hx126_7; try clear hx126_8; try clear hx126_9; try clear hx131_0; try clear hx132_0; try clear hx133_0; try clear hx135_0; try clear hx135_1; try clear hx135_2; try clear hx135_3; try clear hx135_4; try clear hx135_5; try clear hx135_6; try clear hx135_7; try clear hx135_8; try clear hx135_9; try clear p1; try clear p12; try clear p126; try clear p131; try clear p132; try clear p133; try clear p135; try clear p2; try clear q1; try clear q12; try clear q126; try clear q131; try clear q132; try clear q133; try clear q135
           obtain ⟨x10_3, rfl, HA, HK3, BK125, BK127, HB⟩ := hrel
           cases gk with
           | zero => exact absurd HA.out (by simp [tontineref1_routes.l2])
           | succ k3 =>
            have H := HA.out; clear HA
            simp only [tontineref1_routes.l2] at H
            by_cases c77 : x10_3 < (((rd_T44 l0_3 a1).f2).length : Int)
            ·
             rw [if_pos c77] at H
             have c77b0 : decide (x10_3 < (((rd_T44 l0_3 a1).f2).length : Int)) = true := decide_eq_true c77
             clear c77
             by_cases c78 : 0 ≤ x10_3
             ·
              rw [if_pos c78] at H
              have c78b0 : decide (0 ≤ x10_3) = true := decide_eq_true c78
              clear c78
              replace H := Option.bind_eq_some_iff.mp H
              obtain ⟨t141, A790, H⟩ := H
              have A79 := Goto.m0 A790
              clear A790
              by_cases c80 : t141 = true
              ·
               subst c80
               rw [if_pos rfl] at H
               have H' := Goto.m0 H
               clear H; have hnb81 := NB127_125.out; have hnc81 := NB125_127.out
               have hcz82_0 := Goto.bc0 BK127
               have hcz82_1 := Goto.bc1 BK127
               have hcz82_2 := Goto.bc2 BK127
               have hcz82_3 := Goto.bc3 BK127
               have hcz82_4 := Goto.bc4 BK127
               have hcz82_5 := Goto.bc5 BK127
               have hcz82_6 := Goto.bc6 BK127
               have hcz82_7 := Goto.bc7 BK127
               have hcz82_8 := Goto.bc8 BK127
               have hcz82_9 := Goto.bc9 BK127
               have hfz82_0 := blk_frozen BK127.out 0; have hfz82_1 := blk_frozen BK127.out 1; have hfz82_2 := blk_frozen BK127.out 2; have hfz82_3 := blk_frozen BK127.out 3; have hfz82_4 := blk_frozen BK127.out 4; have hfz82_5 := blk_frozen BK127.out 5; have hfz82_6 := blk_frozen BK127.out 6; have hfz82_7 := blk_frozen BK127.out 7; have hfz82_8 := blk_frozen BK127.out 8; have hfz82_9 := blk_frozen BK127.out 9
               have p140 : 0 ≤ (x10_3 : Int) := of_decide_eq_true (by first | (with_reducible assumption) | assumption)
               have q140 : x10_3 < (((rd_T44 l0_3 a1).f2).length : Int) := of_decide_eq_true (by first | (with_reducible assumption) | assumption)
               obtain ⟨ad140, e140, hx140_0⟩ := Kd.at_int HR126_3.out x10_3 p140 q140
               cases e140
               replace hx140_0 := Goto.kc HB.out hx140_0
               replace p140 := eq_true p140; replace q140 := eq_true q140; have hcz83_0 := Goto.bc0 BK125; have hcz83_1 := Goto.bc1 BK125; have hcz83_2 := Goto.bc2 BK125
               have hcz83_3 := Goto.bc3 BK125
               have hfz83_0 := blk_frozen BK125.out 0; have hfz83_1 := blk_frozen BK125.out 1; have hfz83_2 := blk_frozen BK125.out 2; have hfz83_3 := blk_frozen BK125.out 3
               go_wp2_with (first | (go_at_call 41; (with_reducible refine (tontineref1_within.calls (rd ((rd_T44 l0_3 a1).f2) x10_3) 0 a0_0 true _ A79.out).mono ?_); rintro e w' ⟨rfl, ⟨nd, rfl⟩⟩; (try first | exact ⟨rfl, _, World.drewN_drewN _ _ _⟩ | exact ⟨rfl, _, Eq.trans (World.drewN_drewN _ _ _) (congrArg (World.drewN _) (Nat.add_assoc _ _ _))⟩)))
               repeat (go_quiet (first | (go_at_call 41; (with_reducible refine (tontineref1_within.calls (rd ((rd_T44 l0_3 a1).f2) x10_3) 0 a0_0 true _ A79.out).mono ?_); rintro e w' ⟨rfl, ⟨nd, rfl⟩⟩; (try first | exact ⟨rfl, _, World.drewN_drewN _ _ _⟩ | exact ⟨rfl, _, Eq.trans (World.drewN_drewN _ _ _) (congrArg (World.drewN _) (Nat.add_assoc _ _ _))⟩))); try go_wp2_with (first | (go_at_call 41; (with_reducible refine (tontineref1_within.calls (rd ((rd_T44 l0_3 a1).f2) x10_3) 0 a0_0 true _ A79.out).mono ?_); rintro e w' ⟨rfl, ⟨nd, rfl⟩⟩; (try first | exact ⟨rfl, _, World.drewN_drewN _ _ _⟩ | exact ⟨rfl, _, Eq.trans (World.drewN_drewN _ _ _) (congrArg (World.drewN _) (Nat.add_assoc _ _ _))⟩))))
               go_roundg k3
               case measure => have := HJ4.out; have := HK2.out; have := HK3.out; omega
               case rel => exact ⟨(wrap64 (x10_3 + 1)), (by first | rfl | (simp; done) | (simp [*]; done)), H', ⟨by have := HJ4.out; have := HK2.out; have := HK3.out; omega⟩, ⟨Goto.bx BK125⟩, ⟨Goto.bx BK127⟩, ⟨Goto.hx HB⟩⟩
              ·
               replace c80 := Bool.eq_false_iff.mpr c80
               subst c80
               rw [if_neg (show ¬ (false = true) by decide)] at H
               obtain rfl := Option.some.inj H
               have hnb84 := NB127_125.out; have hnc84 := NB125_127.out
               have hcz85_0 := Goto.bc0 BK127
               have hcz85_1 := Goto.bc1 BK127
               have hcz85_2 := Goto.bc2 BK127
               have hcz85_3 := Goto.bc3 BK127
               have hcz85_4 := Goto.bc4 BK127
               have hcz85_5 := Goto.bc5 BK127
               have hcz85_6 := Goto.bc6 BK127
               have hcz85_7 := Goto.bc7 BK127
               have hcz85_8 := Goto.bc8 BK127
               have hcz85_9 := Goto.bc9 BK127
               have hfz85_0 := blk_frozen BK127.out 0; have hfz85_1 := blk_frozen BK127.out 1; have hfz85_2 := blk_frozen BK127.out 2; have hfz85_3 := blk_frozen BK127.out 3; have hfz85_4 := blk_frozen BK127.out 4; have hfz85_5 := blk_frozen BK127.out 5; have hfz85_6 := blk_frozen BK127.out 6; have hfz85_7 := blk_frozen BK127.out 7; have hfz85_8 := blk_frozen BK127.out 8; have hfz85_9 := blk_frozen BK127.out 9
               have p140 : 0 ≤ (x10_3 : Int) := of_decide_eq_true (by first | (with_reducible assumption) | assumption)
               have q140 : x10_3 < (((rd_T44 l0_3 a1).f2).length : Int) := of_decide_eq_true (by first | (with_reducible assumption) | assumption)
               obtain ⟨ad140, e140, hx140_0⟩ := Kd.at_int HR126_3.out x10_3 p140 q140
               cases e140
               replace hx140_0 := Goto.kc HB.out hx140_0
               replace p140 := eq_true p140; replace q140 := eq_true q140; have hcz86_0 := Goto.bc0 BK125; have hcz86_1 := Goto.bc1 BK125; have hcz86_2 := Goto.bc2 BK125
               have hcz86_3 := Goto.bc3 BK125
               have hfz86_0 := blk_frozen BK125.out 0; have hfz86_1 := blk_frozen BK125.out 1; have hfz86_2 := blk_frozen BK125.out 2; have hfz86_3 := blk_frozen BK125.out 3
               go_wp2_with (first | (go_at_call 41; (with_reducible refine (tontineref1_within.calls (rd ((rd_T44 l0_3 a1).f2) x10_3) 0 a0_0 false _ A79.out).mono ?_); rintro e w' ⟨rfl, ⟨nd, rfl⟩⟩; (try first | exact ⟨rfl, _, World.drewN_drewN _ _ _⟩ | exact ⟨rfl, _, Eq.trans (World.drewN_drewN _ _ _) (congrArg (World.drewN _) (Nat.add_assoc _ _ _))⟩)))
               repeat (go_quiet (first | (go_at_call 41; (with_reducible refine (tontineref1_within.calls (rd ((rd_T44 l0_3 a1).f2) x10_3) 0 a0_0 false _ A79.out).mono ?_); rintro e w' ⟨rfl, ⟨nd, rfl⟩⟩; (try first | exact ⟨rfl, _, World.drewN_drewN _ _ _⟩ | exact ⟨rfl, _, Eq.trans (World.drewN_drewN _ _ _) (congrArg (World.drewN _) (Nat.add_assoc _ _ _))⟩))); try go_wp2_with (first | (go_at_call 41; (with_reducible refine (tontineref1_within.calls (rd ((rd_T44 l0_3 a1).f2) x10_3) 0 a0_0 false _ A79.out).mono ?_); rintro e w' ⟨rfl, ⟨nd, rfl⟩⟩; (try first | exact ⟨rfl, _, World.drewN_drewN _ _ _⟩ | exact ⟨rfl, _, Eq.trans (World.drewN_drewN _ _ _) (congrArg (World.drewN _) (Nat.add_assoc _ _ _))⟩))))
               go_ret
               exact ⟨by first | rfl | (simp [errW_none, errW_some] <;> rfl) | (simp [*, errW_none, errW_some] <;> rfl), by repeat (first | (with_reducible first | exact HB.out | apply below_alloc | apply pw_below_drewN | apply below_drew1 | refine below_set ?_ GE125.out | refine below_set ?_ GE127.out) | exact HB.out)⟩
             ·
              rw [if_neg c78] at H
              exact absurd H (by simp)
            ·
             rw [if_neg c77] at H
             have c77b0 : decide (x10_3 < (((rd_T44 l0_3 a1).f2).length : Int)) = false := decide_eq_false c77
             clear c77
             by_cases c87 : 0 ≤ ((rd_T44 l0_3 a1).f3)
             ·
              rw [if_pos c87] at H
              have c87b0 : decide (0 ≤ ((rd_T44 l0_3 a1).f3)) = true := decide_eq_true c87
              clear c87
              by_cases c88 : ((rd_T44 l0_3 a1).f3) < (l0_3.length : Int)
              ·
               rw [if_pos c88] at H
               have c88b0 : decide (((rd_T44 l0_3 a1).f3) < (l0_3.length : Int)) = true := decide_eq_true c88
               clear c88
               replace H := Option.bind_eq_some_iff.mp H
               obtain ⟨t144, A890, H⟩ := H
               have A89 := Goto.m0 A890
               clear A890
               by_cases c90 : t144 = true
               ·
                subst c90
                rw [if_pos rfl] at H
                replace H := Option.bind_eq_some_iff.mp H
                obtain ⟨t145, A910, H⟩ := H
                have A91 := Goto.m0 A910
                clear A910
                by_cases c92 : t145 = true
                ·
                 subst c92
                 rw [if_pos rfl] at H
                 obtain rfl := Option.some.inj H
                 have hnb93 := NB127_125.out; have hnc93 := NB125_127.out
                 have hcz94_0 := Goto.bc0 BK127
                 have hcz94_1 := Goto.bc1 BK127
                 have hcz94_2 := Goto.bc2 BK127
                 have hcz94_3 := Goto.bc3 BK127
                 have hcz94_4 := Goto.bc4 BK127
                 have hcz94_5 := Goto.bc5 BK127
                 have hcz94_6 := Goto.bc6 BK127
                 have hcz94_7 := Goto.bc7 BK127
                 have hcz94_8 := Goto.bc8 BK127
                 have hcz94_9 := Goto.bc9 BK127
                 have hfz94_0 := blk_frozen BK127.out 0; have hfz94_1 := blk_frozen BK127.out 1; have hfz94_2 := blk_frozen BK127.out 2; have hfz94_3 := blk_frozen BK127.out 3; have hfz94_4 := blk_frozen BK127.out 4; have hfz94_5 := blk_frozen BK127.out 5; have hfz94_6 := blk_frozen BK127.out 6; have hfz94_7 := blk_frozen BK127.out 7; have hfz94_8 := blk_frozen BK127.out 8; have hfz94_9 := blk_frozen BK127.out 9; have hcz95_0 := Goto.bc0 BK125; have hcz95_1 := Goto.bc1 BK125; have hcz95_2 := Goto.bc2 BK125
                 have hcz95_3 := Goto.bc3 BK125
                 have hfz95_0 := blk_frozen BK125.out 0; have hfz95_1 := blk_frozen BK125.out 1; have hfz95_2 := blk_frozen BK125.out 2; have hfz95_3 := blk_frozen BK125.out 3
                 have p142 : 0 ≤ (((rd_T44 l0_3 a1).f3) : Int) := of_decide_eq_true (by first | (with_reducible assumption) | assumption)
                 have q142 : ((rd_T44 l0_3 a1).f3) < (l0_3.length : Int) := of_decide_eq_true (by first | (with_reducible assumption) | assumption)
                 obtain ⟨ad142, A142_2, c142_2, A142_3, c142_3, e142, hx142_0, hx142_1, hx142_2, hx142_3, hx142_4, hx142_5, hx142_6, hx142_7, hx142_8, hx142_9, hl142_2, hi142_2, hl142_3, hi142_3⟩ := at_T44 HR0_3.out ((rd_T44 l0_3 a1).f3) p142 q142
                 obtain rfl : ad126 = ad142 := (by injection e142)
                 replace hx142_0 := Goto.kc HB.out hx142_0
                 replace hx142_1 := Goto.kc HB.out hx142_1
                 replace hx142_2 := Goto.kc HB.out hx142_2
                 replace hx142_3 := Goto.kc HB.out hx142_3
                 replace hx142_4 := Goto.kc HB.out hx142_4
                 replace hx142_5 := Goto.kc HB.out hx142_5
                 replace hx142_6 := Goto.kc HB.out hx142_6
                 replace hx142_7 := Goto.kc HB.out hx142_7
                 replace hx142_8 := Goto.kc HB.out hx142_8
                 replace hx142_9 := Goto.kc HB.out hx142_9
                 have HR142_2 := Goto.m0 hi142_2
                 have HC142_2 := Goto.m0 hl142_2
                 clear hi142_2 hl142_2
                 have HR142_3 := Goto.m0 hi142_3
                 have HC142_3 := Goto.m0 hl142_3
                 clear hi142_3 hl142_3; replace p142 := eq_true p142; replace q142 := eq_true q142
                 go_wp2_with (first | ((with_reducible refine gate_dst (N := 11) rfl ?_); (try (refine gate_guard (by rfl) ?_; dsimp only)); refine box_event ?hg (N := 11) ?hd (cs := #[.int .i64 0, .int .u64 0]) (t := 42) ?hr ?_; (case hd => rfl); (case hg => rfl); (case hr => first | (go_simp; done) | (go_simp; rfl)); intro gb143 hg w96 hbox hb; have BK143 := Goto.m0 (hbox); have GW143 := Goto.gs HB hg; have GE143 := Goto.gs HB hg; have NB125_143 := Goto.nl BK125 hg; have NB143_125 := Goto.nr BK125 hg; have NB127_143 := Goto.nl BK127 hg; have NB143_127 := Goto.nr BK127 hg; replace BK125 := Goto.bb BK125 hb; replace BK127 := Goto.bb BK127 hb; replace HB := Goto.hs HB hb; clear hb hbox hg; have hnb97 := NB143_125.out; have hnc97 := NB125_143.out; have hnb98 := NB143_127.out; have hnc98 := NB127_143.out; have hcz99_0 := Goto.bc0 BK143; have hcz99_1 := Goto.bc1 BK143; have hfz99_0 := blk_frozen BK143.out 0; have hfz99_1 := blk_frozen BK143.out 1; have hcz100_0 := Goto.bc0 BK127; have hcz100_1 := Goto.bc1 BK127; have hcz100_2 := Goto.bc2 BK127; have hcz100_3 := Goto.bc3 BK127; have hcz100_4 := Goto.bc4 BK127; have hcz100_5 := Goto.bc5 BK127; have hcz100_6 := Goto.bc6 BK127; have hcz100_7 := Goto.bc7 BK127; have hcz100_8 := Goto.bc8 BK127; have hcz100_9 := Goto.bc9 BK127; have hfz100_0 := blk_frozen BK127.out 0; have hfz100_1 := blk_frozen BK127.out 1; have hfz100_2 := blk_frozen BK127.out 2; have hfz100_3 := blk_frozen BK127.out 3; have hfz100_4 := blk_frozen BK127.out 4; have hfz100_5 := blk_frozen BK127.out 5; have hfz100_6 := blk_frozen BK127.out 6; have hfz100_7 := blk_frozen BK127.out 7; have hfz100_8 := blk_frozen BK127.out 8; have hfz100_9 := blk_frozen BK127.out 9) | (go_at_call 41; (with_reducible refine (tontineref1_within.calls (((rd_T44 l0_3 a1).f2).length : Int) 1 4 true _ A89.out).mono ?_); rintro e w' ⟨rfl, ⟨nd, rfl⟩⟩; (try first | exact ⟨rfl, _, World.drewN_drewN _ _ _⟩ | exact ⟨rfl, _, Eq.trans (World.drewN_drewN _ _ _) (congrArg (World.drewN _) (Nat.add_assoc _ _ _))⟩)) | (go_at_call 29; (with_reducible refine (tontineref1_Leq.calls ((rd_T44 l0_3 ((rd_T44 l0_3 a1).f3)).f0.f0) ((rd_T44 l0_3 ((rd_T44 l0_3 a1).f3)).f0.f1) ((rd_T44 l0_3 a1).f0.f0) ((rd_T44 l0_3 a1).f0.f1) true _ A91.out).mono ?_); rintro e w101 ⟨rfl, hb⟩; replace BK125 := Goto.bb BK125 hb; replace BK127 := Goto.bb BK127 hb; replace BK143 := Goto.bp (.cells #[.int .i64 ((rd_T44 l0_3 ((rd_T44 l0_3 a1).f3)).f0.f0), .int .u64 ((rd_T44 l0_3 ((rd_T44 l0_3 a1).f3)).f0.f1)] 42 (0, 0)) BK143 hb; replace HB := Goto.hs HB hb; (try clear hb); (try clear hb2); (try clear hk); (try clear hi); have hcz102_0 := Goto.bc0 BK143; have hcz102_1 := Goto.bc1 BK143; have hfz102_0 := blk_frozen BK143.out 0; have hfz102_1 := blk_frozen BK143.out 1; have hcz103_0 := Goto.bc0 BK127; have hcz103_1 := Goto.bc1 BK127; have hcz103_2 := Goto.bc2 BK127; have hcz103_3 := Goto.bc3 BK127; have hcz103_4 := Goto.bc4 BK127; have hcz103_5 := Goto.bc5 BK127; have hcz103_6 := Goto.bc6 BK127; have hcz103_7 := Goto.bc7 BK127; have hcz103_8 := Goto.bc8 BK127; have hcz103_9 := Goto.bc9 BK127; have hfz103_0 := blk_frozen BK127.out 0; have hfz103_1 := blk_frozen BK127.out 1; have hfz103_2 := blk_frozen BK127.out 2; have hfz103_3 := blk_frozen BK127.out 3; have hfz103_4 := blk_frozen BK127.out 4; have hfz103_5 := blk_frozen BK127.out 5; have hfz103_6 := blk_frozen BK127.out 6; have hfz103_7 := blk_frozen BK127.out 7; have hfz103_8 := blk_frozen BK127.out 8; have hfz103_9 := blk_frozen BK127.out 9))
                 repeat (go_quiet (first | ((with_reducible refine gate_dst (N := 11) rfl ?_); (try (refine gate_guard (by rfl) ?_; dsimp only)); refine box_event ?hg (N := 11) ?hd (cs := #[.int .i64 0, .int .u64 0]) (t := 42) ?hr ?_; (case hd => rfl); (case hg => rfl); (case hr => first | (go_simp; done) | (go_simp; rfl)); intro gb143 hg w96 hbox hb; have BK143 := Goto.m0 (hbox); have GW143 := Goto.gs HB hg; have GE143 := Goto.gs HB hg; have NB125_143 := Goto.nl BK125 hg; have NB143_125 := Goto.nr BK125 hg; have NB127_143 := Goto.nl BK127 hg; have NB143_127 := Goto.nr BK127 hg; replace BK125 := Goto.bb BK125 hb; replace BK127 := Goto.bb BK127 hb; replace HB := Goto.hs HB hb; clear hb hbox hg; have hnb97 := NB143_125.out; have hnc97 := NB125_143.out; have hnb98 := NB143_127.out; have hnc98 := NB127_143.out; have hcz99_0 := Goto.bc0 BK143; have hcz99_1 := Goto.bc1 BK143; have hfz99_0 := blk_frozen BK143.out 0; have hfz99_1 := blk_frozen BK143.out 1; have hcz100_0 := Goto.bc0 BK127; have hcz100_1 := Goto.bc1 BK127; have hcz100_2 := Goto.bc2 BK127; have hcz100_3 := Goto.bc3 BK127; have hcz100_4 := Goto.bc4 BK127; have hcz100_5 := Goto.bc5 BK127; have hcz100_6 := Goto.bc6 BK127; have hcz100_7 := Goto.bc7 BK127; have hcz100_8 := Goto.bc8 BK127; have hcz100_9 := Goto.bc9 BK127; have hfz100_0 := blk_frozen BK127.out 0; have hfz100_1 := blk_frozen BK127.out 1; have hfz100_2 := blk_frozen BK127.out 2; have hfz100_3 := blk_frozen BK127.out 3; have hfz100_4 := blk_frozen BK127.out 4; have hfz100_5 := blk_frozen BK127.out 5; have hfz100_6 := blk_frozen BK127.out 6; have hfz100_7 := blk_frozen BK127.out 7; have hfz100_8 := blk_frozen BK127.out 8; have hfz100_9 := blk_frozen BK127.out 9) | (go_at_call 41; (with_reducible refine (tontineref1_within.calls (((rd_T44 l0_3 a1).f2).length : Int) 1 4 true _ A89.out).mono ?_); rintro e w' ⟨rfl, ⟨nd, rfl⟩⟩; (try first | exact ⟨rfl, _, World.drewN_drewN _ _ _⟩ | exact ⟨rfl, _, Eq.trans (World.drewN_drewN _ _ _) (congrArg (World.drewN _) (Nat.add_assoc _ _ _))⟩)) | (go_at_call 29; (with_reducible refine (tontineref1_Leq.calls ((rd_T44 l0_3 ((rd_T44 l0_3 a1).f3)).f0.f0) ((rd_T44 l0_3 ((rd_T44 l0_3 a1).f3)).f0.f1) ((rd_T44 l0_3 a1).f0.f0) ((rd_T44 l0_3 a1).f0.f1) true _ A91.out).mono ?_); rintro e w101 ⟨rfl, hb⟩; replace BK125 := Goto.bb BK125 hb; replace BK127 := Goto.bb BK127 hb; replace BK143 := Goto.bp (.cells #[.int .i64 ((rd_T44 l0_3 ((rd_T44 l0_3 a1).f3)).f0.f0), .int .u64 ((rd_T44 l0_3 ((rd_T44 l0_3 a1).f3)).f0.f1)] 42 (0, 0)) BK143 hb; replace HB := Goto.hs HB hb; (try clear hb); (try clear hb2); (try clear hk); (try clear hi); have hcz102_0 := Goto.bc0 BK143; have hcz102_1 := Goto.bc1 BK143; have hfz102_0 := blk_frozen BK143.out 0; have hfz102_1 := blk_frozen BK143.out 1; have hcz103_0 := Goto.bc0 BK127; have hcz103_1 := Goto.bc1 BK127; have hcz103_2 := Goto.bc2 BK127; have hcz103_3 := Goto.bc3 BK127; have hcz103_4 := Goto.bc4 BK127; have hcz103_5 := Goto.bc5 BK127; have hcz103_6 := Goto.bc6 BK127; have hcz103_7 := Goto.bc7 BK127; have hcz103_8 := Goto.bc8 BK127; have hcz103_9 := Goto.bc9 BK127; have hfz103_0 := blk_frozen BK127.out 0; have hfz103_1 := blk_frozen BK127.out 1; have hfz103_2 := blk_frozen BK127.out 2; have hfz103_3 := blk_frozen BK127.out 3; have hfz103_4 := blk_frozen BK127.out 4; have hfz103_5 := blk_frozen BK127.out 5; have hfz103_6 := blk_frozen BK127.out 6; have hfz103_7 := blk_frozen BK127.out 7; have hfz103_8 := blk_frozen BK127.out 8; have hfz103_9 := blk_frozen BK127.out 9)); try go_wp2_with (first | ((with_reducible refine gate_dst (N := 11) rfl ?_); (try (refine gate_guard (by rfl) ?_; dsimp only)); refine box_event ?hg (N := 11) ?hd (cs := #[.int .i64 0, .int .u64 0]) (t := 42) ?hr ?_; (case hd => rfl); (case hg => rfl); (case hr => first | (go_simp; done) | (go_simp; rfl)); intro gb143 hg w96 hbox hb; have BK143 := Goto.m0 (hbox); have GW143 := Goto.gs HB hg; have GE143 := Goto.gs HB hg; have NB125_143 := Goto.nl BK125 hg; have NB143_125 := Goto.nr BK125 hg; have NB127_143 := Goto.nl BK127 hg; have NB143_127 := Goto.nr BK127 hg; replace BK125 := Goto.bb BK125 hb; replace BK127 := Goto.bb BK127 hb; replace HB := Goto.hs HB hb; clear hb hbox hg; have hnb97 := NB143_125.out; have hnc97 := NB125_143.out; have hnb98 := NB143_127.out; have hnc98 := NB127_143.out; have hcz99_0 := Goto.bc0 BK143; have hcz99_1 := Goto.bc1 BK143; have hfz99_0 := blk_frozen BK143.out 0; have hfz99_1 := blk_frozen BK143.out 1; have hcz100_0 := Goto.bc0 BK127; have hcz100_1 := Goto.bc1 BK127; have hcz100_2 := Goto.bc2 BK127; have hcz100_3 := Goto.bc3 BK127; have hcz100_4 := Goto.bc4 BK127; have hcz100_5 := Goto.bc5 BK127; have hcz100_6 := Goto.bc6 BK127; have hcz100_7 := Goto.bc7 BK127; have hcz100_8 := Goto.bc8 BK127; have hcz100_9 := Goto.bc9 BK127; have hfz100_0 := blk_frozen BK127.out 0; have hfz100_1 := blk_frozen BK127.out 1; have hfz100_2 := blk_frozen BK127.out 2; have hfz100_3 := blk_frozen BK127.out 3; have hfz100_4 := blk_frozen BK127.out 4; have hfz100_5 := blk_frozen BK127.out 5; have hfz100_6 := blk_frozen BK127.out 6; have hfz100_7 := blk_frozen BK127.out 7; have hfz100_8 := blk_frozen BK127.out 8; have hfz100_9 := blk_frozen BK127.out 9) | (go_at_call 41; (with_reducible refine (tontineref1_within.calls (((rd_T44 l0_3 a1).f2).length : Int) 1 4 true _ A89.out).mono ?_); rintro e w' ⟨rfl, ⟨nd, rfl⟩⟩; (try first | exact ⟨rfl, _, World.drewN_drewN _ _ _⟩ | exact ⟨rfl, _, Eq.trans (World.drewN_drewN _ _ _) (congrArg (World.drewN _) (Nat.add_assoc _ _ _))⟩)) | (go_at_call 29; (with_reducible refine (tontineref1_Leq.calls ((rd_T44 l0_3 ((rd_T44 l0_3 a1).f3)).f0.f0) ((rd_T44 l0_3 ((rd_T44 l0_3 a1).f3)).f0.f1) ((rd_T44 l0_3 a1).f0.f0) ((rd_T44 l0_3 a1).f0.f1) true _ A91.out).mono ?_); rintro e w101 ⟨rfl, hb⟩; replace BK125 := Goto.bb BK125 hb; replace BK127 := Goto.bb BK127 hb; replace BK143 := Goto.bp (.cells #[.int .i64 ((rd_T44 l0_3 ((rd_T44 l0_3 a1).f3)).f0.f0), .int .u64 ((rd_T44 l0_3 ((rd_T44 l0_3 a1).f3)).f0.f1)] 42 (0, 0)) BK143 hb; replace HB := Goto.hs HB hb; (try clear hb); (try clear hb2); (try clear hk); (try clear hi); have hcz102_0 := Goto.bc0 BK143; have hcz102_1 := Goto.bc1 BK143; have hfz102_0 := blk_frozen BK143.out 0; have hfz102_1 := blk_frozen BK143.out 1; have hcz103_0 := Goto.bc0 BK127; have hcz103_1 := Goto.bc1 BK127; have hcz103_2 := Goto.bc2 BK127; have hcz103_3 := Goto.bc3 BK127; have hcz103_4 := Goto.bc4 BK127; have hcz103_5 := Goto.bc5 BK127; have hcz103_6 := Goto.bc6 BK127; have hcz103_7 := Goto.bc7 BK127; have hcz103_8 := Goto.bc8 BK127; have hcz103_9 := Goto.bc9 BK127; have hfz103_0 := blk_frozen BK127.out 0; have hfz103_1 := blk_frozen BK127.out 1; have hfz103_2 := blk_frozen BK127.out 2; have hfz103_3 := blk_frozen BK127.out 3; have hfz103_4 := blk_frozen BK127.out 4; have hfz103_5 := blk_frozen BK127.out 5; have hfz103_6 := blk_frozen BK127.out 6; have hfz103_7 := blk_frozen BK127.out 7; have hfz103_8 := blk_frozen BK127.out 8; have hfz103_9 := blk_frozen BK127.out 9)))
                 go_ret
                 exact ⟨by first | rfl | (simp [errW_none, errW_some] <;> rfl) | (simp [*, errW_none, errW_some] <;> rfl), by repeat (first | (with_reducible first | exact HB.out | apply below_alloc | apply pw_below_drewN | apply below_drew1 | refine below_set ?_ GE125.out | refine below_set ?_ GE127.out | refine below_set ?_ GE143.out) | exact HB.out)⟩
                ·
                 replace c92 := Bool.eq_false_iff.mpr c92
                 subst c92
                 rw [if_neg (show ¬ (false = true) by decide)] at H
                 obtain rfl := Option.some.inj H
                 have hnb104 := NB127_125.out; have hnc104 := NB125_127.out
                 have hcz105_0 := Goto.bc0 BK127
                 have hcz105_1 := Goto.bc1 BK127
                 have hcz105_2 := Goto.bc2 BK127
                 have hcz105_3 := Goto.bc3 BK127
                 have hcz105_4 := Goto.bc4 BK127
                 have hcz105_5 := Goto.bc5 BK127
                 have hcz105_6 := Goto.bc6 BK127
                 have hcz105_7 := Goto.bc7 BK127
                 have hcz105_8 := Goto.bc8 BK127
                 have hcz105_9 := Goto.bc9 BK127
                 have hfz105_0 := blk_frozen BK127.out 0; have hfz105_1 := blk_frozen BK127.out 1; have hfz105_2 := blk_frozen BK127.out 2; have hfz105_3 := blk_frozen BK127.out 3; have hfz105_4 := blk_frozen BK127.out 4; have hfz105_5 := blk_frozen BK127.out 5; have hfz105_6 := blk_frozen BK127.out 6; have hfz105_7 := blk_frozen BK127.out 7; have hfz105_8 := blk_frozen BK127.out 8; have hfz105_9 := blk_frozen BK127.out 9; have hcz106_0 := Goto.bc0 BK125; have hcz106_1 := Goto.bc1 BK125; have hcz106_2 := Goto.bc2 BK125
                 have hcz106_3 := Goto.bc3 BK125
                 have hfz106_0 := blk_frozen BK125.out 0; have hfz106_1 := blk_frozen BK125.out 1; have hfz106_2 := blk_frozen BK125.out 2; have hfz106_3 := blk_frozen BK125.out 3
                 have p142 : 0 ≤ (((rd_T44 l0_3 a1).f3) : Int) := of_decide_eq_true (by first | (with_reducible assumption) | assumption)
                 have q142 : ((rd_T44 l0_3 a1).f3) < (l0_3.length : Int) := of_decide_eq_true (by first | (with_reducible assumption) | assumption)
                 obtain ⟨ad142, A142_2, c142_2, A142_3, c142_3, e142, hx142_0, hx142_1, hx142_2, hx142_3, hx142_4, hx142_5, hx142_6, hx142_7, hx142_8, hx142_9, hl142_2, hi142_2, hl142_3, hi142_3⟩ := at_T44 HR0_3.out ((rd_T44 l0_3 a1).f3) p142 q142
                 obtain rfl : ad126 = ad142 := (by injection e142)
                 replace hx142_0 := Goto.kc HB.out hx142_0
                 replace hx142_1 := Goto.kc HB.out hx142_1
                 replace hx142_2 := Goto.kc HB.out hx142_2
                 replace hx142_3 := Goto.kc HB.out hx142_3
                 replace hx142_4 := Goto.kc HB.out hx142_4
                 replace hx142_5 := Goto.kc HB.out hx142_5
                 replace hx142_6 := Goto.kc HB.out hx142_6
                 replace hx142_7 := Goto.kc HB.out hx142_7
                 replace hx142_8 := Goto.kc HB.out hx142_8
                 replace hx142_9 := Goto.kc HB.out hx142_9
                 have HR142_2 := Goto.m0 hi142_2
                 have HC142_2 := Goto.m0 hl142_2
                 clear hi142_2 hl142_2
                 have HR142_3 := Goto.m0 hi142_3
                 have HC142_3 := Goto.m0 hl142_3
                 clear hi142_3 hl142_3; replace p142 := eq_true p142; replace q142 := eq_true q142
                 go_wp2_with (first | ((with_reducible refine gate_dst (N := 11) rfl ?_); (try (refine gate_guard (by rfl) ?_; dsimp only)); refine box_event ?hg (N := 11) ?hd (cs := #[.int .i64 0, .int .u64 0]) (t := 42) ?hr ?_; (case hd => rfl); (case hg => rfl); (case hr => first | (go_simp; done) | (go_simp; rfl)); intro gb143 hg w107 hbox hb; have BK143 := Goto.m0 (hbox); have GW143 := Goto.gs HB hg; have GE143 := Goto.gs HB hg; have NB125_143 := Goto.nl BK125 hg; have NB143_125 := Goto.nr BK125 hg; have NB127_143 := Goto.nl BK127 hg; have NB143_127 := Goto.nr BK127 hg; replace BK125 := Goto.bb BK125 hb; replace BK127 := Goto.bb BK127 hb; replace HB := Goto.hs HB hb; clear hb hbox hg; have hnb108 := NB143_125.out; have hnc108 := NB125_143.out; have hnb109 := NB143_127.out; have hnc109 := NB127_143.out; have hcz110_0 := Goto.bc0 BK143; have hcz110_1 := Goto.bc1 BK143; have hfz110_0 := blk_frozen BK143.out 0; have hfz110_1 := blk_frozen BK143.out 1; have hcz111_0 := Goto.bc0 BK127; have hcz111_1 := Goto.bc1 BK127; have hcz111_2 := Goto.bc2 BK127; have hcz111_3 := Goto.bc3 BK127; have hcz111_4 := Goto.bc4 BK127; have hcz111_5 := Goto.bc5 BK127; have hcz111_6 := Goto.bc6 BK127; have hcz111_7 := Goto.bc7 BK127; have hcz111_8 := Goto.bc8 BK127; have hcz111_9 := Goto.bc9 BK127; have hfz111_0 := blk_frozen BK127.out 0; have hfz111_1 := blk_frozen BK127.out 1; have hfz111_2 := blk_frozen BK127.out 2; have hfz111_3 := blk_frozen BK127.out 3; have hfz111_4 := blk_frozen BK127.out 4; have hfz111_5 := blk_frozen BK127.out 5; have hfz111_6 := blk_frozen BK127.out 6; have hfz111_7 := blk_frozen BK127.out 7; have hfz111_8 := blk_frozen BK127.out 8; have hfz111_9 := blk_frozen BK127.out 9) | (go_at_call 41; (with_reducible refine (tontineref1_within.calls (((rd_T44 l0_3 a1).f2).length : Int) 1 4 true _ A89.out).mono ?_); rintro e w' ⟨rfl, ⟨nd, rfl⟩⟩; (try first | exact ⟨rfl, _, World.drewN_drewN _ _ _⟩ | exact ⟨rfl, _, Eq.trans (World.drewN_drewN _ _ _) (congrArg (World.drewN _) (Nat.add_assoc _ _ _))⟩)) | (go_at_call 29; (with_reducible refine (tontineref1_Leq.calls ((rd_T44 l0_3 ((rd_T44 l0_3 a1).f3)).f0.f0) ((rd_T44 l0_3 ((rd_T44 l0_3 a1).f3)).f0.f1) ((rd_T44 l0_3 a1).f0.f0) ((rd_T44 l0_3 a1).f0.f1) false _ A91.out).mono ?_); rintro e w112 ⟨rfl, hb⟩; replace BK125 := Goto.bb BK125 hb; replace BK127 := Goto.bb BK127 hb; replace BK143 := Goto.bp (.cells #[.int .i64 ((rd_T44 l0_3 ((rd_T44 l0_3 a1).f3)).f0.f0), .int .u64 ((rd_T44 l0_3 ((rd_T44 l0_3 a1).f3)).f0.f1)] 42 (0, 0)) BK143 hb; replace HB := Goto.hs HB hb; (try clear hb); (try clear hb2); (try clear hk); (try clear hi)))
                 repeat (go_quiet (first | ((with_reducible refine gate_dst (N := 11) rfl ?_); (try (refine gate_guard (by rfl) ?_; dsimp only)); refine box_event ?hg (N := 11) ?hd (cs := #[.int .i64 0, .int .u64 0]) (t := 42) ?hr ?_; (case hd => rfl); (case hg => rfl); (case hr => first | (go_simp; done) | (go_simp; rfl)); intro gb143 hg w107 hbox hb; have BK143 := Goto.m0 (hbox); have GW143 := Goto.gs HB hg; have GE143 := Goto.gs HB hg; have NB125_143 := Goto.nl BK125 hg; have NB143_125 := Goto.nr BK125 hg; have NB127_143 := Goto.nl BK127 hg; have NB143_127 := Goto.nr BK127 hg; replace BK125 := Goto.bb BK125 hb; replace BK127 := Goto.bb BK127 hb; replace HB := Goto.hs HB hb; clear hb hbox hg; have hnb108 := NB143_125.out; have hnc108 := NB125_143.out; have hnb109 := NB143_127.out; have hnc109 := NB127_143.out; have hcz110_0 := Goto.bc0 BK143; have hcz110_1 := Goto.bc1 BK143; have hfz110_0 := blk_frozen BK143.out 0; have hfz110_1 := blk_frozen BK143.out 1; have hcz111_0 := Goto.bc0 BK127; have hcz111_1 := Goto.bc1 BK127; have hcz111_2 := Goto.bc2 BK127; have hcz111_3 := Goto.bc3 BK127; have hcz111_4 := Goto.bc4 BK127; have hcz111_5 := Goto.bc5 BK127; have hcz111_6 := Goto.bc6 BK127; have hcz111_7 := Goto.bc7 BK127; have hcz111_8 := Goto.bc8 BK127; have hcz111_9 := Goto.bc9 BK127; have hfz111_0 := blk_frozen BK127.out 0; have hfz111_1 := blk_frozen BK127.out 1; have hfz111_2 := blk_frozen BK127.out 2; have hfz111_3 := blk_frozen BK127.out 3; have hfz111_4 := blk_frozen BK127.out 4; have hfz111_5 := blk_frozen BK127.out 5; have hfz111_6 := blk_frozen BK127.out 6; have hfz111_7 := blk_frozen BK127.out 7; have hfz111_8 := blk_frozen BK127.out 8; have hfz111_9 := blk_frozen BK127.out 9) | (go_at_call 41; (with_reducible refine (tontineref1_within.calls (((rd_T44 l0_3 a1).f2).length : Int) 1 4 true _ A89.out).mono ?_); rintro e w' ⟨rfl, ⟨nd, rfl⟩⟩; (try first | exact ⟨rfl, _, World.drewN_drewN _ _ _⟩ | exact ⟨rfl, _, Eq.trans (World.drewN_drewN _ _ _) (congrArg (World.drewN _) (Nat.add_assoc _ _ _))⟩)) | (go_at_call 29; (with_reducible refine (tontineref1_Leq.calls ((rd_T44 l0_3 ((rd_T44 l0_3 a1).f3)).f0.f0) ((rd_T44 l0_3 ((rd_T44 l0_3 a1).f3)).f0.f1) ((rd_T44 l0_3 a1).f0.f0) ((rd_T44 l0_3 a1).f0.f1) false _ A91.out).mono ?_); rintro e w112 ⟨rfl, hb⟩; replace BK125 := Goto.bb BK125 hb; replace BK127 := Goto.bb BK127 hb; replace BK143 := Goto.bp (.cells #[.int .i64 ((rd_T44 l0_3 ((rd_T44 l0_3 a1).f3)).f0.f0), .int .u64 ((rd_T44 l0_3 ((rd_T44 l0_3 a1).f3)).f0.f1)] 42 (0, 0)) BK143 hb; replace HB := Goto.hs HB hb; (try clear hb); (try clear hb2); (try clear hk); (try clear hi))); try go_wp2_with (first | ((with_reducible refine gate_dst (N := 11) rfl ?_); (try (refine gate_guard (by rfl) ?_; dsimp only)); refine box_event ?hg (N := 11) ?hd (cs := #[.int .i64 0, .int .u64 0]) (t := 42) ?hr ?_; (case hd => rfl); (case hg => rfl); (case hr => first | (go_simp; done) | (go_simp; rfl)); intro gb143 hg w107 hbox hb; have BK143 := Goto.m0 (hbox); have GW143 := Goto.gs HB hg; have GE143 := Goto.gs HB hg; have NB125_143 := Goto.nl BK125 hg; have NB143_125 := Goto.nr BK125 hg; have NB127_143 := Goto.nl BK127 hg; have NB143_127 := Goto.nr BK127 hg; replace BK125 := Goto.bb BK125 hb; replace BK127 := Goto.bb BK127 hb; replace HB := Goto.hs HB hb; clear hb hbox hg; have hnb108 := NB143_125.out; have hnc108 := NB125_143.out; have hnb109 := NB143_127.out; have hnc109 := NB127_143.out; have hcz110_0 := Goto.bc0 BK143; have hcz110_1 := Goto.bc1 BK143; have hfz110_0 := blk_frozen BK143.out 0; have hfz110_1 := blk_frozen BK143.out 1; have hcz111_0 := Goto.bc0 BK127; have hcz111_1 := Goto.bc1 BK127; have hcz111_2 := Goto.bc2 BK127; have hcz111_3 := Goto.bc3 BK127; have hcz111_4 := Goto.bc4 BK127; have hcz111_5 := Goto.bc5 BK127; have hcz111_6 := Goto.bc6 BK127; have hcz111_7 := Goto.bc7 BK127; have hcz111_8 := Goto.bc8 BK127; have hcz111_9 := Goto.bc9 BK127; have hfz111_0 := blk_frozen BK127.out 0; have hfz111_1 := blk_frozen BK127.out 1; have hfz111_2 := blk_frozen BK127.out 2; have hfz111_3 := blk_frozen BK127.out 3; have hfz111_4 := blk_frozen BK127.out 4; have hfz111_5 := blk_frozen BK127.out 5; have hfz111_6 := blk_frozen BK127.out 6; have hfz111_7 := blk_frozen BK127.out 7; have hfz111_8 := blk_frozen BK127.out 8; have hfz111_9 := blk_frozen BK127.out 9) | (go_at_call 41; (with_reducible refine (tontineref1_within.calls (((rd_T44 l0_3 a1).f2).length : Int) 1 4 true _ A89.out).mono ?_); rintro e w' ⟨rfl, ⟨nd, rfl⟩⟩; (try first | exact ⟨rfl, _, World.drewN_drewN _ _ _⟩ | exact ⟨rfl, _, Eq.trans (World.drewN_drewN _ _ _) (congrArg (World.drewN _) (Nat.add_assoc _ _ _))⟩)) | (go_at_call 29; (with_reducible refine (tontineref1_Leq.calls ((rd_T44 l0_3 ((rd_T44 l0_3 a1).f3)).f0.f0) ((rd_T44 l0_3 ((rd_T44 l0_3 a1).f3)).f0.f1) ((rd_T44 l0_3 a1).f0.f0) ((rd_T44 l0_3 a1).f0.f1) false _ A91.out).mono ?_); rintro e w112 ⟨rfl, hb⟩; replace BK125 := Goto.bb BK125 hb; replace BK127 := Goto.bb BK127 hb; replace BK143 := Goto.bp (.cells #[.int .i64 ((rd_T44 l0_3 ((rd_T44 l0_3 a1).f3)).f0.f0), .int .u64 ((rd_T44 l0_3 ((rd_T44 l0_3 a1).f3)).f0.f1)] 42 (0, 0)) BK143 hb; replace HB := Goto.hs HB hb; (try clear hb); (try clear hb2); (try clear hk); (try clear hi))))
                 go_ret
                 exact ⟨by first | rfl | (simp [errW_none, errW_some] <;> rfl) | (simp [*, errW_none, errW_some] <;> rfl), by repeat (first | (with_reducible first | exact HB.out | apply below_alloc | apply pw_below_drewN | apply below_drew1 | refine below_set ?_ GE125.out | refine below_set ?_ GE127.out | refine below_set ?_ GE143.out) | exact HB.out)⟩
               ·
                replace c90 := Bool.eq_false_iff.mpr c90
                subst c90
                rw [if_neg (show ¬ (false = true) by decide)] at H
                obtain rfl := Option.some.inj H
                have hnb113 := NB127_125.out; have hnc113 := NB125_127.out
                have hcz114_0 := Goto.bc0 BK127
                have hcz114_1 := Goto.bc1 BK127
                have hcz114_2 := Goto.bc2 BK127
                have hcz114_3 := Goto.bc3 BK127
                have hcz114_4 := Goto.bc4 BK127
                have hcz114_5 := Goto.bc5 BK127
                have hcz114_6 := Goto.bc6 BK127
                have hcz114_7 := Goto.bc7 BK127
                have hcz114_8 := Goto.bc8 BK127
                have hcz114_9 := Goto.bc9 BK127
                have hfz114_0 := blk_frozen BK127.out 0; have hfz114_1 := blk_frozen BK127.out 1; have hfz114_2 := blk_frozen BK127.out 2; have hfz114_3 := blk_frozen BK127.out 3; have hfz114_4 := blk_frozen BK127.out 4; have hfz114_5 := blk_frozen BK127.out 5; have hfz114_6 := blk_frozen BK127.out 6; have hfz114_7 := blk_frozen BK127.out 7; have hfz114_8 := blk_frozen BK127.out 8; have hfz114_9 := blk_frozen BK127.out 9; have hcz115_0 := Goto.bc0 BK125; have hcz115_1 := Goto.bc1 BK125; have hcz115_2 := Goto.bc2 BK125
                have hcz115_3 := Goto.bc3 BK125
                have hfz115_0 := blk_frozen BK125.out 0; have hfz115_1 := blk_frozen BK125.out 1; have hfz115_2 := blk_frozen BK125.out 2; have hfz115_3 := blk_frozen BK125.out 3
                have p142 : 0 ≤ (((rd_T44 l0_3 a1).f3) : Int) := of_decide_eq_true (by first | (with_reducible assumption) | assumption)
                have q142 : ((rd_T44 l0_3 a1).f3) < (l0_3.length : Int) := of_decide_eq_true (by first | (with_reducible assumption) | assumption)
                obtain ⟨ad142, A142_2, c142_2, A142_3, c142_3, e142, hx142_0, hx142_1, hx142_2, hx142_3, hx142_4, hx142_5, hx142_6, hx142_7, hx142_8, hx142_9, hl142_2, hi142_2, hl142_3, hi142_3⟩ := at_T44 HR0_3.out ((rd_T44 l0_3 a1).f3) p142 q142
                obtain rfl : ad126 = ad142 := (by injection e142)
                replace hx142_0 := Goto.kc HB.out hx142_0
                replace hx142_1 := Goto.kc HB.out hx142_1
                replace hx142_2 := Goto.kc HB.out hx142_2
                replace hx142_3 := Goto.kc HB.out hx142_3
                replace hx142_4 := Goto.kc HB.out hx142_4
                replace hx142_5 := Goto.kc HB.out hx142_5
                replace hx142_6 := Goto.kc HB.out hx142_6
                replace hx142_7 := Goto.kc HB.out hx142_7
                replace hx142_8 := Goto.kc HB.out hx142_8
                replace hx142_9 := Goto.kc HB.out hx142_9
                have HR142_2 := Goto.m0 hi142_2
                have HC142_2 := Goto.m0 hl142_2
                clear hi142_2 hl142_2
                have HR142_3 := Goto.m0 hi142_3
                have HC142_3 := Goto.m0 hl142_3
                clear hi142_3 hl142_3; replace p142 := eq_true p142; replace q142 := eq_true q142
                go_wp2_with (first | ((with_reducible refine gate_dst (N := 11) rfl ?_); (try (refine gate_guard (by rfl) ?_; dsimp only)); refine box_event ?hg (N := 11) ?hd (cs := #[.int .i64 0, .int .u64 0]) (t := 42) ?hr ?_; (case hd => rfl); (case hg => rfl); (case hr => first | (go_simp; done) | (go_simp; rfl)); intro gb143 hg w116 hbox hb; have BK143 := Goto.m0 (hbox); have GW143 := Goto.gs HB hg; have GE143 := Goto.gs HB hg; have NB125_143 := Goto.nl BK125 hg; have NB143_125 := Goto.nr BK125 hg; have NB127_143 := Goto.nl BK127 hg; have NB143_127 := Goto.nr BK127 hg; replace BK125 := Goto.bb BK125 hb; replace BK127 := Goto.bb BK127 hb; replace HB := Goto.hs HB hb; clear hb hbox hg; have hnb117 := NB143_125.out; have hnc117 := NB125_143.out; have hnb118 := NB143_127.out; have hnc118 := NB127_143.out; have hcz119_0 := Goto.bc0 BK143; have hcz119_1 := Goto.bc1 BK143; have hfz119_0 := blk_frozen BK143.out 0; have hfz119_1 := blk_frozen BK143.out 1; have hcz120_0 := Goto.bc0 BK127; have hcz120_1 := Goto.bc1 BK127; have hcz120_2 := Goto.bc2 BK127; have hcz120_3 := Goto.bc3 BK127; have hcz120_4 := Goto.bc4 BK127; have hcz120_5 := Goto.bc5 BK127; have hcz120_6 := Goto.bc6 BK127; have hcz120_7 := Goto.bc7 BK127; have hcz120_8 := Goto.bc8 BK127; have hcz120_9 := Goto.bc9 BK127; have hfz120_0 := blk_frozen BK127.out 0; have hfz120_1 := blk_frozen BK127.out 1; have hfz120_2 := blk_frozen BK127.out 2; have hfz120_3 := blk_frozen BK127.out 3; have hfz120_4 := blk_frozen BK127.out 4; have hfz120_5 := blk_frozen BK127.out 5; have hfz120_6 := blk_frozen BK127.out 6; have hfz120_7 := blk_frozen BK127.out 7; have hfz120_8 := blk_frozen BK127.out 8; have hfz120_9 := blk_frozen BK127.out 9) | (go_at_call 41; (with_reducible refine (tontineref1_within.calls (((rd_T44 l0_3 a1).f2).length : Int) 1 4 false _ A89.out).mono ?_); rintro e w' ⟨rfl, ⟨nd, rfl⟩⟩; (try first | exact ⟨rfl, _, World.drewN_drewN _ _ _⟩ | exact ⟨rfl, _, Eq.trans (World.drewN_drewN _ _ _) (congrArg (World.drewN _) (Nat.add_assoc _ _ _))⟩)))
                repeat (go_quiet (first | ((with_reducible refine gate_dst (N := 11) rfl ?_); (try (refine gate_guard (by rfl) ?_; dsimp only)); refine box_event ?hg (N := 11) ?hd (cs := #[.int .i64 0, .int .u64 0]) (t := 42) ?hr ?_; (case hd => rfl); (case hg => rfl); (case hr => first | (go_simp; done) | (go_simp; rfl)); intro gb143 hg w116 hbox hb; have BK143 := Goto.m0 (hbox); have GW143 := Goto.gs HB hg; have GE143 := Goto.gs HB hg; have NB125_143 := Goto.nl BK125 hg; have NB143_125 := Goto.nr BK125 hg; have NB127_143 := Goto.nl BK127 hg; have NB143_127 := Goto.nr BK127 hg; replace BK125 := Goto.bb BK125 hb; replace BK127 := Goto.bb BK127 hb; replace HB := Goto.hs HB hb; clear hb hbox hg; have hnb117 := NB143_125.out; have hnc117 := NB125_143.out; have hnb118 := NB143_127.out; have hnc118 := NB127_143.out; have hcz119_0 := Goto.bc0 BK143; have hcz119_1 := Goto.bc1 BK143; have hfz119_0 := blk_frozen BK143.out 0; have hfz119_1 := blk_frozen BK143.out 1; have hcz120_0 := Goto.bc0 BK127; have hcz120_1 := Goto.bc1 BK127; have hcz120_2 := Goto.bc2 BK127; have hcz120_3 := Goto.bc3 BK127; have hcz120_4 := Goto.bc4 BK127; have hcz120_5 := Goto.bc5 BK127; have hcz120_6 := Goto.bc6 BK127; have hcz120_7 := Goto.bc7 BK127; have hcz120_8 := Goto.bc8 BK127; have hcz120_9 := Goto.bc9 BK127; have hfz120_0 := blk_frozen BK127.out 0; have hfz120_1 := blk_frozen BK127.out 1; have hfz120_2 := blk_frozen BK127.out 2; have hfz120_3 := blk_frozen BK127.out 3; have hfz120_4 := blk_frozen BK127.out 4; have hfz120_5 := blk_frozen BK127.out 5; have hfz120_6 := blk_frozen BK127.out 6; have hfz120_7 := blk_frozen BK127.out 7; have hfz120_8 := blk_frozen BK127.out 8; have hfz120_9 := blk_frozen BK127.out 9) | (go_at_call 41; (with_reducible refine (tontineref1_within.calls (((rd_T44 l0_3 a1).f2).length : Int) 1 4 false _ A89.out).mono ?_); rintro e w' ⟨rfl, ⟨nd, rfl⟩⟩; (try first | exact ⟨rfl, _, World.drewN_drewN _ _ _⟩ | exact ⟨rfl, _, Eq.trans (World.drewN_drewN _ _ _) (congrArg (World.drewN _) (Nat.add_assoc _ _ _))⟩))); try go_wp2_with (first | ((with_reducible refine gate_dst (N := 11) rfl ?_); (try (refine gate_guard (by rfl) ?_; dsimp only)); refine box_event ?hg (N := 11) ?hd (cs := #[.int .i64 0, .int .u64 0]) (t := 42) ?hr ?_; (case hd => rfl); (case hg => rfl); (case hr => first | (go_simp; done) | (go_simp; rfl)); intro gb143 hg w116 hbox hb; have BK143 := Goto.m0 (hbox); have GW143 := Goto.gs HB hg; have GE143 := Goto.gs HB hg; have NB125_143 := Goto.nl BK125 hg; have NB143_125 := Goto.nr BK125 hg; have NB127_143 := Goto.nl BK127 hg; have NB143_127 := Goto.nr BK127 hg; replace BK125 := Goto.bb BK125 hb; replace BK127 := Goto.bb BK127 hb; replace HB := Goto.hs HB hb; clear hb hbox hg; have hnb117 := NB143_125.out; have hnc117 := NB125_143.out; have hnb118 := NB143_127.out; have hnc118 := NB127_143.out; have hcz119_0 := Goto.bc0 BK143; have hcz119_1 := Goto.bc1 BK143; have hfz119_0 := blk_frozen BK143.out 0; have hfz119_1 := blk_frozen BK143.out 1; have hcz120_0 := Goto.bc0 BK127; have hcz120_1 := Goto.bc1 BK127; have hcz120_2 := Goto.bc2 BK127; have hcz120_3 := Goto.bc3 BK127; have hcz120_4 := Goto.bc4 BK127; have hcz120_5 := Goto.bc5 BK127; have hcz120_6 := Goto.bc6 BK127; have hcz120_7 := Goto.bc7 BK127; have hcz120_8 := Goto.bc8 BK127; have hcz120_9 := Goto.bc9 BK127; have hfz120_0 := blk_frozen BK127.out 0; have hfz120_1 := blk_frozen BK127.out 1; have hfz120_2 := blk_frozen BK127.out 2; have hfz120_3 := blk_frozen BK127.out 3; have hfz120_4 := blk_frozen BK127.out 4; have hfz120_5 := blk_frozen BK127.out 5; have hfz120_6 := blk_frozen BK127.out 6; have hfz120_7 := blk_frozen BK127.out 7; have hfz120_8 := blk_frozen BK127.out 8; have hfz120_9 := blk_frozen BK127.out 9) | (go_at_call 41; (with_reducible refine (tontineref1_within.calls (((rd_T44 l0_3 a1).f2).length : Int) 1 4 false _ A89.out).mono ?_); rintro e w' ⟨rfl, ⟨nd, rfl⟩⟩; (try first | exact ⟨rfl, _, World.drewN_drewN _ _ _⟩ | exact ⟨rfl, _, Eq.trans (World.drewN_drewN _ _ _) (congrArg (World.drewN _) (Nat.add_assoc _ _ _))⟩))))
                go_ret
                exact ⟨by first | rfl | (simp [errW_none, errW_some] <;> rfl) | (simp [*, errW_none, errW_some] <;> rfl), by repeat (first | (with_reducible first | exact HB.out | apply below_alloc | apply pw_below_drewN | apply below_drew1 | refine below_set ?_ GE125.out | refine below_set ?_ GE127.out | refine below_set ?_ GE143.out) | exact HB.out)⟩
              ·
               rw [if_neg c88] at H
               exact absurd H (by simp)
             ·
              rw [if_neg c87] at H
              exact absurd H (by simp)
  ·
   rw [if_neg c4] at H
   exact absurd H (by simp)
 ·
  rw [if_neg c3] at H
  exact absurd H (by simp)

end Go.Proofs.Ytbhfkhcedjgpdaa.P
