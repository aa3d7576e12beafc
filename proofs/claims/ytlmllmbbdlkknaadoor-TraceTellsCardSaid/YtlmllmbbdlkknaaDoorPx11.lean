/- Printed by a program of this workplace (a turned copy of the kit's optional print), out of the translation; not trusted: Lean checks it. -/
import Derived.Test.YtlmllmbbdlkknaaDoorPx0
import Derived.Test.YtlmllmbbdlkknaaDoorPx3
import Derived.Test.YtlmllmbbdlkknaaDoorPx5
import Derived.Test.YtlmllmbbdlkknaaDoorPx7
import Derived.Test.YtlmllmbbdlkknaaDoorPx8
import Derived.Test.YtlmllmbbdlkknaaDoorPx9
import Derived.Test.YtlmllmbbdlkknaaDoorPx10
import Derived.Test.YtlmllmbbdlkknaaDoorJnt
import Derived.Test.YtlmllmbbdlkknaaDoorSam
import Derived.Test.YtlmllmbbdlkknaaDoorTxt
namespace Go.Proofs.YtlmllmbbdlkknaaDoor.P
open Go.RowKit Go.Proofs.YtlmllmbbdlkknaaDoorW.PrintWords Go.Proofs.YtlmllmbbdlkknaaDoorW.PrintLast Go.Proofs.YtlmllmbbdlkknaaDoorW.PrintMore
attribute [local go_sem] max2_int min2_int max_two min_two max_three min_three max_four min_four   -- for this text's walks alone
set_option linter.unusedVariables false
set_option linter.unusedSimpArgs false

/-! ### tontinelaw24_TraceTells: function 3 -/
mutual
def tontinelaw24_TraceTells.j0 : Nat → List (S35) → List (S35) → List (List (S35)) → Bool → Int → Int → List (List Int) → List (S46) → Int → Int → Option (Bool)
  | 0, _, _, _, _, _, _, _, _, _, _ => none
  | k + 1, x1, x2, x3, x31, x259000, x259001, x259002, x259003, x260000, x260001 => if x31 = true then (some true) else (tontinelaw24_TraceTells.l0 k x1 x2 x3 0 x259000 x259001 x259002 x259003 x260000 x260001)
def tontinelaw24_TraceTells.l0 : Nat → List (S35) → List (S35) → List (List (S35)) → Int → Int → Int → List (List Int) → List (S46) → Int → Int → Option (Bool)
  | 0, _, _, _, _, _, _, _, _, _, _ => none
  | k + 1, x1, x2, x3, x11, x259000, x259001, x259002, x259003, x260000, x260001 => if x11 < (x3.length : Int) then (if 0 ≤ x11 then (if ((rd_L4 x3 x11).length : Int) > 60 then (some true) else (tontinelaw24_TraceTells.l0 k x1 x2 x3 (wrap64 (x11 + 1)) x259000 x259001 x259002 x259003 x260000 x260001)) else (none)) else (tontinelaw24_TraceTells.l1 k x1 x2 x3 0 x259000 x259001 x259002 x259003 x260000 x260001)
def tontinelaw24_TraceTells.l1 : Nat → List (S35) → List (S35) → List (List (S35)) → Int → Int → Int → List (List Int) → List (S46) → Int → Int → Option (Bool)
  | 0, _, _, _, _, _, _, _, _, _, _ => none
  | k + 1, x1, x2, x3, x12, x259000, x259001, x259002, x259003, x260000, x260001 => if x12 < (x1.length : Int) then (if 0 ≤ x12 then ((trace_Line.f k ((rd_T35 x1 x12).f0) ((rd_T35 x1 x12).f1) ((rd_T35 x1 x12).f2) ((rd_T35 x1 x12).f3) ((rd_T35 x1 x12).f4) ((rd_T35 x1 x12).f5)).bind fun t264 => ((tontineref24_Line.f ((rd_T35 x1 x12).f0) ((rd_T35 x1 x12).f1) ((rd_T35 x1 x12).f2) ((rd_T35 x1 x12).f3) ((rd_T35 x1 x12).f4) ((rd_T35 x1 x12).f5)).bind fun t266 => (if t264.toList = t266.toList then (tontinelaw24_TraceTells.l1 k x1 x2 x3 (wrap64 (x12 + 1)) x259000 x259001 x259002 x259003 x260000 x260001) else (some false)))) else (none)) else ((ext_11.f x1 x2).bind fun t267 => ((tontineref21_SameObs.f k x1 x2).bind fun t268 => (if (t267 == t268) = true then ((ext_11.f x1 x1).bind fun t269 => (if t269 = true then ((ext_13.f x1).bind fun t270 => ((tontineref24_Text.f k x1).bind fun t271 => (if t270.toList = t271.toList then ((trace_Below.f k x259000 x259001 x259002 x259003 x3 x260000 x260001).bind fun t272 => ((tontineref24_Below.f k x259000 x259001 x259002 x259003 x3 x260000 x260001).bind fun t275 => ((tontineref1_SameInts.f k t272 t275).bind fun t278 => (if t278 = true then ((ext_18.f x259000 x259001 x259002 x259003 x3 x260000 x260001).bind fun t279 => ((tontineref24_Joint.f k x259000 x259001 x259002 x259003 x3 x260000 x260001).bind fun t280 => (some (t279.toList == t280.toList)))) else (some false))))) else (some false)))) else (some false))) else (some false))))
end
def tontinelaw24_TraceTells.f (k : Nat) (a0_0 : Int) (a0_1 : Int) (l0_2 : List (List Int)) (l0_3 : List (S46)) (l1 : List (S35)) (l2 : List (S35)) (l3 : List (List (S35))) (a4_0 : Int) (a4_1 : Int) : Option (Bool) := (tontinelaw24_known.f k).bind fun t260 => (if t260 = true then ((tontinehelp_WideConf.f k a0_0 a0_1 l0_2 l0_3).bind fun t261 => (if t261 = true then (tontinelaw24_TraceTells.j0 k l1 l2 l3 true a0_0 a0_1 l0_2 l0_3 a4_0 a4_1) else (if (l1.length : Int) > 60 then (tontinelaw24_TraceTells.j0 k l1 l2 l3 true a0_0 a0_1 l0_2 l0_3 a4_0 a4_1) else (if (l2.length : Int) > 60 then (tontinelaw24_TraceTells.j0 k l1 l2 l3 true a0_0 a0_1 l0_2 l0_3 a4_0 a4_1) else (tontinelaw24_TraceTells.j0 k l1 l2 l3 (decide ((l3.length : Int) > 10)) a0_0 a0_1 l0_2 l0_3 a4_0 a4_1))))) else (some false))
theorem tontinelaw24_TraceTells.mono_l : ∀ k, (∀ y0 y1 y2 y3 y4 y5 y6 y7 y8 y9, LeO (tontinelaw24_TraceTells.j0 k y0 y1 y2 y3 y4 y5 y6 y7 y8 y9) (tontinelaw24_TraceTells.j0 (k + 1) y0 y1 y2 y3 y4 y5 y6 y7 y8 y9)) ∧ (∀ y0 y1 y2 y3 y4 y5 y6 y7 y8 y9, LeO (tontinelaw24_TraceTells.l0 k y0 y1 y2 y3 y4 y5 y6 y7 y8 y9) (tontinelaw24_TraceTells.l0 (k + 1) y0 y1 y2 y3 y4 y5 y6 y7 y8 y9)) ∧ (∀ y0 y1 y2 y3 y4 y5 y6 y7 y8 y9, LeO (tontinelaw24_TraceTells.l1 k y0 y1 y2 y3 y4 y5 y6 y7 y8 y9) (tontinelaw24_TraceTells.l1 (k + 1) y0 y1 y2 y3 y4 y5 y6 y7 y8 y9))
  | 0 => ⟨fun _ _ _ _ _ _ _ _ _ _ r h => by simp [tontinelaw24_TraceTells.j0] at h, fun _ _ _ _ _ _ _ _ _ _ r h => by simp [tontinelaw24_TraceTells.l0] at h, fun _ _ _ _ _ _ _ _ _ _ r h => by simp [tontinelaw24_TraceTells.l1] at h⟩
  | k + 1 => by
    obtain ⟨ih0, ih1, ih2⟩ := tontinelaw24_TraceTells.mono_l k
    refine ⟨?_, ?_, ?_⟩
    · intro y0 y1 y2 y3 y4 y5 y6 y7 y8 y9
      unfold tontinelaw24_TraceTells.j0
      repeat' first
      | (with_reducible exact ih0 _ _ _ _ _ _ _ _ _ _)
      | (with_reducible exact ih1 _ _ _ _ _ _ _ _ _ _)
      | (with_reducible exact ih2 _ _ _ _ _ _ _ _ _ _)
      | (with_reducible exact tontinehelp_WideConf.mono _ _ _ _ _)
      | (with_reducible exact tontinelaw24_known.mono _)
      | (with_reducible exact tontineref1_SameInts.mono _ _ _)
      | (with_reducible exact tontineref21_SameObs.mono _ _ _)
      | (with_reducible exact tontineref24_Below.mono _ _ _ _ _ _ _ _)
      | (with_reducible exact tontineref24_Joint.mono _ _ _ _ _ _ _ _)
      | (with_reducible exact tontineref24_Text.mono _ _)
      | (with_reducible exact trace_Below.mono _ _ _ _ _ _ _ _)
      | (with_reducible exact trace_Line.mono _ _ _ _ _ _ _)
      | (with_reducible exact LeO.refl _)
      | (with_reducible exact LeO.none _)
      | (with_reducible refine LeO.ite ?_ ?_)
      | (with_reducible refine LeO.bind ?_ (fun _ => ?_))
      | exact ih0 _ _ _ _ _ _ _ _ _ _
      | exact ih1 _ _ _ _ _ _ _ _ _ _
      | exact ih2 _ _ _ _ _ _ _ _ _ _
      | exact tontinehelp_WideConf.mono _ _ _ _ _
      | exact tontinelaw24_known.mono _
      | exact tontineref1_SameInts.mono _ _ _
      | exact tontineref21_SameObs.mono _ _ _
      | exact tontineref24_Below.mono _ _ _ _ _ _ _ _
      | exact tontineref24_Joint.mono _ _ _ _ _ _ _ _
      | exact tontineref24_Text.mono _ _
      | exact trace_Below.mono _ _ _ _ _ _ _ _
      | exact trace_Line.mono _ _ _ _ _ _ _
      | exact LeO.none _
      | refine LeO.ite ?_ ?_
      | refine LeO.bind ?_ (fun _ => ?_)
    · intro y0 y1 y2 y3 y4 y5 y6 y7 y8 y9
      unfold tontinelaw24_TraceTells.l0
      repeat' first
      | (with_reducible exact ih0 _ _ _ _ _ _ _ _ _ _)
      | (with_reducible exact ih1 _ _ _ _ _ _ _ _ _ _)
      | (with_reducible exact ih2 _ _ _ _ _ _ _ _ _ _)
      | (with_reducible exact tontinehelp_WideConf.mono _ _ _ _ _)
      | (with_reducible exact tontinelaw24_known.mono _)
      | (with_reducible exact tontineref1_SameInts.mono _ _ _)
      | (with_reducible exact tontineref21_SameObs.mono _ _ _)
      | (with_reducible exact tontineref24_Below.mono _ _ _ _ _ _ _ _)
      | (with_reducible exact tontineref24_Joint.mono _ _ _ _ _ _ _ _)
      | (with_reducible exact tontineref24_Text.mono _ _)
      | (with_reducible exact trace_Below.mono _ _ _ _ _ _ _ _)
      | (with_reducible exact trace_Line.mono _ _ _ _ _ _ _)
      | (with_reducible exact LeO.refl _)
      | (with_reducible exact LeO.none _)
      | (with_reducible refine LeO.ite ?_ ?_)
      | (with_reducible refine LeO.bind ?_ (fun _ => ?_))
      | exact ih0 _ _ _ _ _ _ _ _ _ _
      | exact ih1 _ _ _ _ _ _ _ _ _ _
      | exact ih2 _ _ _ _ _ _ _ _ _ _
      | exact tontinehelp_WideConf.mono _ _ _ _ _
      | exact tontinelaw24_known.mono _
      | exact tontineref1_SameInts.mono _ _ _
      | exact tontineref21_SameObs.mono _ _ _
      | exact tontineref24_Below.mono _ _ _ _ _ _ _ _
      | exact tontineref24_Joint.mono _ _ _ _ _ _ _ _
      | exact tontineref24_Text.mono _ _
      | exact trace_Below.mono _ _ _ _ _ _ _ _
      | exact trace_Line.mono _ _ _ _ _ _ _
      | exact LeO.none _
      | refine LeO.ite ?_ ?_
      | refine LeO.bind ?_ (fun _ => ?_)
    · intro y0 y1 y2 y3 y4 y5 y6 y7 y8 y9
      unfold tontinelaw24_TraceTells.l1
      repeat' first
      | (with_reducible exact ih0 _ _ _ _ _ _ _ _ _ _)
      | (with_reducible exact ih1 _ _ _ _ _ _ _ _ _ _)
      | (with_reducible exact ih2 _ _ _ _ _ _ _ _ _ _)
      | (with_reducible exact tontinehelp_WideConf.mono _ _ _ _ _)
      | (with_reducible exact tontinelaw24_known.mono _)
      | (with_reducible exact tontineref1_SameInts.mono _ _ _)
      | (with_reducible exact tontineref21_SameObs.mono _ _ _)
      | (with_reducible exact tontineref24_Below.mono _ _ _ _ _ _ _ _)
      | (with_reducible exact tontineref24_Joint.mono _ _ _ _ _ _ _ _)
      | (with_reducible exact tontineref24_Text.mono _ _)
      | (with_reducible exact trace_Below.mono _ _ _ _ _ _ _ _)
      | (with_reducible exact trace_Line.mono _ _ _ _ _ _ _)
      | (with_reducible exact LeO.refl _)
      | (with_reducible exact LeO.none _)
      | (with_reducible refine LeO.ite ?_ ?_)
      | (with_reducible refine LeO.bind ?_ (fun _ => ?_))
      | exact ih0 _ _ _ _ _ _ _ _ _ _
      | exact ih1 _ _ _ _ _ _ _ _ _ _
      | exact ih2 _ _ _ _ _ _ _ _ _ _
      | exact tontinehelp_WideConf.mono _ _ _ _ _
      | exact tontinelaw24_known.mono _
      | exact tontineref1_SameInts.mono _ _ _
      | exact tontineref21_SameObs.mono _ _ _
      | exact tontineref24_Below.mono _ _ _ _ _ _ _ _
      | exact tontineref24_Joint.mono _ _ _ _ _ _ _ _
      | exact tontineref24_Text.mono _ _
      | exact trace_Below.mono _ _ _ _ _ _ _ _
      | exact trace_Line.mono _ _ _ _ _ _ _
      | exact LeO.none _
      | refine LeO.ite ?_ ?_
      | refine LeO.bind ?_ (fun _ => ?_)
theorem tontinelaw24_TraceTells.mono : ∀ a0 a1 a2 a3 a4 a5 a6 a7 a8 k, LeO (tontinelaw24_TraceTells.f k a0 a1 a2 a3 a4 a5 a6 a7 a8) (tontinelaw24_TraceTells.f (k + 1) a0 a1 a2 a3 a4 a5 a6 a7 a8) := by
 intro a0 a1 a2 a3 a4 a5 a6 a7 a8 k
 obtain ⟨ih0, ih1, ih2⟩ := tontinelaw24_TraceTells.mono_l k
 unfold tontinelaw24_TraceTells.f
 repeat' first
   | (with_reducible exact ih0 _ _ _ _ _ _ _ _ _ _)
   | (with_reducible exact ih1 _ _ _ _ _ _ _ _ _ _)
   | (with_reducible exact ih2 _ _ _ _ _ _ _ _ _ _)
   | (with_reducible exact tontinehelp_WideConf.mono _ _ _ _ _)
   | (with_reducible exact tontinelaw24_known.mono _)
   | (with_reducible exact tontineref1_SameInts.mono _ _ _)
   | (with_reducible exact tontineref21_SameObs.mono _ _ _)
   | (with_reducible exact tontineref24_Below.mono _ _ _ _ _ _ _ _)
   | (with_reducible exact tontineref24_Joint.mono _ _ _ _ _ _ _ _)
   | (with_reducible exact tontineref24_Text.mono _ _)
   | (with_reducible exact trace_Below.mono _ _ _ _ _ _ _ _)
   | (with_reducible exact trace_Line.mono _ _ _ _ _ _ _)
   | (with_reducible exact LeO.refl _)
   | (with_reducible exact LeO.none _)
   | (with_reducible refine LeO.ite ?_ ?_)
   | (with_reducible refine LeO.bind ?_ (fun _ => ?_))
   | exact ih0 _ _ _ _ _ _ _ _ _ _
   | exact ih1 _ _ _ _ _ _ _ _ _ _
   | exact ih2 _ _ _ _ _ _ _ _ _ _
   | exact tontinehelp_WideConf.mono _ _ _ _ _
   | exact tontinelaw24_known.mono _
   | exact tontineref1_SameInts.mono _ _ _
   | exact tontineref21_SameObs.mono _ _ _
   | exact tontineref24_Below.mono _ _ _ _ _ _ _ _
   | exact tontineref24_Joint.mono _ _ _ _ _ _ _ _
   | exact tontineref24_Text.mono _ _
   | exact trace_Below.mono _ _ _ _ _ _ _ _
   | exact trace_Line.mono _ _ _ _ _ _ _
   | exact LeO.none _
   | refine LeO.ite ?_ ?_
   | refine LeO.bind ?_ (fun _ => ?_)
def tontinelaw24_TraceTells.T13 : Bool × List (List Nat × List Nat) := (true, [([], []), ([], []), ([0, 1], [0, 1]), ([2], [2]), ([3], [3]), ([], []), ([], []), ([5, 6], [5, 6]), ([7], [7]), ([8, 4], [8]), ([4, 9], [4, 9])])
def tontinelaw24_TraceTells.B13 : List Nat := [0, 0, 3, 7, 15, 0, 0, 96, 224, 511, 1023]
theorem tontinelaw24_TraceTells.tab13 : rtab .any (opsOf Tryd.f3 13) = tontinelaw24_TraceTells.T13 := by kernel_rfl
theorem tontinelaw24_TraceTells.bits13 : waitsOk tontinelaw24_TraceTells.T13.2 tontinelaw24_TraceTells.B13 = true := by kernel_rfl
def tontinelaw24_TraceTells.T15 : Bool × List (List Nat × List Nat) := (true, [([], []), ([], []), ([0, 1], [0, 1]), ([], []), ([], []), ([3, 4, 2], [3, 4]), ([2, 5], [2, 5]), ([6, 5], [6]), ([7], [7]), ([7], [7]), ([8, 9, 7, 7], [7, 8, 9]), ([7, 10], [7, 10]), ([11, 10], [11]), ([12], [12]), ([13, 12, 12], [12, 13]), ([12], [12]), ([15, 14, 12], [12, 15]), ([14, 16, 12], [12, 14, 16]), ([12, 17], [12, 17]), ([18, 16], [18]), ([19], [19]), ([19], [19]), ([19], [19]), ([20, 21, 22, 19, 19], [19, 20, 21, 22]), ([19], [19]), ([19], [19]), ([19], [19]), ([24, 25, 26, 23, 19], [19, 24, 25, 26]), ([23, 27, 27, 19], [19, 23, 27]), ([19, 28], [19, 28]), ([29, 28], [29]), ([30], [30]), ([30], [30]), ([30], [30]), ([31, 32, 33, 30, 30], [30, 31, 32, 33]), ([30], [30]), ([30], [30]), ([30], [30]), ([35, 36, 37, 34, 30], [30, 35, 36, 37]), ([34, 38, 30], [30, 34, 38]), ([30, 39], [30, 39]), ([40, 38, 0, 1, 2, 3, 4, 5, 6, 7, 8, 9, 10, 11, 12, 13, 14, 15, 16, 17, 18, 19, 20, 21, 22, 23, 24, 25, 26, 27, 28, 29, 30, 31, 32, 33, 34, 35, 36, 37, 38, 39, 40], [40])])
def tontinelaw24_TraceTells.B15 : List Nat := [0, 0, 3, 0, 0, 31, 63, 127, 255, 255, 1023, 2047, 4095, 8191, 16383, 8191, 65535, 131071, 262143, 524287, 1048575, 1048575, 1048575, 8388607, 1048575, 1048575, 1048575, 134217727, 268435455, 536870911, 1073741823, 2147483647, 2147483647, 2147483647, 17179869183, 2147483647, 2147483647, 2147483647, 274877906943, 549755813887, 1099511627775, 2199023255551]
theorem tontinelaw24_TraceTells.tab15 : rtab .any (opsOf Tryd.f3 15) = tontinelaw24_TraceTells.T15 := by kernel_rfl
theorem tontinelaw24_TraceTells.bits15 : waitsOk tontinelaw24_TraceTells.T15.2 tontinelaw24_TraceTells.B15 = true := by kernel_rfl
set_option maxHeartbeats 8000000 in
set_option maxRecDepth 100000 in
theorem tontinelaw24_TraceTells.calls (k : Nat) (a0_0 : Int) (a0_1 : Int) (A0_2 : Option Addr) (c0_2 : Nat) (l0_2 : List (List Int)) (A0_3 : Option Addr) (c0_3 : Nat) (l0_3 : List (S46)) (A1 : Option Addr) (c1 : Nat) (l1 : List (S35)) (A2 : Option Addr) (c2 : Nat) (l2 : List (S35)) (A3 : Option Addr) (c3 : Nat) (l3 : List (List (S35))) (a4_0 : Int) (a4_1 : Int) (r : Bool) (hrt : r = true) (w : World) (hld : Lib.TabIs Tryd.prog w "internal/strconv.uint64pow10" .u64 Lib.pow10Tab) (hr0_2 : Kd.C (Kd.slice 3 (Kd.int .i64)) w A0_2 l0_2.length l0_2) (hc0_2 : l0_2.length ≤ c0_2) (hr0_3 : Kd.C k46 w A0_3 l0_3.length l0_3) (hc0_3 : l0_3.length ≤ c0_3) (hr1 : Kd.C k35 w A1 l1.length l1) (hc1 : l1.length ≤ c1) (hr2 : Kd.C k35 w A2 l2.length l2) (hc2 : l2.length ≤ c2) (hr3 : Kd.C (Kd.slice 35 k35) w A3 l3.length l3) (hc3 : l3.length ≤ c3) (h : tontinelaw24_TraceTells.f k a0_0 a0_1 l0_2 l0_3 l1 l2 l3 a4_0 a4_1 = some r) :
    Calls Tryd.prog 3 #[.agg #[.int .i64 a0_0, .int .i64 a0_1, .slice A0_2 l0_2.length c0_2, .slice A0_3 l0_3.length c0_3], .slice A1 l1.length c1, .slice A2 l2.length c2, .slice A3 l3.length c3, .agg #[.int .i64 a4_0, .int .u64 a4_1]] w fun e w' => e = .returned (.bool r) ∧ Below w.heap.size w w' := by
 have hu25 := Tryd.underlying25; have hu30 := Tryd.underlying30; have hu35 := Tryd.underlying35
 have HR0_2 := Goto.m0 hr0_2
 have HC0_2 := Goto.m0 hc0_2
 clear hr0_2 hc0_2
 have HR0_3 := Goto.m0 hr0_3
 have HC0_3 := Goto.m0 hc0_3
 clear hr0_3 hc0_3
 have HR1 := Goto.m0 hr1
 have HC1 := Goto.m0 hc1
 clear hr1 hc1
 have HR2 := Goto.m0 hr2
 have HC2 := Goto.m0 hc2
 clear hr2 hc2
 have HR3 := Goto.m0 hr3
 have HC3 := Goto.m0 hc3
 clear hr3 hc3
 have HB := Goto.m0 (Below.refl w.heap.size w)
 have HRT := Goto.m0 hrt
 clear hrt
 have HLD := Goto.m0 hld
 clear hld
 have H : ((tontinelaw24_known.f k).bind fun t260 => (if t260 = true then ((tontinehelp_WideConf.f k a0_0 a0_1 l0_2 l0_3).bind fun t261 => (if t261 = true then (tontinelaw24_TraceTells.j0 k l1 l2 l3 true a0_0 a0_1 l0_2 l0_3 a4_0 a4_1) else (if (l1.length : Int) > 60 then (tontinelaw24_TraceTells.j0 k l1 l2 l3 true a0_0 a0_1 l0_2 l0_3 a4_0 a4_1) else (if (l2.length : Int) > 60 then (tontinelaw24_TraceTells.j0 k l1 l2 l3 true a0_0 a0_1 l0_2 l0_3 a4_0 a4_1) else (tontinelaw24_TraceTells.j0 k l1 l2 l3 (decide ((l3.length : Int) > 10)) a0_0 a0_1 l0_2 l0_3 a4_0 a4_1))))) else (some false))) = some r := h
 clear h
 replace H := Option.bind_eq_some_iff.mp H
 obtain ⟨t260, A60, H⟩ := H
 have A6 := Goto.m0 A60
 clear A60
 by_cases c7 : t260 = true
 ·
  subst c7
  rw [if_pos rfl] at H
  have HC8 := Goto.m0 H
  clear H
  go_enter Tryd.func3, Tryd.ntmps3
  go_upto_region 3 with (first | ((with_reducible refine gate_dst (N := 5) rfl ?_); (try (refine gate_guard (by rfl) ?_; dsimp only)); refine box_event ?hg (N := 5) ?hd (cs := #[.int .i64 a0_0, .int .i64 a0_1, .slice A0_2 l0_2.length c0_2, .slice A0_3 l0_3.length c0_3]) (t := 25) ?hr ?_; (case hd => rfl); (case hg => rfl); (case hr => first | (go_simp; done) | (go_simp; rfl)); intro gb258 hg w9 hbox hb; have BK258 := Goto.m0 (hbox); have GW258 := Goto.gs HB hg; have GE258 := Goto.gs HB hg; replace HB := Goto.hs HB hb; clear hb hbox hg) | ((with_reducible refine gate_dst (N := 9) rfl ?_); (try (refine gate_guard (by rfl) ?_; dsimp only)); refine box_event ?hg (N := 9) ?hd (cs := #[.int .i64 a4_0, .int .u64 a4_1]) (t := 30) ?hr ?_; (case hd => rfl); (case hg => rfl); (case hr => first | (go_simp; done) | (go_simp; rfl)); intro gb259 hg w10 hbox hb; have BK259 := Goto.m0 (hbox); have GW259 := Goto.gs HB hg; have GE259 := Goto.gs HB hg; have NB258_259 := Goto.nl BK258 hg; have NB259_258 := Goto.nr BK258 hg; replace BK258 := Goto.bb BK258 hb; replace HB := Goto.hs HB hb; clear hb hbox hg) | ((with_reducible refine gate_callee (f := 7) rfl ?_); refine goesL_ (some 13) rfl rfl Tryd.func7 (by kernel_rfl) rfl #[] rfl (by (try simp only [List.map_toArray, List.map_cons, List.map_nil]); first | done | rfl | (simp only [List.length_drop, List.length_take]; rfl)) ?_; (with_reducible refine (tontinelaw24_known.calls k  true (by first | rfl | assumption | (simp only [Bool.not_eq_true, Bool.not_eq_false] at *; assumption)) _ (Goto.kt (Goto.hx HB) HLD.out) A6.out).mono ?_); rintro e w11 ⟨rfl, hb⟩; refine ⟨_, rfl, ?_⟩; replace BK258 := Goto.bb BK258 hb; replace BK259 := Goto.bb BK259 hb; replace HB := Goto.hs HB hb; (try clear hb); (try clear hb2); (try clear hk); (try clear hi)))
  (try simp only [Act.put, List.setIfInBounds_toArray, List.set_cons_zero, List.set_cons_succ])
  go_cut [31] (fun v31 wc => ∃ (kq : Nat) (x31_7 : Bool), v31 = .bool x31_7 ∧ Aside0 (tontinelaw24_TraceTells.j0 kq l1 l2 l3 x31_7 a0_0 a0_1 l0_2 l0_3 a4_0 a4_1 = some r) ∧ Aside0 (kq ≤ k) ∧ Aside0 (wc.heap[gb258]? = some (.cells #[.int .i64 a0_0, .int .i64 a0_1, (.slice A0_2 l0_2.length c0_2), (.slice A0_3 l0_3.length c0_3)] 25 (0, 0))) ∧ Aside0 (wc.heap[gb259]? = some (.cells #[.int .i64 a4_0, .int .u64 a4_1] 30 (0, 0))) ∧ Aside0 (Below w.heap.size w wc))
  case first =>
   have H := HC8.out; clear HC8
   replace H := Option.bind_eq_some_iff.mp H
   obtain ⟨t261, A120, H⟩ := H
   have A12 := Goto.m0 A120
   clear A120
   by_cases c13 : t261 = true
   ·
    subst c13
    rw [if_pos rfl] at H
    have H' := Goto.m0 H
    clear H; have hnb14 := NB258_259.out; have hnc14 := NB259_258.out; have hcz15_0 := Goto.bc0 BK258; have hcz15_1 := Goto.bc1 BK258; have hcz15_2 := Goto.bc2 BK258; have hcz15_3 := Goto.bc3 BK258; have hfz15_0 := Goto.bf BK258 0; have hfz15_1 := Goto.bf BK258 1; have hfz15_2 := Goto.bf BK258 2; have hfz15_3 := Goto.bf BK258 3
    go_wp2_with (first | ((with_reducible refine gate_callee (f := 8) rfl ?_); refine goesL_ (some 16) rfl rfl Tryd.func8 (by kernel_rfl) rfl #[.agg #[.int .i64 a0_0, .int .i64 a0_1, .slice A0_2 l0_2.length c0_2, .slice A0_3 l0_3.length c0_3]] rfl (by (try simp only [List.map_toArray, List.map_cons, List.map_nil]); first | done | rfl | (simp only [List.length_drop, List.length_take]; rfl)) ?_; (with_reducible refine (tontinehelp_WideConf.calls k a0_0 a0_1 _ _ l0_2 _ _ l0_3 true _ ?side1 ?side2 ?side3 ?side4 A12.out).mono ?_); (case side1 => repeat (first | exact (Kd.C_below HR0_2.out HB.out) | (with_reducible refine Kd.C_alloc ?_ _) | (with_reducible refine Kd.C_drewN ?_ _) | (with_reducible refine Kd.C_drew ?_))); (case side2 => exact HC0_2.out); (case side3 => repeat (first | exact (Kd.C_below HR0_3.out HB.out) | (with_reducible refine Kd.C_alloc ?_ _) | (with_reducible refine Kd.C_drewN ?_ _) | (with_reducible refine Kd.C_drew ?_))); (case side4 => exact HC0_3.out); rintro e w16 ⟨rfl, hb⟩; refine ⟨_, rfl, ?_⟩; replace BK258 := Goto.bb BK258 hb; replace BK259 := Goto.bb BK259 hb; replace HB := Goto.hs HB hb; (try clear hb); (try clear hb2); (try clear hk); (try clear hi)))
    go_meet
    case rel => exact ⟨_, (true), (by first | rfl | (simp; done) | (simp [*]; done)), H', ⟨by first | omega | exact Nat.le_refl _⟩, ⟨Goto.bx BK258⟩, ⟨Goto.bx BK259⟩, ⟨Goto.hx HB⟩⟩
   ·
    replace c13 := Bool.eq_false_iff.mpr c13
    subst c13
    rw [if_neg (show ¬ (false = true) by decide)] at H
    by_cases c17 : (l1.length : Int) > 60
    ·
     rw [if_pos c17] at H
     have c17b0 : decide (60 < (l1.length : Int)) = true := decide_eq_true c17
     have c17b1 : decide (60 < l1.length) = true := decide_eq_true (by omega)
     clear c17
     (first | rw [c17b0] | (simp only [i64_w, i32_w]; rw [c17b0]) | skip)
     have H' := Goto.m0 H
     clear H; have hnb18 := NB258_259.out; have hnc18 := NB259_258.out; have hcz19_0 := Goto.bc0 BK258; have hcz19_1 := Goto.bc1 BK258; have hcz19_2 := Goto.bc2 BK258; have hcz19_3 := Goto.bc3 BK258; have hfz19_0 := Goto.bf BK258 0; have hfz19_1 := Goto.bf BK258 1; have hfz19_2 := Goto.bf BK258 2; have hfz19_3 := Goto.bf BK258 3
     go_wp2_with (first | ((with_reducible refine gate_callee (f := 8) rfl ?_); refine goesL_ (some 16) rfl rfl Tryd.func8 (by kernel_rfl) rfl #[.agg #[.int .i64 a0_0, .int .i64 a0_1, .slice A0_2 l0_2.length c0_2, .slice A0_3 l0_3.length c0_3]] rfl (by (try simp only [List.map_toArray, List.map_cons, List.map_nil]); first | done | rfl | (simp only [List.length_drop, List.length_take]; rfl)) ?_; (with_reducible refine (tontinehelp_WideConf.calls k a0_0 a0_1 _ _ l0_2 _ _ l0_3 false _ ?side1 ?side2 ?side3 ?side4 A12.out).mono ?_); (case side1 => repeat (first | exact (Kd.C_below HR0_2.out HB.out) | (with_reducible refine Kd.C_alloc ?_ _) | (with_reducible refine Kd.C_drewN ?_ _) | (with_reducible refine Kd.C_drew ?_))); (case side2 => exact HC0_2.out); (case side3 => repeat (first | exact (Kd.C_below HR0_3.out HB.out) | (with_reducible refine Kd.C_alloc ?_ _) | (with_reducible refine Kd.C_drewN ?_ _) | (with_reducible refine Kd.C_drew ?_))); (case side4 => exact HC0_3.out); rintro e w20 ⟨rfl, hb⟩; refine ⟨_, rfl, ?_⟩; replace BK258 := Goto.bb BK258 hb; replace BK259 := Goto.bb BK259 hb; replace HB := Goto.hs HB hb; (try clear hb); (try clear hb2); (try clear hk); (try clear hi)))
     go_meet
     case rel => exact ⟨_, (true), (by first | rfl | (simp; done) | (simp [*]; done)), H', ⟨by first | omega | exact Nat.le_refl _⟩, ⟨Goto.bx BK258⟩, ⟨Goto.bx BK259⟩, ⟨Goto.hx HB⟩⟩
    ·
     rw [if_neg c17] at H
     have c17b0 : decide (60 < (l1.length : Int)) = false := decide_eq_false c17
     have c17b1 : decide (60 < l1.length) = false := decide_eq_false (by omega)
     clear c17
     (first | rw [c17b0] | (simp only [i64_w, i32_w]; rw [c17b0]) | skip)
     by_cases c21 : (l2.length : Int) > 60
     ·
      rw [if_pos c21] at H
      have c21b0 : decide (60 < (l2.length : Int)) = true := decide_eq_true c21
      have c21b1 : decide (60 < l2.length) = true := decide_eq_true (by omega)
      clear c21
      have H' := Goto.m0 H
      clear H; have hnb22 := NB258_259.out; have hnc22 := NB259_258.out; have hcz23_0 := Goto.bc0 BK258; have hcz23_1 := Goto.bc1 BK258; have hcz23_2 := Goto.bc2 BK258; have hcz23_3 := Goto.bc3 BK258; have hfz23_0 := Goto.bf BK258 0; have hfz23_1 := Goto.bf BK258 1; have hfz23_2 := Goto.bf BK258 2; have hfz23_3 := Goto.bf BK258 3
      go_wp2_with (first | ((with_reducible refine gate_callee (f := 8) rfl ?_); refine goesL_ (some 16) rfl rfl Tryd.func8 (by kernel_rfl) rfl #[.agg #[.int .i64 a0_0, .int .i64 a0_1, .slice A0_2 l0_2.length c0_2, .slice A0_3 l0_3.length c0_3]] rfl (by (try simp only [List.map_toArray, List.map_cons, List.map_nil]); first | done | rfl | (simp only [List.length_drop, List.length_take]; rfl)) ?_; (with_reducible refine (tontinehelp_WideConf.calls k a0_0 a0_1 _ _ l0_2 _ _ l0_3 false _ ?side1 ?side2 ?side3 ?side4 A12.out).mono ?_); (case side1 => repeat (first | exact (Kd.C_below HR0_2.out HB.out) | (with_reducible refine Kd.C_alloc ?_ _) | (with_reducible refine Kd.C_drewN ?_ _) | (with_reducible refine Kd.C_drew ?_))); (case side2 => exact HC0_2.out); (case side3 => repeat (first | exact (Kd.C_below HR0_3.out HB.out) | (with_reducible refine Kd.C_alloc ?_ _) | (with_reducible refine Kd.C_drewN ?_ _) | (with_reducible refine Kd.C_drew ?_))); (case side4 => exact HC0_3.out); rintro e w24 ⟨rfl, hb⟩; refine ⟨_, rfl, ?_⟩; replace BK258 := Goto.bb BK258 hb; replace BK259 := Goto.bb BK259 hb; replace HB := Goto.hs HB hb; (try clear hb); (try clear hb2); (try clear hk); (try clear hi)))
      go_meet
      case rel => exact ⟨_, (true), (by first | rfl | (simp; done) | (simp [*]; done)), H', ⟨by first | omega | exact Nat.le_refl _⟩, ⟨Goto.bx BK258⟩, ⟨Goto.bx BK259⟩, ⟨Goto.hx HB⟩⟩
     ·
      rw [if_neg c21] at H
      have c21b0 : decide (60 < (l2.length : Int)) = false := decide_eq_false c21
      have c21b1 : decide (60 < l2.length) = false := decide_eq_false (by omega)
      clear c21
      have H' := Goto.m0 H
      clear H; have hnb25 := NB258_259.out; have hnc25 := NB259_258.out; have hcz26_0 := Goto.bc0 BK258; have hcz26_1 := Goto.bc1 BK258; have hcz26_2 := Goto.bc2 BK258; have hcz26_3 := Goto.bc3 BK258; have hfz26_0 := Goto.bf BK258 0; have hfz26_1 := Goto.bf BK258 1; have hfz26_2 := Goto.bf BK258 2; have hfz26_3 := Goto.bf BK258 3
      go_wp2_with (first | ((with_reducible refine gate_callee (f := 8) rfl ?_); refine goesL_ (some 16) rfl rfl Tryd.func8 (by kernel_rfl) rfl #[.agg #[.int .i64 a0_0, .int .i64 a0_1, .slice A0_2 l0_2.length c0_2, .slice A0_3 l0_3.length c0_3]] rfl (by (try simp only [List.map_toArray, List.map_cons, List.map_nil]); first | done | rfl | (simp only [List.length_drop, List.length_take]; rfl)) ?_; (with_reducible refine (tontinehelp_WideConf.calls k a0_0 a0_1 _ _ l0_2 _ _ l0_3 false _ ?side1 ?side2 ?side3 ?side4 A12.out).mono ?_); (case side1 => repeat (first | exact (Kd.C_below HR0_2.out HB.out) | (with_reducible refine Kd.C_alloc ?_ _) | (with_reducible refine Kd.C_drewN ?_ _) | (with_reducible refine Kd.C_drew ?_))); (case side2 => exact HC0_2.out); (case side3 => repeat (first | exact (Kd.C_below HR0_3.out HB.out) | (with_reducible refine Kd.C_alloc ?_ _) | (with_reducible refine Kd.C_drewN ?_ _) | (with_reducible refine Kd.C_drew ?_))); (case side4 => exact HC0_3.out); rintro e w27 ⟨rfl, hb⟩; refine ⟨_, rfl, ?_⟩; replace BK258 := Goto.bb BK258 hb; replace BK259 := Goto.bb BK259 hb; replace HB := Goto.hs HB hb; (try clear hb); (try clear hb2); (try clear hk); (try clear hi)))
      go_meet
      case rel => exact ⟨_, (decide ((l3.length : Int) > 10)), (by first | rfl | (simp; done) | (simp [*]; done)), H', ⟨by first | omega | exact Nat.le_refl _⟩, ⟨Goto.bx BK258⟩, ⟨Goto.bx BK259⟩, ⟨Goto.hx HB⟩⟩
  case rest =>
   clear HC8; try clear c1; try clear c2; try clear p2; try clear c3; try clear c7; try clear c8; try clear c13; try clear c14; try clear c17; try clear c17b0; try clear c17b1; try clear c18; try clear c21; try clear c21b0; try clear c21b1; try clear c22; try clear c25; try clear hcz15_0; try clear hcz15_1; try clear hcz15_2; try clear hcz15_3; try clear hcz19_0; try clear hcz19_1; try clear hcz19_2; try clear hcz19_3; try clear hcz23_0; try clear hcz23_1; try clear hcz23_2; try clear hcz23_3; try clear hcz26_0; try clear hcz26_1; try clear hcz26_2; try clear hcz26_3; try clear hfz15_0; try clear hfz15_1; try clear hfz15_2; try clear hfz15_3; try clear hfz19_0; try clear hfz19_1; try clear hfz19_2; try clear hfz19_3; try clear hfz23_0; try clear hfz23_1; try clear hfz23_2; try clear hfz23_3; try clear hfz26_0; try clear hfz26_1; try clear hfz26_2; try clear hfz26_3
   obtain ⟨kq, x31_7, rfl, HA, HJ7, BK258, BK259, HB⟩ := hcut
   cases kq with
   | zero => exact absurd HA.out (by simp [tontinelaw24_TraceTells.j0])
   | succ kj7 =>
    have H := HA.out; clear HA
    simp only [tontinelaw24_TraceTells.j0] at H
    by_cases c28 : x31_7 = true
    ·
     subst c28
     rw [if_pos rfl] at H
     obtain rfl := Option.some.inj H
     go_wp2
     go_ret
     exact ⟨Goto.er, by repeat (first | (with_reducible first | exact HB.out | apply below_alloc | apply pw_below_drewN | apply below_drew1 | refine below_set ?_ GE258.out | refine below_set ?_ GE259.out) | exact HB.out)⟩
    ·
     replace c28 := Bool.eq_false_iff.mpr c28
     subst c28
     rw [if_neg (show ¬ (false = true) by decide)] at H
     have H' := Goto.m0 H
     clear H
     go_wp2
     go_loopg [11] kj7 (fun kq v11 w' => ∃ (x11_2 : Int), v11 = .int .i64 x11_2 ∧ Aside0 (tontinelaw24_TraceTells.l0 kq l1 l2 l3 x11_2 a0_0 a0_1 l0_2 l0_3 a4_0 a4_1 = some r) ∧ Aside0 (kq ≤ kj7) ∧ Aside0 (w'.heap[gb258]? = some (.cells #[.int .i64 a0_0, .int .i64 a0_1, (.slice A0_2 l0_2.length c0_2), (.slice A0_3 l0_3.length c0_3)] 25 (0, 0))) ∧ Aside0 (w'.heap[gb259]? = some (.cells #[.int .i64 a4_0, .int .u64 a4_1] 30 (0, 0))) ∧ Aside0 (Below w.heap.size w w'))
     case atStart => exact ⟨(0), (by first | rfl | (simp; done) | (simp [*]; done)), H', ⟨Nat.le_refl _⟩, ⟨Goto.bx BK258⟩, ⟨Goto.bx BK259⟩, ⟨Goto.hx HB⟩⟩
     case round =>
      clear H'
      try clear c1; try clear c2; try clear p2; try clear c3; try clear c7; try clear c8; try clear c13; try clear c14; try clear c17; try clear c17b0; try clear c17b1; try clear c18; try clear c21; try clear c21b0; try clear c21b1; try clear c22; try clear c25; try clear c28; try clear hcz15_0; try clear hcz15_1; try clear hcz15_2; try clear hcz15_3; try clear hcz19_0; try clear hcz19_1; try clear hcz19_2; try clear hcz19_3; try clear hcz23_0; try clear hcz23_1; try clear hcz23_2; try clear hcz23_3; try clear hcz26_0; try clear hcz26_1; try clear hcz26_2; try clear hcz26_3; try clear hfz15_0; try clear hfz15_1; try clear hfz15_2; try clear hfz15_3; try clear hfz19_0; try clear hfz19_1; try clear hfz19_2; try clear hfz19_3; try clear hfz23_0; try clear hfz23_1; try clear hfz23_2; try clear hfz23_3; try clear hfz26_0; try clear hfz26_1; try clear hfz26_2; try clear hfz26_3; try clear p2
      obtain ⟨x11_2, rfl, HA, HK2, BK258, BK259, HB⟩ := hrel
      cases gk with
      | zero => exact absurd HA.out (by simp [tontinelaw24_TraceTells.l0])
      | succ k2 =>
       have H := HA.out; clear HA
       simp only [tontinelaw24_TraceTells.l0] at H
       by_cases c29 : x11_2 < (l3.length : Int)
       ·
        rw [if_pos c29] at H
        have c29b0 : decide (x11_2 < (l3.length : Int)) = true := decide_eq_true c29
        clear c29
        by_cases c30 : 0 ≤ x11_2
        ·
         rw [if_pos c30] at H
         have c30b0 : decide (0 ≤ x11_2) = true := decide_eq_true c30
         clear c30
         by_cases c31 : ((rd_L4 l3 x11_2).length : Int) > 60
         ·
          rw [if_pos c31] at H
          have c31b0 : decide (60 < ((rd_L4 l3 x11_2).length : Int)) = true := decide_eq_true c31
          have c31b1 : decide (60 < (rd_L4 l3 x11_2).length) = true := decide_eq_true (by omega)
          clear c31
          obtain rfl := Option.some.inj H
          have p262 : 0 ≤ (x11_2 : Int) := Goto.od
          have q262 : x11_2 < (l3.length : Int) := Goto.od
          obtain ⟨ad262, A262_0, c262_0, e262, hx262_0, hl262_0, hi262_0⟩ := at_L4 HR3.out x11_2 p262 q262
          cases e262
          replace hx262_0 := Goto.kc HB.out hx262_0
          have HR262_0 := Goto.m0 hi262_0
          have HC262_0 := Goto.m0 hl262_0
          clear hi262_0 hl262_0; replace p262 := eq_true p262; replace q262 := eq_true q262
          go_wp2
          go_ret
          exact ⟨Goto.er, by repeat (first | (with_reducible first | exact HB.out | apply below_alloc | apply pw_below_drewN | apply below_drew1 | refine below_set ?_ GE258.out | refine below_set ?_ GE259.out) | exact HB.out)⟩
         ·
          rw [if_neg c31] at H
          have c31b0 : decide (60 < ((rd_L4 l3 x11_2).length : Int)) = false := decide_eq_false c31
          have c31b1 : decide (60 < (rd_L4 l3 x11_2).length) = false := decide_eq_false (by omega)
          clear c31
          have H' := Goto.m0 H
          clear H
          have p262 : 0 ≤ (x11_2 : Int) := Goto.od
          have q262 : x11_2 < (l3.length : Int) := Goto.od
          obtain ⟨ad262, A262_0, c262_0, e262, hx262_0, hl262_0, hi262_0⟩ := at_L4 HR3.out x11_2 p262 q262
          cases e262
          replace hx262_0 := Goto.kc HB.out hx262_0
          have HR262_0 := Goto.m0 hi262_0
          have HC262_0 := Goto.m0 hl262_0
          clear hi262_0 hl262_0; replace p262 := eq_true p262; replace q262 := eq_true q262
          go_wp2
          go_roundg k2
          case measure => have := HJ7.out; have := HK2.out; omega
          case rel => exact ⟨(wrap64 (x11_2 + 1)), (by first | rfl | (simp; done) | (simp [*]; done)), H', ⟨by have := HJ7.out; have := HK2.out; omega⟩, ⟨Goto.bx BK258⟩, ⟨Goto.bx BK259⟩, ⟨Goto.hx HB⟩⟩
        ·
         rw [if_neg c30] at H
         exact absurd H (by simp)
       ·
        rw [if_neg c29] at H
        have c29b0 : decide (x11_2 < (l3.length : Int)) = false := decide_eq_false c29
        clear c29
        have H' := Goto.m0 H
        clear H
        go_wp2
        go_loopg [12] k2 (fun kq v12 w' => ∃ (x12_3 : Int), v12 = .int .i64 x12_3 ∧ Aside0 (tontinelaw24_TraceTells.l1 kq l1 l2 l3 x12_3 a0_0 a0_1 l0_2 l0_3 a4_0 a4_1 = some r) ∧ Aside0 (kq ≤ k2) ∧ Aside0 (w'.heap[gb258]? = some (.cells #[.int .i64 a0_0, .int .i64 a0_1, (.slice A0_2 l0_2.length c0_2), (.slice A0_3 l0_3.length c0_3)] 25 (0, 0))) ∧ Aside0 (w'.heap[gb259]? = some (.cells #[.int .i64 a4_0, .int .u64 a4_1] 30 (0, 0))) ∧ Aside0 (Below w.heap.size w w'))
        case atStart => exact ⟨(0), (by first | rfl | (simp; done) | (simp [*]; done)), H', ⟨Nat.le_refl _⟩, ⟨Goto.bx BK258⟩, ⟨Goto.bx BK259⟩, ⟨Goto.hx HB⟩⟩
        case round =>
         clear H'
         try clear c1; try clear c2; try clear p2; try clear q2; try clear hx2; try clear c3; try clear p6; try clear c7; try clear c8; try clear c13; try clear c14; try clear c17; try clear c17b0; try clear c17b1; try clear c18; try clear c21; try clear c21b0; try clear c21b1; try clear c22; try clear c25; try clear c26; try clear p26; try clear q26; try clear hx26; try clear c28; try clear c29; try clear c29b0; try clear c30; try clear c30b0; try clear c31; try clear c31b0; try clear c31b1; try clear hcz15_0; try clear hcz15_1; try clear hcz15_2; try clear hcz15_3; try clear hcz19_0; try clear hcz19_1; try clear hcz19_2; try clear hcz19_3; try clear hcz23_0; try clear hcz23_1; try clear hcz23_2; try clear hcz23_3; try clear hcz26_0; try clear hcz26_1; try clear hcz26_2; try clear hcz26_3; try clear hfz15_0; try clear hfz15_1; try clear hfz15_2; try clear hfz15_3; try clear hfz19_0; try clear hfz19_1; try clear hfz19_2; try clear hfz19_3; try clear hfz23_0; try clear hfz23_1; try clear hfz23_2; try clear hfz23_3; try clear hfz26_0; try clear hfz26_1; try clear hfz26_2; try clear hfz26_3; try clear hx262_0; try clear p2; try clear p262; try clear q262
         obtain ⟨x12_3, rfl, HA, HK3, BK258, BK259, HB⟩ := hrel
         cases gk with
         | zero => exact absurd HA.out (by simp [tontinelaw24_TraceTells.l1])
         | succ k3 =>
          have H := HA.out; clear HA
          simp only [tontinelaw24_TraceTells.l1] at H
          by_cases c32 : x12_3 < (l1.length : Int)
          ·
           rw [if_pos c32] at H
           have c32b0 : decide (x12_3 < (l1.length : Int)) = true := decide_eq_true c32
           clear c32
           by_cases c33 : 0 ≤ x12_3
           ·
            rw [if_pos c33] at H
            have c33b0 : decide (0 ≤ x12_3) = true := decide_eq_true c33
            clear c33
            replace H := Option.bind_eq_some_iff.mp H
            obtain ⟨t264, A340, H⟩ := H
            have A34 := Goto.m0 A340
            clear A340
            replace H := Option.bind_eq_some_iff.mp H
            obtain ⟨t266, A350, H⟩ := H
            have A35 := Goto.m0 A350
            clear A350
            by_cases c36 : t264.toList = t266.toList
            ·
             rw [if_pos c36] at H
             have c36b0 : (t264.toList == t266.toList) = true := beq_iff_eq.mpr c36
             have c36b1 : (t264.toList != t266.toList) = false := bne_eq_false_iff_eq.mpr c36
             clear c36
             have H' := Goto.m0 H
             clear H
             try go_wp2
             replace BK258 := Goto.m0 (blk_drew BK258.out); replace BK259 := Goto.m0 (blk_drew BK259.out); replace HB := Goto.m0 (below_drew1 HB.out)
             have p263 : 0 ≤ (x12_3 : Int) := Goto.od
             have q263 : x12_3 < (l1.length : Int) := Goto.od
             obtain ⟨ad263, e263, hx263_0, hx263_1, hx263_2, hx263_3, hx263_4, hx263_5⟩ := at_T35 HR1.out x12_3 p263 q263
             have hw263_5 := hx263_5; have hw263_4 := hx263_4; have hw263_3 := hx263_3; have hw263_2 := hx263_2; have hw263_1 := hx263_1; have hw263_0 := hx263_0
             cases e263
             replace hx263_0 := Goto.kc HB.out hx263_0
             replace hx263_1 := Goto.kc HB.out hx263_1
             replace hx263_2 := Goto.kc HB.out hx263_2
             replace hx263_3 := Goto.kc HB.out hx263_3
             replace hx263_4 := Goto.kc HB.out hx263_4
             replace hx263_5 := Goto.kc HB.out hx263_5
             replace p263 := eq_true p263; replace q263 := eq_true q263
             have p265 : 0 ≤ (x12_3 : Int) := Goto.od
             have q265 : x12_3 < (l1.length : Int) := Goto.od
             obtain ⟨ad265, e265, hx265_0, hx265_1, hx265_2, hx265_3, hx265_4, hx265_5⟩ := at_T35 HR1.out x12_3 p265 q265
             have hw265_5 := hx265_5; have hw265_4 := hx265_4; have hw265_3 := hx265_3; have hw265_2 := hx265_2; have hw265_1 := hx265_1; have hw265_0 := hx265_0
             obtain rfl : ad263 = ad265 := (by injection e265)
             replace hx265_0 := Goto.kc HB.out hx265_0
             replace hx265_1 := Goto.kc HB.out hx265_1
             replace hx265_2 := Goto.kc HB.out hx265_2
             replace hx265_3 := Goto.kc HB.out hx265_3
             replace hx265_4 := Goto.kc HB.out hx265_4
             replace hx265_5 := Goto.kc HB.out hx265_5
             replace p265 := eq_true p265; replace q265 := eq_true q265
             refine start_ (n := 11) (S := fun w' => w'.cell? (ad263.add ((x12_3).toNat * 6)) = some (.int .i64 ((rd_T35 l1 x12_3).f0)) ∧ w'.cell? ⟨(ad263.add ((x12_3).toNat * 6)).block, (ad263.add ((x12_3).toNat * 6)).off + 1, none⟩ = some (.int .i64 ((rd_T35 l1 x12_3).f1)) ∧ w'.cell? ⟨(ad263.add ((x12_3).toNat * 6)).block, (ad263.add ((x12_3).toNat * 6)).off + 2, none⟩ = some (.int .i64 ((rd_T35 l1 x12_3).f2)) ∧ w'.cell? ⟨(ad263.add ((x12_3).toNat * 6)).block, (ad263.add ((x12_3).toNat * 6)).off + 3, none⟩ = some (.int .i64 ((rd_T35 l1 x12_3).f3)) ∧ w'.cell? ⟨(ad263.add ((x12_3).toNat * 6)).block, (ad263.add ((x12_3).toNat * 6)).off + 4, none⟩ = some (.int .i64 ((rd_T35 l1 x12_3).f4)) ∧ w'.cell? ⟨(ad263.add ((x12_3).toNat * 6)).block, (ad263.add ((x12_3).toNat * 6)).off + 5, none⟩ = some (.int .i64 ((rd_T35 l1 x12_3).f5)) ∧ w'.cell? (ad263.add ((x12_3).toNat * 6)) = some (.int .i64 ((rd_T35 l1 x12_3).f0)) ∧ w'.cell? ⟨(ad263.add ((x12_3).toNat * 6)).block, (ad263.add ((x12_3).toNat * 6)).off + 1, none⟩ = some (.int .i64 ((rd_T35 l1 x12_3).f1)) ∧ w'.cell? ⟨(ad263.add ((x12_3).toNat * 6)).block, (ad263.add ((x12_3).toNat * 6)).off + 2, none⟩ = some (.int .i64 ((rd_T35 l1 x12_3).f2)) ∧ w'.cell? ⟨(ad263.add ((x12_3).toNat * 6)).block, (ad263.add ((x12_3).toNat * 6)).off + 3, none⟩ = some (.int .i64 ((rd_T35 l1 x12_3).f3)) ∧ w'.cell? ⟨(ad263.add ((x12_3).toNat * 6)).block, (ad263.add ((x12_3).toNat * 6)).off + 4, none⟩ = some (.int .i64 ((rd_T35 l1 x12_3).f4)) ∧ w'.cell? ⟨(ad263.add ((x12_3).toNat * 6)).block, (ad263.add ((x12_3).toNat * 6)).off + 5, none⟩ = some (.int .i64 ((rd_T35 l1 x12_3).f5))) (ds := []) (.replicate 11 false) (by kernel_rfl) rfl rfl ⟨(Goto.kc HB.out hw263_0), (Goto.kc HB.out hw263_1), (Goto.kc HB.out hw263_2), (Goto.kc HB.out hw263_3), (Goto.kc HB.out hw263_4), (Goto.kc HB.out hw263_5), (Goto.kc HB.out hw265_0), (Goto.kc HB.out hw265_1), (Goto.kc HB.out hw265_2), (Goto.kc HB.out hw265_3), (Goto.kc HB.out hw265_4), (Goto.kc HB.out hw265_5)⟩ (fun hHeld => ?_); refine with_tabW tontinelaw24_TraceTells.tab13 tontinelaw24_TraceTells.bits13 (fun HT_ HW_ => ?_)
             generalize wr.drew = w37 at BK258 BK259 HB hx263_0 hx263_1 hx263_2 hx263_3 hx263_4 hx263_5 hx265_0 hx265_1 hx265_2 hx265_3 hx265_4 hx265_5 hHeld ⊢
             refine Goto.pu 0 50 11 1 ?_
             refine Goto.pu 1 51 11 3 ?_
             refine Goto.pu 2 52 11 7 ?_
             refine Goto.pu 5 55 11 39 ?_
             refine Goto.pu 6 56 11 103 ?_
             refine Goto.pu 7 57 11 231 ?_
             refine take_ (i := 3) (N := some 53) (v := ?_) (a' := ?_) (Goto.bs 11 239) rfl rfl (take_ofW HT_.out HW_.out (by kernel_rfl)) (fun _ _ _ h => h) (Or.inl ⟨by rfl, ?_⟩) hHeld ?_ ?_
             rotate_left
             ·
              rintro w' ⟨s0, s1, s2, s3, s4, s5, s6, s7, s8, s9, s10, s11⟩
              go_simp
              with_reducible rfl
             rotate_left
             ·
              exact Goto.ap
             refine take_ (i := 8) (N := some 58) (v := ?_) (a' := ?_) (Goto.bs 11 495) rfl rfl (take_ofW HT_.out HW_.out (by kernel_rfl)) (fun _ _ _ h => h) (Or.inl ⟨by rfl, ?_⟩) hHeld ?_ ?_
             rotate_left
             ·
              rintro w' ⟨s0, s1, s2, s3, s4, s5, s6, s7, s8, s9, s10, s11⟩
              go_simp
              with_reducible rfl
             rotate_left
             ·
              exact Goto.ap
             refine one_ (i := 4) (N := some 54) (Goto.bs 11 511) rfl rfl (one_of HT_.out (by kernel_rfl)) (by decide) (fun K hK => ?_)
             refine goes_ Tryd.func9 (by kernel_rfl) rfl #[.agg #[.int .i64 ((rd_T35 l1 x12_3).f0), .int .i64 ((rd_T35 l1 x12_3).f1), .int .i64 ((rd_T35 l1 x12_3).f2), .int .i64 ((rd_T35 l1 x12_3).f3), .int .i64 ((rd_T35 l1 x12_3).f4), .int .i64 ((rd_T35 l1 x12_3).f5)]] (by rfl) rfl rfl (by (try simp only [List.map_toArray, List.map_cons, List.map_nil]); first | done | rfl | (simp only [List.length_drop, List.length_take]; rfl)) ?_
             with_reducible refine (trace_Line.calls k3 ((rd_T35 l1 x12_3).f0) ((rd_T35 l1 x12_3).f1) ((rd_T35 l1 x12_3).f2) ((rd_T35 l1 x12_3).f3) ((rd_T35 l1 x12_3).f4) ((rd_T35 l1 x12_3).f5) t264 _ (Goto.kt (Goto.hx HB) HLD.out) A34.out).mono ?_
             rintro e w38 ⟨rfl, hb⟩
             refine ⟨_, rfl, ?_⟩
             replace BK258 := Goto.bb BK258 hb; replace BK259 := Goto.bb BK259 hb; replace HB := Goto.hs HB hb
             (try clear hb)
             (try clear hb2)
             (try clear hk)
             (try clear hi)
             refine hK.out _ _ ⟨(Goto.kc HB.out hw263_0), (Goto.kc HB.out hw263_1), (Goto.kc HB.out hw263_2), (Goto.kc HB.out hw263_3), (Goto.kc HB.out hw263_4), (Goto.kc HB.out hw263_5), (Goto.kc HB.out hw265_0), (Goto.kc HB.out hw265_1), (Goto.kc HB.out hw265_2), (Goto.kc HB.out hw265_3), (Goto.kc HB.out hw265_4), (Goto.kc HB.out hw265_5)⟩ (fun hHeld => ?_)
             clear hK K
             refine norm_ (a' := ?_) ?_ ?_
             rotate_left
             ·
              show Act.put _ (some 54) _ = _
              exact Goto.ap
             refine one_ (i := 9) (N := some 59) (Goto.bs 11 1023) rfl rfl (one_of HT_.out (by kernel_rfl)) (by decide) (fun K hK => ?_)
             refine goes_ Tryd.func10 (by kernel_rfl) rfl #[.agg #[.int .i64 ((rd_T35 l1 x12_3).f0), .int .i64 ((rd_T35 l1 x12_3).f1), .int .i64 ((rd_T35 l1 x12_3).f2), .int .i64 ((rd_T35 l1 x12_3).f3), .int .i64 ((rd_T35 l1 x12_3).f4), .int .i64 ((rd_T35 l1 x12_3).f5)]] (by rfl) rfl rfl (by (try simp only [List.map_toArray, List.map_cons, List.map_nil]); first | done | rfl | (simp only [List.length_drop, List.length_take]; rfl)) ?_
             with_reducible refine (tontineref24_Line.calls ((rd_T35 l1 x12_3).f0) ((rd_T35 l1 x12_3).f1) ((rd_T35 l1 x12_3).f2) ((rd_T35 l1 x12_3).f3) ((rd_T35 l1 x12_3).f4) ((rd_T35 l1 x12_3).f5) t266 _ A35.out).mono ?_
             rintro e w39 ⟨rfl, hb⟩
             refine ⟨_, rfl, ?_⟩
             replace BK258 := Goto.bb BK258 hb; replace BK259 := Goto.bb BK259 hb; replace HB := Goto.hs HB hb
             (try clear hb)
             (try clear hb2)
             (try clear hk)
             (try clear hi)
             refine hK.out _ _ ⟨(Goto.kc HB.out hw263_0), (Goto.kc HB.out hw263_1), (Goto.kc HB.out hw263_2), (Goto.kc HB.out hw263_3), (Goto.kc HB.out hw263_4), (Goto.kc HB.out hw263_5), (Goto.kc HB.out hw265_0), (Goto.kc HB.out hw265_1), (Goto.kc HB.out hw265_2), (Goto.kc HB.out hw265_3), (Goto.kc HB.out hw265_4), (Goto.kc HB.out hw265_5)⟩ (fun hHeld => ?_)
             clear hK K
             refine norm_ (a' := ?_) ?_ ?_
             rotate_left
             ·
              show Act.put _ (some 59) _ = _
              exact Goto.ap
             refine Goto.pu 10 60 11 2047 ?_
             refine done_ (done_of HT_.out (by kernel_rfl)) ?_
             try go_wp2
             go_roundg k3
             case measure => have := HJ7.out; have := HK2.out; have := HK3.out; omega
             case rel => exact ⟨(wrap64 (x12_3 + 1)), (by first | rfl | (simp; done) | (simp [*]; done)), H', ⟨by have := HJ7.out; have := HK2.out; have := HK3.out; omega⟩, ⟨Goto.bx BK258⟩, ⟨Goto.bx BK259⟩, ⟨Goto.hx HB⟩⟩
            ·
             rw [if_neg c36] at H
             have c36b0 : (t264.toList == t266.toList) = false := beq_eq_false_iff_ne.mpr c36
             have c36b1 : (t264.toList != t266.toList) = true := bne_iff_ne.mpr c36
             exact absurd ((Option.some.inj H).trans HRT.out) (by decide)
           ·
            rw [if_neg c33] at H
            exact absurd H (by simp)
          ·
           rw [if_neg c32] at H
           have c32b0 : decide (x12_3 < (l1.length : Int)) = false := decide_eq_false c32
           clear c32
           replace H := Option.bind_eq_some_iff.mp H
           obtain ⟨t267, A400, H⟩ := H
           have A40 := Goto.m0 A400
           clear A400
           replace H := Option.bind_eq_some_iff.mp H
           obtain ⟨t268, A410, H⟩ := H
           have A41 := Goto.m0 A410
           clear A410
           by_cases c42 : (t267 == t268) = true
           ·
            rw [if_pos c42] at H
            have c42b0 : (t267 == t268) = true := c42
            (try (have c42b1 : decide (t267 = t268) = true := by simpa using c42))
            (try (have c42b2 : (t267 == t268) = true := by simpa using c42))
            clear c42
            replace H := Option.bind_eq_some_iff.mp H
            obtain ⟨t269, A430, H⟩ := H
            have A43 := Goto.m0 A430
            clear A430
            by_cases c44 : t269 = true
            ·
             subst c44
             rw [if_pos rfl] at H
             replace H := Option.bind_eq_some_iff.mp H
             obtain ⟨t270, A450, H⟩ := H
             have A45 := Goto.m0 A450
             clear A450
             replace H := Option.bind_eq_some_iff.mp H
             obtain ⟨t271, A460, H⟩ := H
             have A46 := Goto.m0 A460
             clear A460
             by_cases c47 : t270.toList = t271.toList
             ·
              rw [if_pos c47] at H
              have c47b0 : (t270.toList == t271.toList) = true := beq_iff_eq.mpr c47
              have c47b1 : (t270.toList != t271.toList) = false := bne_eq_false_iff_eq.mpr c47
              clear c47
              replace H := Option.bind_eq_some_iff.mp H
              obtain ⟨t272, A480, H⟩ := H
              have A48 := Goto.m0 A480
              clear A480
              replace H := Option.bind_eq_some_iff.mp H
              obtain ⟨t275, A490, H⟩ := H
              have A49 := Goto.m0 A490
              clear A490
              replace H := Option.bind_eq_some_iff.mp H
              obtain ⟨t278, A500, H⟩ := H
              have A50 := Goto.m0 A500
              clear A500
              by_cases c51 : t278 = true
              ·
               subst c51
               rw [if_pos rfl] at H
               replace H := Option.bind_eq_some_iff.mp H
               obtain ⟨t279, A520, H⟩ := H
               have A52 := Goto.m0 A520
               clear A520
               replace H := Option.bind_eq_some_iff.mp H
               obtain ⟨t280, A530, H⟩ := H
               have A53 := Goto.m0 A530
               clear A530
               obtain rfl := Option.some.inj H
               try go_wp2
               replace BK258 := Goto.m0 (blk_drew BK258.out); replace BK259 := Goto.m0 (blk_drew BK259.out); replace HB := Goto.m0 (below_drew1 HB.out)
               refine start_ (n := 42) (S := fun w' => w'.cell? ⟨gb258, 0, none⟩ = some (.int .i64 a0_0) ∧ w'.cell? ⟨gb258, 1, none⟩ = some (.int .i64 a0_1) ∧ w'.cell? ⟨gb258, 2, none⟩ = some (.slice A0_2 l0_2.length c0_2) ∧ w'.cell? ⟨gb258, 3, none⟩ = some (.slice A0_3 l0_3.length c0_3) ∧ w'.cell? ⟨gb259, 0, none⟩ = some (.int .i64 a4_0) ∧ w'.cell? ⟨gb259, 1, none⟩ = some (.int .u64 a4_1)) (ds := []) (.replicate 42 false) (by kernel_rfl) rfl rfl ⟨(blk_cell BK258.out 0).trans rfl, (blk_cell BK258.out 1).trans rfl, (blk_cell BK258.out 2).trans rfl, (blk_cell BK258.out 3).trans rfl, (blk_cell BK259.out 0).trans rfl, (blk_cell BK259.out 1).trans rfl⟩ (fun hHeld => ?_); refine with_tabW tontinelaw24_TraceTells.tab15 tontinelaw24_TraceTells.bits15 (fun HT_ HW_ => ?_)
               generalize wr.drew = w54 at BK258 BK259 HB hHeld ⊢
               refine Goto.pu 0 61 42 1 ?_
               refine Goto.pu 1 62 42 3 ?_
               refine Goto.pu 3 64 42 11 ?_
               refine Goto.pu 4 65 42 27 ?_
               refine one_ (i := 2) (N := some 63) (Goto.bs 42 31) rfl rfl (one_of HT_.out (by kernel_rfl)) (by decide) (fun K hK => ?_)
               refine goes_ Tryd.func11 (by kernel_rfl) rfl #[.slice A1 l1.length c1, .slice A2 l2.length c2] (by rfl) rfl rfl (by (try simp only [List.map_toArray, List.map_cons, List.map_nil]); first | done | rfl | (simp only [List.length_drop, List.length_take]; rfl)) ?_
               with_reducible refine (ext_11.calls _ _ l1 _ _ l2 t267 _ ?side1 ?side2 ?side3 ?side4 A40.out).mono ?_
               (case side1 => repeat (first | exact (Kd.C_below HR1.out HB.out) | (with_reducible refine Kd.C_alloc ?_ _) | (with_reducible refine Kd.C_drewN ?_ _) | (with_reducible refine Kd.C_drew ?_)))
               (case side2 => exact HC1.out)
               (case side3 => repeat (first | exact (Kd.C_below HR2.out HB.out) | (with_reducible refine Kd.C_alloc ?_ _) | (with_reducible refine Kd.C_drewN ?_ _) | (with_reducible refine Kd.C_drew ?_)))
               (case side4 => exact HC2.out)
               rintro e w' ⟨rfl, ⟨nd, rfl⟩⟩
               refine ⟨_, rfl, ?_⟩
               refine hK.out _ _ ⟨(blk_cell BK258.out 0).trans rfl, (blk_cell BK258.out 1).trans rfl, (blk_cell BK258.out 2).trans rfl, (blk_cell BK258.out 3).trans rfl, (blk_cell BK259.out 0).trans rfl, (blk_cell BK259.out 1).trans rfl⟩ (fun hHeld => ?_)
               clear hK K
               refine norm_ (a' := ?_) ?_ ?_
               rotate_left
               ·
                show Act.put _ (some 63) _ = _
                exact Goto.ap
               refine one_ (i := 5) (N := some 66) (Goto.bs 42 63) rfl rfl (one_of HT_.out (by kernel_rfl)) (by decide) (fun K hK => ?_)
               refine goes_ Tryd.func12 (by kernel_rfl) rfl #[.slice A1 l1.length c1, .slice A2 l2.length c2] (by rfl) rfl rfl (by (try simp only [List.map_toArray, List.map_cons, List.map_nil]); first | done | rfl | (simp only [List.length_drop, List.length_take]; rfl)) ?_
               with_reducible refine (tontineref21_SameObs.calls k3 _ _ l1 _ _ l2 t268 _ ?side1 ?side2 ?side3 ?side4 A41.out).mono ?_
               (case side1 => repeat (first | exact (Kd.C_below HR1.out (Goto.hx HB)) | (with_reducible refine Kd.C_alloc ?_ _) | (with_reducible refine Kd.C_drewN ?_ _) | (with_reducible refine Kd.C_drew ?_)))
               (case side2 => exact HC1.out)
               (case side3 => repeat (first | exact (Kd.C_below HR2.out (Goto.hx HB)) | (with_reducible refine Kd.C_alloc ?_ _) | (with_reducible refine Kd.C_drewN ?_ _) | (with_reducible refine Kd.C_drew ?_)))
               (case side4 => exact HC2.out)
               rintro e w' ⟨rfl, ⟨nd, rfl⟩⟩
               refine ⟨_, rfl, ?_⟩
               refine hK.out _ _ ⟨(blk_cell BK258.out 0).trans rfl, (blk_cell BK258.out 1).trans rfl, (blk_cell BK258.out 2).trans rfl, (blk_cell BK258.out 3).trans rfl, (blk_cell BK259.out 0).trans rfl, (blk_cell BK259.out 1).trans rfl⟩ (fun hHeld => ?_)
               clear hK K
               refine norm_ (a' := ?_) ?_ ?_
               rotate_left
               ·
                show Act.put _ (some 66) _ = _
                exact Goto.ap
               refine Goto.pu 6 67 42 127 ?_
               refine Goto.pu 7 68 42 255 ?_
               refine Goto.pu 8 69 42 511 ?_
               refine Goto.pu 9 70 42 1023 ?_
               refine one_ (i := 10) (N := some 71) (Goto.bs 42 2047) rfl rfl (one_of HT_.out (by kernel_rfl)) (by decide) (fun K hK => ?_)
               refine goes_ Tryd.func11 (by kernel_rfl) rfl #[.slice A1 l1.length c1, .slice A1 l1.length c1] (by rfl) rfl rfl (by (try simp only [List.map_toArray, List.map_cons, List.map_nil]); first | done | rfl | (simp only [List.length_drop, List.length_take]; rfl)) ?_
               with_reducible refine (ext_11.calls _ _ l1 _ _ l1 true _ ?side1 ?side2 ?side3 ?side4 A43.out).mono ?_
               (case side1 => repeat (first | exact (Kd.C_below HR1.out (Goto.hx HB)) | (with_reducible refine Kd.C_alloc ?_ _) | (with_reducible refine Kd.C_drewN ?_ _) | (with_reducible refine Kd.C_drew ?_)))
               (case side2 => exact HC1.out)
               (case side3 => repeat (first | exact (Kd.C_below HR1.out (Goto.hx HB)) | (with_reducible refine Kd.C_alloc ?_ _) | (with_reducible refine Kd.C_drewN ?_ _) | (with_reducible refine Kd.C_drew ?_)))
               (case side4 => exact HC1.out)
               rintro e w' ⟨rfl, ⟨nd, rfl⟩⟩
               refine ⟨_, rfl, ?_⟩
               refine hK.out _ _ ⟨(blk_cell BK258.out 0).trans rfl, (blk_cell BK258.out 1).trans rfl, (blk_cell BK258.out 2).trans rfl, (blk_cell BK258.out 3).trans rfl, (blk_cell BK259.out 0).trans rfl, (blk_cell BK259.out 1).trans rfl⟩ (fun hHeld => ?_)
               clear hK K
               refine norm_ (a' := ?_) ?_ ?_
               rotate_left
               ·
                show Act.put _ (some 71) _ = _
                exact Goto.ap
               refine Goto.pu 11 72 42 4095 ?_
               refine Goto.pu 12 73 42 8191 ?_
               refine Goto.pu 13 74 42 16383 ?_
               refine Goto.pu 15 76 42 49151 ?_
               refine one_ (i := 14) (N := some 75) (Goto.bs 42 65535) rfl rfl (one_of HT_.out (by kernel_rfl)) (by decide) (fun K hK => ?_)
               refine goes_ Tryd.func13 (by kernel_rfl) rfl #[.slice A1 l1.length c1] (by rfl) rfl rfl (by (try simp only [List.map_toArray, List.map_cons, List.map_nil]); first | done | rfl | (simp only [List.length_drop, List.length_take]; rfl)) ?_
               with_reducible refine (ext_13.calls _ _ l1 t270 _ (Goto.kt (Goto.hx HB) HLD.out) ?side1 ?side2 A45.out).mono ?_
               (case side1 => repeat (first | exact (Kd.C_below HR1.out (Goto.hx HB)) | (with_reducible refine Kd.C_alloc ?_ _) | (with_reducible refine Kd.C_drewN ?_ _) | (with_reducible refine Kd.C_drew ?_)))
               (case side2 => exact HC1.out)
               rintro e w55 ⟨rfl, hb⟩
               refine ⟨_, rfl, ?_⟩
               replace BK258 := Goto.bb BK258 hb; replace BK259 := Goto.bb BK259 hb; replace HB := Goto.hs HB hb
               (try clear hb)
               (try clear hb2)
               (try clear hk)
               (try clear hi)
               refine hK.out _ _ ⟨(blk_cell BK258.out 0).trans rfl, (blk_cell BK258.out 1).trans rfl, (blk_cell BK258.out 2).trans rfl, (blk_cell BK258.out 3).trans rfl, (blk_cell BK259.out 0).trans rfl, (blk_cell BK259.out 1).trans rfl⟩ (fun hHeld => ?_)
               clear hK K
               refine norm_ (a' := ?_) ?_ ?_
               rotate_left
               ·
                show Act.put _ (some 75) _ = _
                exact Goto.ap
               refine one_ (i := 16) (N := some 77) (Goto.bs 42 131071) rfl rfl (one_of HT_.out (by kernel_rfl)) (by decide) (fun K hK => ?_)
               refine goes_ Tryd.func14 (by kernel_rfl) rfl #[.slice A1 l1.length c1] (by rfl) rfl rfl (by (try simp only [List.map_toArray, List.map_cons, List.map_nil]); first | done | rfl | (simp only [List.length_drop, List.length_take]; rfl)) ?_
               with_reducible refine (tontineref24_Text.calls k3 _ _ l1 t271 _ ?side1 ?side2 A46.out).mono ?_
               (case side1 => repeat (first | exact (Kd.C_below HR1.out HB.out) | (with_reducible refine Kd.C_alloc ?_ _) | (with_reducible refine Kd.C_drewN ?_ _) | (with_reducible refine Kd.C_drew ?_)))
               (case side2 => exact HC1.out)
               rintro e w56 ⟨rfl, hb⟩
               refine ⟨_, rfl, ?_⟩
               replace BK258 := Goto.bb BK258 hb; replace BK259 := Goto.bb BK259 hb; replace HB := Goto.hs HB hb
               (try clear hb)
               (try clear hb2)
               (try clear hk)
               (try clear hi)
               refine hK.out _ _ ⟨(blk_cell BK258.out 0).trans rfl, (blk_cell BK258.out 1).trans rfl, (blk_cell BK258.out 2).trans rfl, (blk_cell BK258.out 3).trans rfl, (blk_cell BK259.out 0).trans rfl, (blk_cell BK259.out 1).trans rfl⟩ (fun hHeld => ?_)
               clear hK K
               refine norm_ (a' := ?_) ?_ ?_
               rotate_left
               ·
                show Act.put _ (some 77) _ = _
                exact Goto.ap
               refine Goto.pu 17 78 42 262143 ?_
               refine Goto.pu 18 79 42 524287 ?_
               refine Goto.pu 19 80 42 1048575 ?_
               refine Goto.pu 21 82 42 3145727 ?_
               refine Goto.pu 25 86 42 36700159 ?_
               refine take_ (i := 20) (N := some 81) (v := ?_) (a' := ?_) (Goto.bs 42 37748735) rfl rfl (take_ofW HT_.out HW_.out (by kernel_rfl)) (fun _ _ _ h => h) (Or.inl ⟨by rfl, ?_⟩) hHeld ?_ ?_
               rotate_left
               ·
                rintro w' ⟨s0, s1, s2, s3, s4, s5⟩
                go_simp
                with_reducible rfl
               rotate_left
               ·
                exact Goto.ap
               refine take_ (i := 22) (N := some 83) (v := ?_) (a' := ?_) (Goto.bs 42 41943039) rfl rfl (take_ofW HT_.out HW_.out (by kernel_rfl)) (fun _ _ _ h => h) (Or.inl ⟨by rfl, ?_⟩) hHeld ?_ ?_
               rotate_left
               ·
                rintro w' ⟨s0, s1, s2, s3, s4, s5⟩
                go_simp
                with_reducible rfl
               rotate_left
               ·
                exact Goto.ap
               refine take_ (i := 24) (N := some 85) (v := ?_) (a' := ?_) (Goto.bs 42 58720255) rfl rfl (take_ofW HT_.out HW_.out (by kernel_rfl)) (fun _ _ _ h => h) (Or.inl ⟨by rfl, ?_⟩) hHeld ?_ ?_
               rotate_left
               ·
                rintro w' ⟨s0, s1, s2, s3, s4, s5⟩
                go_simp
                with_reducible rfl
               rotate_left
               ·
                exact Goto.ap
               refine take_ (i := 26) (N := some 87) (v := ?_) (a' := ?_) (Goto.bs 42 125829119) rfl rfl (take_ofW HT_.out HW_.out (by kernel_rfl)) (fun _ _ _ h => h) (Or.inl ⟨by rfl, ?_⟩) hHeld ?_ ?_
               rotate_left
               ·
                rintro w' ⟨s0, s1, s2, s3, s4, s5⟩
                go_simp
                with_reducible rfl
               rotate_left
               ·
                exact Goto.ap
               refine one_ (i := 23) (N := some 84) (Goto.bs 42 134217727) rfl rfl (one_of HT_.out (by kernel_rfl)) (by decide) (fun K hK => ?_)
               refine goes_ Tryd.func16 (by kernel_rfl) rfl #[.agg #[.int .i64 a0_0, .int .i64 a0_1, .slice A0_2 l0_2.length c0_2, .slice A0_3 l0_3.length c0_3], .slice A3 l3.length c3, .agg #[.int .i64 a4_0, .int .u64 a4_1]] (by rfl) rfl rfl (by (try simp only [List.map_toArray, List.map_cons, List.map_nil]); first | done | rfl | (simp only [List.length_drop, List.length_take]; rfl)) ?_
               with_reducible refine (trace_Below.calls k3 a0_0 a0_1 _ _ l0_2 _ _ l0_3 _ _ l3 a4_0 a4_1 t272 _ ?side1 ?side2 ?side3 ?side4 ?side5 ?side6 A48.out).mono ?_
               (case side1 => repeat (first | exact (Kd.C_below HR0_2.out HB.out) | (with_reducible refine Kd.C_alloc ?_ _) | (with_reducible refine Kd.C_drewN ?_ _) | (with_reducible refine Kd.C_drew ?_)))
               (case side2 => exact HC0_2.out)
               (case side3 => repeat (first | exact (Kd.C_below HR0_3.out HB.out) | (with_reducible refine Kd.C_alloc ?_ _) | (with_reducible refine Kd.C_drewN ?_ _) | (with_reducible refine Kd.C_drew ?_)))
               (case side4 => exact HC0_3.out)
               (case side5 => repeat (first | exact (Kd.C_below HR3.out HB.out) | (with_reducible refine Kd.C_alloc ?_ _) | (with_reducible refine Kd.C_drewN ?_ _) | (with_reducible refine Kd.C_drew ?_)))
               (case side6 => exact HC3.out)
               rintro e w57 ⟨v273, rfl, ho0, hb⟩
               refine ⟨_, rfl, ?_⟩
               have HO274 := Goto.m0 (Kd.R_lower ho0 (below_size (Goto.hx HB))); replace BK258 := Goto.bb BK258 hb; replace BK259 := Goto.bb BK259 hb; replace HB := Goto.hs HB hb
               (try clear hb)
               (try clear hb2)
               (try clear hk)
               (try clear hi)
               (try clear ho0)
               refine hK.out _ _ ⟨(blk_cell BK258.out 0).trans rfl, (blk_cell BK258.out 1).trans rfl, (blk_cell BK258.out 2).trans rfl, (blk_cell BK258.out 3).trans rfl, (blk_cell BK259.out 0).trans rfl, (blk_cell BK259.out 1).trans rfl⟩ (fun hHeld => ?_)
               clear hK K
               refine norm_ (a' := ?_) ?_ ?_
               rotate_left
               ·
                show Act.put _ (some 84) _ = _
                exact Goto.ap
               refine one_ (i := 27) (N := some 88) (Goto.bs 42 268435455) rfl rfl (one_of HT_.out (by kernel_rfl)) (by decide) (fun K hK => ?_)
               refine goes_ Tryd.func17 (by kernel_rfl) rfl #[.agg #[.int .i64 a0_0, .int .i64 a0_1, .slice A0_2 l0_2.length c0_2, .slice A0_3 l0_3.length c0_3], .slice A3 l3.length c3, .agg #[.int .i64 a4_0, .int .u64 a4_1]] (by rfl) rfl rfl (by (try simp only [List.map_toArray, List.map_cons, List.map_nil]); first | done | rfl | (simp only [List.length_drop, List.length_take]; rfl)) ?_
               with_reducible refine (tontineref24_Below.calls k3 a0_0 a0_1 _ _ l0_2 _ _ l0_3 _ _ l3 a4_0 a4_1 t275 _ ?side1 ?side2 ?side3 ?side4 ?side5 ?side6 A49.out).mono ?_
               (case side1 => repeat (first | exact (Kd.C_below HR0_2.out HB.out) | (with_reducible refine Kd.C_alloc ?_ _) | (with_reducible refine Kd.C_drewN ?_ _) | (with_reducible refine Kd.C_drew ?_)))
               (case side2 => exact HC0_2.out)
               (case side3 => repeat (first | exact (Kd.C_below HR0_3.out HB.out) | (with_reducible refine Kd.C_alloc ?_ _) | (with_reducible refine Kd.C_drewN ?_ _) | (with_reducible refine Kd.C_drew ?_)))
               (case side4 => exact HC0_3.out)
               (case side5 => repeat (first | exact (Kd.C_below HR3.out HB.out) | (with_reducible refine Kd.C_alloc ?_ _) | (with_reducible refine Kd.C_drewN ?_ _) | (with_reducible refine Kd.C_drew ?_)))
               (case side6 => exact HC3.out)
               rintro e w58 ⟨v276, rfl, ho0, hb⟩
               refine ⟨_, rfl, ?_⟩
               have HO277 := Goto.m0 (Kd.R_lower (Kd.R_new' ho0 (Kd.R_lt (Goto.rk HO274))) (below_size (Goto.hx HB))); replace HO274 := Goto.m0 (Kd.R_elder' (Goto.rk HO274) (Kd.R_base ho0) hb); replace BK258 := Goto.bb BK258 hb; replace BK259 := Goto.bb BK259 hb; replace HB := Goto.hs HB hb
               (try clear hb)
               (try clear hb2)
               (try clear hk)
               (try clear hi)
               (try clear ho0)
               obtain ⟨Ao59, co59, eo59⟩ := Kd.R_slice HO274.out
               (first | subst eo59 | (injection eo59 with f1_ f2_ f3_; have f4_ := f1_.symm; have f5_ := f3_.symm; clear f1_ f2_ f3_; subst f4_; subst f5_))
               obtain ⟨Ao60, co60, eo60⟩ := Kd.R_slice HO277.out
               (first | subst eo60 | (injection eo60 with f1_ f2_ f3_; have f4_ := f1_.symm; have f5_ := f3_.symm; clear f1_ f2_ f3_; subst f4_; subst f5_))
               refine hK.out _ _ ⟨(blk_cell BK258.out 0).trans rfl, (blk_cell BK258.out 1).trans rfl, (blk_cell BK258.out 2).trans rfl, (blk_cell BK258.out 3).trans rfl, (blk_cell BK259.out 0).trans rfl, (blk_cell BK259.out 1).trans rfl⟩ (fun hHeld => ?_)
               clear hK K
               refine norm_ (a' := ?_) ?_ ?_
               rotate_left
               ·
                show Act.put _ (some 88) _ = _
                exact Goto.ap
               refine one_ (i := 28) (N := some 89) (Goto.bs 42 536870911) rfl rfl (one_of HT_.out (by kernel_rfl)) (by decide) (fun K hK => ?_)
               refine goes_ Tryd.func15 (by kernel_rfl) rfl #[.slice Ao59 t272.length co59, .slice Ao60 t275.length co60] (by rfl) rfl rfl (by (try simp only [List.map_toArray, List.map_cons, List.map_nil]); first | done | rfl | (simp only [List.length_drop, List.length_take]; rfl)) ?_
               with_reducible refine (tontineref1_SameInts.calls k3 _ _ t272 _ _ t275 true _ ?side1 ?side2 ?side3 ?side4 A50.out).mono ?_
               (case side1 => repeat (first | exact (Kd.R_reads' HO274.out).2.2 | (with_reducible refine Kd.C_alloc ?_ _) | (with_reducible refine Kd.C_drewN ?_ _) | (with_reducible refine Kd.C_drew ?_)))
               (case side2 => exact (Kd.R_reads' HO274.out).2.1)
               (case side3 => repeat (first | exact (Kd.R_reads' HO277.out).2.2 | (with_reducible refine Kd.C_alloc ?_ _) | (with_reducible refine Kd.C_drewN ?_ _) | (with_reducible refine Kd.C_drew ?_)))
               (case side4 => exact (Kd.R_reads' HO277.out).2.1)
               rintro e w' ⟨rfl, ⟨nd, rfl⟩⟩
               refine ⟨_, rfl, ?_⟩
               refine hK.out _ _ ⟨(blk_cell BK258.out 0).trans rfl, (blk_cell BK258.out 1).trans rfl, (blk_cell BK258.out 2).trans rfl, (blk_cell BK258.out 3).trans rfl, (blk_cell BK259.out 0).trans rfl, (blk_cell BK259.out 1).trans rfl⟩ (fun hHeld => ?_)
               clear hK K
               refine norm_ (a' := ?_) ?_ ?_
               rotate_left
               ·
                show Act.put _ (some 89) _ = _
                exact Goto.ap
               refine Goto.pu 29 90 42 1073741823 ?_
               refine Goto.pu 30 91 42 2147483647 ?_
               refine Goto.pu 32 93 42 6442450943 ?_
               refine Goto.pu 36 97 42 75161927679 ?_
               refine take_ (i := 31) (N := some 92) (v := ?_) (a' := ?_) (Goto.bs 42 77309411327) rfl rfl (take_ofW HT_.out HW_.out (by kernel_rfl)) (fun _ _ _ h => h) (Or.inl ⟨by rfl, ?_⟩) hHeld ?_ ?_
               rotate_left
               ·
                rintro w' ⟨s0, s1, s2, s3, s4, s5⟩
                go_simp
                with_reducible rfl
               rotate_left
               ·
                exact Goto.ap
               refine take_ (i := 33) (N := some 94) (v := ?_) (a' := ?_) (Goto.bs 42 85899345919) rfl rfl (take_ofW HT_.out HW_.out (by kernel_rfl)) (fun _ _ _ h => h) (Or.inl ⟨by rfl, ?_⟩) hHeld ?_ ?_
               rotate_left
               ·
                rintro w' ⟨s0, s1, s2, s3, s4, s5⟩
                go_simp
                with_reducible rfl
               rotate_left
               ·
                exact Goto.ap
               refine take_ (i := 35) (N := some 96) (v := ?_) (a' := ?_) (Goto.bs 42 120259084287) rfl rfl (take_ofW HT_.out HW_.out (by kernel_rfl)) (fun _ _ _ h => h) (Or.inl ⟨by rfl, ?_⟩) hHeld ?_ ?_
               rotate_left
               ·
                rintro w' ⟨s0, s1, s2, s3, s4, s5⟩
                go_simp
                with_reducible rfl
               rotate_left
               ·
                exact Goto.ap
               refine take_ (i := 37) (N := some 98) (v := ?_) (a' := ?_) (Goto.bs 42 257698037759) rfl rfl (take_ofW HT_.out HW_.out (by kernel_rfl)) (fun _ _ _ h => h) (Or.inl ⟨by rfl, ?_⟩) hHeld ?_ ?_
               rotate_left
               ·
                rintro w' ⟨s0, s1, s2, s3, s4, s5⟩
                go_simp
                with_reducible rfl
               rotate_left
               ·
                exact Goto.ap
               refine one_ (i := 34) (N := some 95) (Goto.bs 42 274877906943) rfl rfl (one_of HT_.out (by kernel_rfl)) (by decide) (fun K hK => ?_)
               refine goes_ Tryd.func18 (by kernel_rfl) rfl #[.agg #[.int .i64 a0_0, .int .i64 a0_1, .slice A0_2 l0_2.length c0_2, .slice A0_3 l0_3.length c0_3], .slice A3 l3.length c3, .agg #[.int .i64 a4_0, .int .u64 a4_1]] (by rfl) rfl rfl (by (try simp only [List.map_toArray, List.map_cons, List.map_nil]); first | done | rfl | (simp only [List.length_drop, List.length_take]; rfl)) ?_
               with_reducible refine (ext_18.calls a0_0 a0_1 _ _ l0_2 _ _ l0_3 _ _ l3 a4_0 a4_1 t279 _ (Goto.kt (Goto.hx HB) HLD.out) ?side1 ?side2 ?side3 ?side4 ?side5 ?side6 A52.out).mono ?_
               (case side1 => repeat (first | exact (Kd.C_below HR0_2.out (Goto.hx HB)) | (with_reducible refine Kd.C_alloc ?_ _) | (with_reducible refine Kd.C_drewN ?_ _) | (with_reducible refine Kd.C_drew ?_)))
               (case side2 => exact HC0_2.out)
               (case side3 => repeat (first | exact (Kd.C_below HR0_3.out (Goto.hx HB)) | (with_reducible refine Kd.C_alloc ?_ _) | (with_reducible refine Kd.C_drewN ?_ _) | (with_reducible refine Kd.C_drew ?_)))
               (case side4 => exact HC0_3.out)
               (case side5 => repeat (first | exact (Kd.C_below HR3.out (Goto.hx HB)) | (with_reducible refine Kd.C_alloc ?_ _) | (with_reducible refine Kd.C_drewN ?_ _) | (with_reducible refine Kd.C_drew ?_)))
               (case side6 => exact HC3.out)
               rintro e w61 ⟨rfl, hb⟩
               refine ⟨_, rfl, ?_⟩
               replace HO274 := Goto.m0 (Kd.R_below (Goto.rk HO274) hb); replace HO277 := Goto.m0 (Kd.R_below (Goto.rk HO277) hb); replace BK258 := Goto.bb BK258 hb; replace BK259 := Goto.bb BK259 hb; replace HB := Goto.hs HB hb
               (try clear hb)
               (try clear hb2)
               (try clear hk)
               (try clear hi)
               refine hK.out _ _ ⟨(blk_cell BK258.out 0).trans rfl, (blk_cell BK258.out 1).trans rfl, (blk_cell BK258.out 2).trans rfl, (blk_cell BK258.out 3).trans rfl, (blk_cell BK259.out 0).trans rfl, (blk_cell BK259.out 1).trans rfl⟩ (fun hHeld => ?_)
               clear hK K
               refine norm_ (a' := ?_) ?_ ?_
               rotate_left
               ·
                show Act.put _ (some 95) _ = _
                exact Goto.ap
               refine one_ (i := 38) (N := some 99) (Goto.bs 42 549755813887) rfl rfl (one_of HT_.out (by kernel_rfl)) (by decide) (fun K hK => ?_)
               refine goes_ Tryd.func19 (by kernel_rfl) rfl #[.agg #[.int .i64 a0_0, .int .i64 a0_1, .slice A0_2 l0_2.length c0_2, .slice A0_3 l0_3.length c0_3], .slice A3 l3.length c3, .agg #[.int .i64 a4_0, .int .u64 a4_1]] (by rfl) rfl rfl (by (try simp only [List.map_toArray, List.map_cons, List.map_nil]); first | done | rfl | (simp only [List.length_drop, List.length_take]; rfl)) ?_
               with_reducible refine (tontineref24_Joint.calls k3 a0_0 a0_1 _ _ l0_2 _ _ l0_3 _ _ l3 a4_0 a4_1 t280 _ ?side1 ?side2 ?side3 ?side4 ?side5 ?side6 A53.out).mono ?_
               (case side1 => repeat (first | exact (Kd.C_below HR0_2.out HB.out) | (with_reducible refine Kd.C_alloc ?_ _) | (with_reducible refine Kd.C_drewN ?_ _) | (with_reducible refine Kd.C_drew ?_)))
               (case side2 => exact HC0_2.out)
               (case side3 => repeat (first | exact (Kd.C_below HR0_3.out HB.out) | (with_reducible refine Kd.C_alloc ?_ _) | (with_reducible refine Kd.C_drewN ?_ _) | (with_reducible refine Kd.C_drew ?_)))
               (case side4 => exact HC0_3.out)
               (case side5 => repeat (first | exact (Kd.C_below HR3.out HB.out) | (with_reducible refine Kd.C_alloc ?_ _) | (with_reducible refine Kd.C_drewN ?_ _) | (with_reducible refine Kd.C_drew ?_)))
               (case side6 => exact HC3.out)
               rintro e w62 ⟨rfl, hb⟩
               refine ⟨_, rfl, ?_⟩
               replace HO274 := Goto.m0 (Kd.R_below (Goto.rk HO274) hb); replace HO277 := Goto.m0 (Kd.R_below (Goto.rk HO277) hb); replace BK258 := Goto.bb BK258 hb; replace BK259 := Goto.bb BK259 hb; replace HB := Goto.hs HB hb
               (try clear hb)
               (try clear hb2)
               (try clear hk)
               (try clear hi)
               refine hK.out _ _ ⟨(blk_cell BK258.out 0).trans rfl, (blk_cell BK258.out 1).trans rfl, (blk_cell BK258.out 2).trans rfl, (blk_cell BK258.out 3).trans rfl, (blk_cell BK259.out 0).trans rfl, (blk_cell BK259.out 1).trans rfl⟩ (fun hHeld => ?_)
               clear hK K
               refine norm_ (a' := ?_) ?_ ?_
               rotate_left
               ·
                show Act.put _ (some 99) _ = _
                exact Goto.ap
               refine Goto.pu 39 100 42 1099511627775 ?_
               refine Goto.pu 40 101 42 2199023255551 ?_
               refine Goto.pu 41 10 42 4398046511103 ?_
               refine done_ (done_of HT_.out (by kernel_rfl)) ?_
               try go_wp2
               go_ret
               exact ⟨Goto.er, by repeat (first | (with_reducible first | exact HB.out | apply below_alloc | apply pw_below_drewN | apply below_drew1 | refine below_set ?_ GE258.out | refine below_set ?_ GE259.out) | exact HB.out)⟩
              ·
               replace c51 := Bool.eq_false_iff.mpr c51
               subst c51
               rw [if_neg (show ¬ (false = true) by decide)] at H
               exact absurd ((Option.some.inj H).trans HRT.out) (by decide)
             ·
              rw [if_neg c47] at H
              have c47b0 : (t270.toList == t271.toList) = false := beq_eq_false_iff_ne.mpr c47
              have c47b1 : (t270.toList != t271.toList) = true := bne_iff_ne.mpr c47
              exact absurd ((Option.some.inj H).trans HRT.out) (by decide)
            ·
             replace c44 := Bool.eq_false_iff.mpr c44
             subst c44
             rw [if_neg (show ¬ (false = true) by decide)] at H
             exact absurd ((Option.some.inj H).trans HRT.out) (by decide)
           ·
            rw [if_neg c42] at H
            have c42b0 : (t267 == t268) = false := by simpa using c42
            (try (have c42b1 : decide (t267 = t268) = false := by simpa using c42))
            (try (have c42b2 : (t267 == t268) = false := by simpa using c42))
            (try (have c42b3 : ¬ (t267 = t268) := by simpa using c42))
            clear c42
            exact absurd ((Option.some.inj H).trans HRT.out) (by decide)
 ·
  replace c7 := Bool.eq_false_iff.mpr c7
  subst c7
  rw [if_neg (show ¬ (false = true) by decide)] at H
  exact absurd ((Option.some.inj H).trans HRT.out) (by decide)

end Go.Proofs.YtlmllmbbdlkknaaDoor.P
