/- Printed by a program of this workplace (a turned copy of the kit's optional print), out of the translation; not trusted: Lean checks it. -/
import Derived.Test.YtbhfkhcedjgpdaaDoorPx0
import Derived.Test.YtbhfkhcedjgpdaaDoorPx4
import Derived.Test.YtbhfkhcedjgpdaaDoorPx6
import Derived.Test.YtbhfkhcedjgpdaaDoorPx7
import Derived.Test.YtbhfkhcedjgpdaaDoorPx13
import Derived.Test.YtbhfkhcedjgpdaaDoorPx15
import Derived.Test.YtbhfkhcedjgpdaaDoorPx16
import Derived.Test.YtbhfkhcedjgpdaaDoorPx17
import Derived.Test.YtbhfkhcedjgpdaaDoorPx18
import Derived.Test.YtbhfkhcedjgpdaaDoorCode
namespace Go.Proofs.YtbhfkhcedjgpdaaDoor.P
open Go.RowKit Go.Proofs.YtbhfkhcedjgpdaaDoorW.PrintWords Go.Proofs.YtbhfkhcedjgpdaaDoorW.PrintLast Go.Proofs.YtbhfkhcedjgpdaaDoorW.PrintMore
attribute [local go_sem] max2_int min2_int max_two min_two max_three min_three max_four min_four   -- for this text's walks alone
set_option linter.unusedVariables false
set_option linter.unusedSimpArgs false

/-! ### tontinelaw20_CheckTells: function 3 -/
def tontinelaw20_CheckTells.j0 : Nat → Int → Int → Bool → Int → Int → List (List Int) → List (S60) → Option (Bool)
  | 0, _, _, _, _, _, _, _ => none
  | k + 1, x1, x2, x16, x267000, x267001, x267002, x267003 => if x16 = true then (some true) else (if (x267003.length : Int) = 0 then (none) else ((check_Read.f k x267000 x267001 x267002 x267003 (Int.tmod (wrap64 (x1)) (x267003.length : Int)) x2).bind fun t270 => ((ext_8.f t270).bind fun t271 => ((tontineref15_Read.f x267000 x267001 x267002 x267003 (Int.tmod (wrap64 (x1)) (x267003.length : Int)) x2).bind fun t272 => (if t271 = t272 then ((check_Send.f k x267000 x267001 x267002 x267003 (Int.tmod (wrap64 (x1)) (x267003.length : Int)) x2).bind fun t273 => ((ext_8.f t273).bind fun t274 => ((tontineref15_Send.f x267000 x267001 x267002 x267003 (Int.tmod (wrap64 (x1)) (x267003.length : Int)) x2).bind fun t275 => (if t274 = t275 then ((check_Plan.f k x267000 x267001 x267002 x267003 (Int.tmod (wrap64 (x1)) (x267003.length : Int)) x2).bind fun t276 => ((ext_8.f t276).bind fun t277 => ((tontineref15_Plan.f k x267000 x267001 x267002 x267003 (Int.tmod (wrap64 (x1)) (x267003.length : Int)) x2).bind fun t278 => (if t277 = t278 then ((check_Level.f k x267000 x267001 x267002 x267003 (Int.tmod (wrap64 (x1)) (x267003.length : Int)) x2).bind fun t279 => ((ext_8.f t279).bind fun t280 => ((tontineref15_Level.f x267000 x267001 x267002 x267003 (Int.tmod (wrap64 (x1)) (x267003.length : Int)) x2).bind fun t281 => (some (t280 == t281))))) else (some false))))) else (some false))))) else (some false))))))
def tontinelaw20_CheckTells.f (k : Nat) (a0_0 : Int) (a0_1 : Int) (l0_2 : List (List Int)) (l0_3 : List (S60)) (a1 : Int) (a2 : Int) : Option (Bool) := (tontinelaw20_known.f k).bind fun t267 => (if t267 = true then ((tontinehelp_WideConf.f k a0_0 a0_1 l0_2 l0_3).bind fun t268 => (if t268 = true then (tontinelaw20_CheckTells.j0 k a1 a2 true a0_0 a0_1 l0_2 l0_3) else ((tontineref1_IsConf.f k a0_0 a0_1 l0_2 l0_3).bind fun t269 => (tontinelaw20_CheckTells.j0 k a1 a2 (t269 != 0) a0_0 a0_1 l0_2 l0_3)))) else (some false))
theorem tontinelaw20_CheckTells.mono_l : ∀ k, (∀ y0 y1 y2 y3 y4 y5 y6, LeO (tontinelaw20_CheckTells.j0 k y0 y1 y2 y3 y4 y5 y6) (tontinelaw20_CheckTells.j0 (k + 1) y0 y1 y2 y3 y4 y5 y6))
  | 0 => fun _ _ _ _ _ _ _ r h => by simp [tontinelaw20_CheckTells.j0] at h
  | k + 1 => by
    have ih0 := tontinelaw20_CheckTells.mono_l k
    · intro y0 y1 y2 y3 y4 y5 y6
      unfold tontinelaw20_CheckTells.j0
      repeat' first
      | (with_reducible exact ih0 _ _ _ _ _ _ _)
      | (with_reducible exact check_Level.mono _ _ _ _ _ _ _)
      | (with_reducible exact check_Plan.mono _ _ _ _ _ _ _)
      | (with_reducible exact check_Read.mono _ _ _ _ _ _ _)
      | (with_reducible exact check_Send.mono _ _ _ _ _ _ _)
      | (with_reducible exact tontinehelp_WideConf.mono _ _ _ _ _)
      | (with_reducible exact tontinelaw20_known.mono _)
      | (with_reducible exact tontineref15_Plan.mono _ _ _ _ _ _ _)
      | (with_reducible exact tontineref1_IsConf.mono _ _ _ _ _)
      | (with_reducible exact LeO.refl _)
      | (with_reducible exact LeO.none _)
      | (with_reducible refine LeO.ite ?_ ?_)
      | (with_reducible refine LeO.bind ?_ (fun _ => ?_))
      | exact ih0 _ _ _ _ _ _ _
      | exact check_Level.mono _ _ _ _ _ _ _
      | exact check_Plan.mono _ _ _ _ _ _ _
      | exact check_Read.mono _ _ _ _ _ _ _
      | exact check_Send.mono _ _ _ _ _ _ _
      | exact tontinehelp_WideConf.mono _ _ _ _ _
      | exact tontinelaw20_known.mono _
      | exact tontineref15_Plan.mono _ _ _ _ _ _ _
      | exact tontineref1_IsConf.mono _ _ _ _ _
      | exact LeO.none _
      | refine LeO.ite ?_ ?_
      | refine LeO.bind ?_ (fun _ => ?_)
theorem tontinelaw20_CheckTells.mono : ∀ a0 a1 a2 a3 a4 a5 k, LeO (tontinelaw20_CheckTells.f k a0 a1 a2 a3 a4 a5) (tontinelaw20_CheckTells.f (k + 1) a0 a1 a2 a3 a4 a5) := by
 intro a0 a1 a2 a3 a4 a5 k
 have ih0 := tontinelaw20_CheckTells.mono_l k
 unfold tontinelaw20_CheckTells.f
 repeat' first
   | (with_reducible exact ih0 _ _ _ _ _ _ _)
   | (with_reducible exact check_Level.mono _ _ _ _ _ _ _)
   | (with_reducible exact check_Plan.mono _ _ _ _ _ _ _)
   | (with_reducible exact check_Read.mono _ _ _ _ _ _ _)
   | (with_reducible exact check_Send.mono _ _ _ _ _ _ _)
   | (with_reducible exact tontinehelp_WideConf.mono _ _ _ _ _)
   | (with_reducible exact tontinelaw20_known.mono _)
   | (with_reducible exact tontineref15_Plan.mono _ _ _ _ _ _ _)
   | (with_reducible exact tontineref1_IsConf.mono _ _ _ _ _)
   | (with_reducible exact LeO.refl _)
   | (with_reducible exact LeO.none _)
   | (with_reducible refine LeO.ite ?_ ?_)
   | (with_reducible refine LeO.bind ?_ (fun _ => ?_))
   | exact ih0 _ _ _ _ _ _ _
   | exact check_Level.mono _ _ _ _ _ _ _
   | exact check_Plan.mono _ _ _ _ _ _ _
   | exact check_Read.mono _ _ _ _ _ _ _
   | exact check_Send.mono _ _ _ _ _ _ _
   | exact tontinehelp_WideConf.mono _ _ _ _ _
   | exact tontinelaw20_known.mono _
   | exact tontineref15_Plan.mono _ _ _ _ _ _ _
   | exact tontineref1_IsConf.mono _ _ _ _ _
   | exact LeO.none _
   | refine LeO.ite ?_ ?_
   | refine LeO.bind ?_ (fun _ => ?_)
def tontinelaw20_CheckTells.T6 : Bool × List (List Nat × List Nat) := (true, [([], []), ([], []), ([], []), ([0, 1, 2], [0, 1, 2]), ([3, 3], [3]), ([], []), ([], []), ([], []), ([5, 6, 7, 4], [5, 6, 7]), ([4, 8], [4, 8]), ([9, 8], [9]), ([10], [10]), ([10], [10]), ([10], [10]), ([11, 12, 13, 10, 10], [10, 11, 12, 13]), ([14, 14, 10], [10, 14]), ([10], [10]), ([10], [10]), ([10], [10]), ([16, 17, 18, 15, 10], [10, 16, 17, 18]), ([15, 19, 10], [10, 15, 19]), ([10, 20], [10, 20]), ([21, 19], [21]), ([22], [22]), ([22], [22]), ([22], [22]), ([23, 24, 25, 22, 22], [22, 23, 24, 25]), ([26, 26, 22], [22, 26]), ([22], [22]), ([22], [22]), ([22], [22]), ([28, 29, 30, 27, 22], [22, 28, 29, 30]), ([27, 31, 22], [22, 27, 31]), ([22, 32], [22, 32]), ([33, 31], [33]), ([34], [34]), ([34], [34]), ([34], [34]), ([35, 36, 37, 34, 34], [34, 35, 36, 37]), ([38, 38, 34], [34, 38]), ([34], [34]), ([34], [34]), ([34], [34]), ([40, 41, 42, 39, 34], [34, 40, 41, 42]), ([39, 43, 34], [34, 39, 43]), ([34, 44], [34, 44]), ([45, 43, 0, 1, 2, 3, 4, 5, 6, 7, 8, 9, 10, 11, 12, 13, 14, 15, 16, 17, 18, 19, 20, 21, 22, 23, 24, 25, 26, 27, 28, 29, 30, 31, 32, 33, 34, 35, 36, 37, 38, 39, 40, 41, 42, 43, 44, 45], [45])])
def tontinelaw20_CheckTells.B6 : List Nat := [0, 0, 0, 7, 15, 0, 0, 0, 255, 511, 1023, 2047, 2047, 2047, 16383, 32767, 2047, 2047, 2047, 524287, 1048575, 2097151, 4194303, 8388607, 8388607, 8388607, 67108863, 134217727, 8388607, 8388607, 8388607, 2147483647, 4294967295, 8589934591, 17179869183, 34359738367, 34359738367, 34359738367, 274877906943, 549755813887, 34359738367, 34359738367, 34359738367, 8796093022207, 17592186044415, 35184372088831, 70368744177663]
theorem tontinelaw20_CheckTells.tab6 : rtab .any (opsOf Tryd.f3 6) = tontinelaw20_CheckTells.T6 := by kernel_rfl
theorem tontinelaw20_CheckTells.bits6 : waitsOk tontinelaw20_CheckTells.T6.2 tontinelaw20_CheckTells.B6 = true := by kernel_rfl
set_option maxHeartbeats 8000000 in
set_option maxRecDepth 100000 in
theorem tontinelaw20_CheckTells.calls (k : Nat) (a0_0 : Int) (a0_1 : Int) (A0_2 : Option Addr) (c0_2 : Nat) (l0_2 : List (List Int)) (A0_3 : Option Addr) (c0_3 : Nat) (l0_3 : List (S60)) (a1 : Int) (a2 : Int) (r : Bool) (hrt : r = true) (w : World) (hld : w.cell? ⟨0, 0, none⟩ = some (.iface 89 (.agg #[.pointer (some ⟨1, 31, none⟩)]))) (hr0_2 : Kd.C (Kd.slice 3 (Kd.int .i64)) w A0_2 l0_2.length l0_2) (hc0_2 : l0_2.length ≤ c0_2) (hr0_3 : Kd.C k60 w A0_3 l0_3.length l0_3) (hc0_3 : l0_3.length ≤ c0_3) (h : tontinelaw20_CheckTells.f k a0_0 a0_1 l0_2 l0_3 a1 a2 = some r) :
    Calls Tryd.prog 3 #[.agg #[.int .i64 a0_0, .int .i64 a0_1, .slice A0_2 l0_2.length c0_2, .slice A0_3 l0_3.length c0_3], .int .u8 a1, .int .i64 a2] w fun e w' => e = .returned (.bool r) ∧ Below w.heap.size w w' := by
 have hu25 := Tryd.underlying25
 have HR0_2 := Goto.m0 hr0_2
 have HC0_2 := Goto.m0 hc0_2
 clear hr0_2 hc0_2
 have HR0_3 := Goto.m0 hr0_3
 have HC0_3 := Goto.m0 hc0_3
 clear hr0_3 hc0_3
 have HB := Goto.m0 (Below.refl w.heap.size w)
 have HRT := Goto.m0 hrt
 clear hrt
 have HLD := Goto.m0 hld
 clear hld
 have H : ((tontinelaw20_known.f k).bind fun t267 => (if t267 = true then ((tontinehelp_WideConf.f k a0_0 a0_1 l0_2 l0_3).bind fun t268 => (if t268 = true then (tontinelaw20_CheckTells.j0 k a1 a2 true a0_0 a0_1 l0_2 l0_3) else ((tontineref1_IsConf.f k a0_0 a0_1 l0_2 l0_3).bind fun t269 => (tontinelaw20_CheckTells.j0 k a1 a2 (t269 != 0) a0_0 a0_1 l0_2 l0_3)))) else (some false))) = some r := h
 clear h
 replace H := Option.bind_eq_some_iff.mp H
 obtain ⟨t267, A40, H⟩ := H
 have A4 := Goto.m0 A40
 clear A40
 by_cases c5 : t267 = true
 ·
  subst c5
  rw [if_pos rfl] at H
  have HC6 := Goto.m0 H
  clear H
  go_enter Tryd.func3, Tryd.ntmps3
  go_upto_region 3 with (first | ((with_reducible refine gate_dst (N := 3) rfl ?_); refine box_event ?hg (N := 3) ?hd (cs := #[.int .i64 a0_0, .int .i64 a0_1, .slice A0_2 l0_2.length c0_2, .slice A0_3 l0_3.length c0_3]) (t := 25) ?hr ?_; (case hd => rfl); (case hg => rfl); (case hr => first | (go_simp; done) | (go_simp; rfl)); intro gb266 hg w7 hbox hb; have BK266 := Goto.m0 (hbox); have GW266 := Goto.gs HB hg; have GE266 := Goto.gs HB hg; replace HB := Goto.hs HB hb; clear hb hbox hg) | ((with_reducible refine gate_callee (f := 5) rfl ?_); refine goesL_ (some 8) rfl rfl Tryd.func5 (by kernel_rfl) rfl #[] rfl (by (try simp only [List.map_toArray, List.map_cons, List.map_nil]); first | done | rfl | (simp only [List.length_drop, List.length_take]; rfl)) ?_; (with_reducible refine (tontinelaw20_known.calls k  true (by first | rfl | assumption | (simp only [Bool.not_eq_true, Bool.not_eq_false] at *; assumption)) _ A4.out).mono ?_); rintro e w8 ⟨rfl, hb⟩; refine ⟨_, rfl, ?_⟩; replace BK266 := Goto.bb BK266 hb; replace HB := Goto.hs HB hb; (try clear hb); (try clear hb2); (try clear hk); (try clear hi)))
  (try simp only [Act.put, List.setIfInBounds_toArray, List.set_cons_zero, List.set_cons_succ])
  go_cut [16] (fun v16 wc => ∃ (kq : Nat) (x16_5 : Bool), v16 = .bool x16_5 ∧ Aside0 (tontinelaw20_CheckTells.j0 kq a1 a2 x16_5 a0_0 a0_1 l0_2 l0_3 = some r) ∧ Aside0 (kq ≤ k) ∧ Aside0 (wc.heap[gb266]? = some (.cells #[.int .i64 a0_0, .int .i64 a0_1, (.slice A0_2 l0_2.length c0_2), (.slice A0_3 l0_3.length c0_3)] 25 (0, 0))) ∧ Aside0 (Below w.heap.size w wc))
  case first =>
   have H := HC6.out; clear HC6
   replace H := Option.bind_eq_some_iff.mp H
   obtain ⟨t268, A90, H⟩ := H
   have A9 := Goto.m0 A90
   clear A90
   by_cases c10 : t268 = true
   ·
    subst c10
    rw [if_pos rfl] at H
    have H' := Goto.m0 H
    clear H; have hcz11_0 := Goto.bc0 BK266; have hcz11_1 := Goto.bc1 BK266; have hcz11_2 := Goto.bc2 BK266; have hcz11_3 := Goto.bc3 BK266; have hfz11_0 := Goto.bf BK266 0; have hfz11_1 := Goto.bf BK266 1; have hfz11_2 := Goto.bf BK266 2; have hfz11_3 := Goto.bf BK266 3
    go_wp2_with (first | ((with_reducible refine gate_callee (f := 6) rfl ?_); refine goesL_ (some 11) rfl rfl Tryd.func6 (by kernel_rfl) rfl #[.agg #[.int .i64 a0_0, .int .i64 a0_1, .slice A0_2 l0_2.length c0_2, .slice A0_3 l0_3.length c0_3]] rfl (by (try simp only [List.map_toArray, List.map_cons, List.map_nil]); first | done | rfl | (simp only [List.length_drop, List.length_take]; rfl)) ?_; (with_reducible refine (tontinehelp_WideConf.calls k a0_0 a0_1 _ _ l0_2 _ _ l0_3 true _ ?side1 ?side2 ?side3 ?side4 A9.out).mono ?_); (case side1 => repeat (first | exact (Kd.C_below HR0_2.out HB.out) | (with_reducible refine Kd.C_alloc ?_ _) | (with_reducible refine Kd.C_drewN ?_ _) | (with_reducible refine Kd.C_drew ?_))); (case side2 => exact HC0_2.out); (case side3 => repeat (first | exact (Kd.C_below HR0_3.out HB.out) | (with_reducible refine Kd.C_alloc ?_ _) | (with_reducible refine Kd.C_drewN ?_ _) | (with_reducible refine Kd.C_drew ?_))); (case side4 => exact HC0_3.out); rintro e w12 ⟨rfl, hb⟩; refine ⟨_, rfl, ?_⟩; replace BK266 := Goto.bb BK266 hb; replace HB := Goto.hs HB hb; (try clear hb); (try clear hb2); (try clear hk); (try clear hi)))
    go_meet
    case rel => exact ⟨_, (true), (by first | rfl | (simp; done) | (simp [*]; done)), H', ⟨by first | omega | exact Nat.le_refl _⟩, ⟨Goto.bx BK266⟩, ⟨Goto.hx HB⟩⟩
   ·
    replace c10 := Bool.eq_false_iff.mpr c10
    subst c10
    rw [if_neg (show ¬ (false = true) by decide)] at H
    replace H := Option.bind_eq_some_iff.mp H
    obtain ⟨t269, A130, H⟩ := H
    have A13 := Goto.m0 A130
    clear A130
    have H' := Goto.m0 H
    clear H; have hcz14_0 := Goto.bc0 BK266; have hcz14_1 := Goto.bc1 BK266; have hcz14_2 := Goto.bc2 BK266; have hcz14_3 := Goto.bc3 BK266; have hfz14_0 := Goto.bf BK266 0; have hfz14_1 := Goto.bf BK266 1; have hfz14_2 := Goto.bf BK266 2; have hfz14_3 := Goto.bf BK266 3
    go_wp2_with (first | ((with_reducible refine gate_callee (f := 6) rfl ?_); refine goesL_ (some 11) rfl rfl Tryd.func6 (by kernel_rfl) rfl #[.agg #[.int .i64 a0_0, .int .i64 a0_1, .slice A0_2 l0_2.length c0_2, .slice A0_3 l0_3.length c0_3]] rfl (by (try simp only [List.map_toArray, List.map_cons, List.map_nil]); first | done | rfl | (simp only [List.length_drop, List.length_take]; rfl)) ?_; (with_reducible refine (tontinehelp_WideConf.calls k a0_0 a0_1 _ _ l0_2 _ _ l0_3 false _ ?side1 ?side2 ?side3 ?side4 A9.out).mono ?_); (case side1 => repeat (first | exact (Kd.C_below HR0_2.out HB.out) | (with_reducible refine Kd.C_alloc ?_ _) | (with_reducible refine Kd.C_drewN ?_ _) | (with_reducible refine Kd.C_drew ?_))); (case side2 => exact HC0_2.out); (case side3 => repeat (first | exact (Kd.C_below HR0_3.out HB.out) | (with_reducible refine Kd.C_alloc ?_ _) | (with_reducible refine Kd.C_drewN ?_ _) | (with_reducible refine Kd.C_drew ?_))); (case side4 => exact HC0_3.out); rintro e w15 ⟨rfl, hb⟩; refine ⟨_, rfl, ?_⟩; replace BK266 := Goto.bb BK266 hb; replace HB := Goto.hs HB hb; (try clear hb); (try clear hb2); (try clear hk); (try clear hi); have hcz16_0 := Goto.bc0 BK266; have hcz16_1 := Goto.bc1 BK266; have hcz16_2 := Goto.bc2 BK266; have hcz16_3 := Goto.bc3 BK266; have hfz16_0 := Goto.bf BK266 0; have hfz16_1 := Goto.bf BK266 1; have hfz16_2 := Goto.bf BK266 2; have hfz16_3 := Goto.bf BK266 3) | (go_at_call 7; (with_reducible refine (tontineref1_IsConf.calls k a0_0 a0_1 _ _ l0_2 _ _ l0_3 t269 _ ?side1 ?side2 ?side3 ?side4 A13.out).mono ?_); (case side1 => repeat (first | exact (Kd.C_below HR0_2.out HB.out) | (with_reducible refine Kd.C_alloc ?_ _) | (with_reducible refine Kd.C_drewN ?_ _) | (with_reducible refine Kd.C_drew ?_))); (case side2 => exact HC0_2.out); (case side3 => repeat (first | exact (Kd.C_below HR0_3.out HB.out) | (with_reducible refine Kd.C_alloc ?_ _) | (with_reducible refine Kd.C_drewN ?_ _) | (with_reducible refine Kd.C_drew ?_))); (case side4 => exact HC0_3.out); rintro e w17 ⟨rfl, hb⟩; replace BK266 := Goto.bb BK266 hb; replace HB := Goto.hs HB hb; (try clear hb); (try clear hb2); (try clear hk); (try clear hi)))
    go_meet
    case rel => exact ⟨_, ((t269 != 0)), (by first | rfl | (simp; done) | (simp [*]; done)), H', ⟨by first | omega | exact Nat.le_refl _⟩, ⟨Goto.bx BK266⟩, ⟨Goto.hx HB⟩⟩
  case rest =>
   clear HC6; try clear c1; try clear p2; try clear c3; try clear c5; try clear c6; try clear c10; try clear hcz11_0; try clear hcz11_1; try clear hcz11_2; try clear hcz11_3; try clear hcz14_0; try clear hcz14_1; try clear hcz14_2; try clear hcz14_3; try clear hcz16_0; try clear hcz16_1; try clear hcz16_2; try clear hcz16_3; try clear hfz11_0; try clear hfz11_1; try clear hfz11_2; try clear hfz11_3; try clear hfz14_0; try clear hfz14_1; try clear hfz14_2; try clear hfz14_3; try clear hfz16_0; try clear hfz16_1; try clear hfz16_2; try clear hfz16_3
   obtain ⟨kq, x16_5, rfl, HA, HJ5, BK266, HB⟩ := hcut
   cases kq with
   | zero => exact absurd HA.out (by simp [tontinelaw20_CheckTells.j0])
   | succ kj5 =>
    have H := HA.out; clear HA
    simp only [tontinelaw20_CheckTells.j0] at H
    by_cases c18 : x16_5 = true
    ·
     subst c18
     rw [if_pos rfl] at H
     obtain rfl := Option.some.inj H
     go_wp2
     go_ret
     exact ⟨Goto.er, by repeat (first | (with_reducible first | exact HB.out | apply below_alloc | apply pw_below_drewN | apply below_drew1 | refine below_set ?_ GE266.out) | exact HB.out)⟩
    ·
     replace c18 := Bool.eq_false_iff.mpr c18
     subst c18
     rw [if_neg (show ¬ (false = true) by decide)] at H
     by_cases c19 : (l0_3.length : Int) = 0
     ·
      rw [if_pos c19] at H
      exact absurd H (by simp)
     ·
      rw [if_neg c19] at H
      have c19b0 : ((l0_3.length : Int) == 0) = false := beq_eq_false_iff_ne.mpr c19
      have c19b1 : ((l0_3.length : Int) != 0) = true := bne_iff_ne.mpr c19
      have c19b2 : ¬ (l0_3 = []) := fun h_ => c19 (by rw [h_]; rfl)
      replace H := Option.bind_eq_some_iff.mp H
      obtain ⟨t270, A200, H⟩ := H
      have A20 := Goto.m0 A200
      clear A200
      replace H := Option.bind_eq_some_iff.mp H
      obtain ⟨t271, A210, H⟩ := H
      have A21 := Goto.m0 A210
      clear A210
      replace H := Option.bind_eq_some_iff.mp H
      obtain ⟨t272, A220, H⟩ := H
      have A22 := Goto.m0 A220
      clear A220
      by_cases c23 : t271 = t272
      ·
       rw [if_pos c23] at H
       have c23b0 : (t271 == t272) = true := beq_iff_eq.mpr c23
       have c23b1 : (t271 != t272) = false := bne_eq_false_iff_eq.mpr c23
       clear c23
       replace H := Option.bind_eq_some_iff.mp H
       obtain ⟨t273, A240, H⟩ := H
       have A24 := Goto.m0 A240
       clear A240
       replace H := Option.bind_eq_some_iff.mp H
       obtain ⟨t274, A250, H⟩ := H
       have A25 := Goto.m0 A250
       clear A250
       replace H := Option.bind_eq_some_iff.mp H
       obtain ⟨t275, A260, H⟩ := H
       have A26 := Goto.m0 A260
       clear A260
       by_cases c27 : t274 = t275
       ·
        rw [if_pos c27] at H
        have c27b0 : (t274 == t275) = true := beq_iff_eq.mpr c27
        have c27b1 : (t274 != t275) = false := bne_eq_false_iff_eq.mpr c27
        clear c27
        replace H := Option.bind_eq_some_iff.mp H
        obtain ⟨t276, A280, H⟩ := H
        have A28 := Goto.m0 A280
        clear A280
        replace H := Option.bind_eq_some_iff.mp H
        obtain ⟨t277, A290, H⟩ := H
        have A29 := Goto.m0 A290
        clear A290
        replace H := Option.bind_eq_some_iff.mp H
        obtain ⟨t278, A300, H⟩ := H
        have A30 := Goto.m0 A300
        clear A300
        by_cases c31 : t277 = t278
        ·
         rw [if_pos c31] at H
         have c31b0 : (t277 == t278) = true := beq_iff_eq.mpr c31
         have c31b1 : (t277 != t278) = false := bne_eq_false_iff_eq.mpr c31
         clear c31
         replace H := Option.bind_eq_some_iff.mp H
         obtain ⟨t279, A320, H⟩ := H
         have A32 := Goto.m0 A320
         clear A320
         replace H := Option.bind_eq_some_iff.mp H
         obtain ⟨t280, A330, H⟩ := H
         have A33 := Goto.m0 A330
         clear A330
         replace H := Option.bind_eq_some_iff.mp H
         obtain ⟨t281, A340, H⟩ := H
         have A34 := Goto.m0 A340
         clear A340
         obtain rfl := Option.some.inj H
         have hcz35_0 := Goto.bc0 BK266; have hcz35_1 := Goto.bc1 BK266; have hcz35_2 := Goto.bc2 BK266; have hcz35_3 := Goto.bc3 BK266; have hfz35_0 := Goto.bf BK266 0; have hfz35_1 := Goto.bf BK266 1; have hfz35_2 := Goto.bf BK266 2; have hfz35_3 := Goto.bf BK266 3
         try go_wp2
         replace BK266 := Goto.m0 (blk_drew BK266.out); replace HB := Goto.m0 (below_drew1 HB.out)
         refine start_ (n := 47) (S := fun w' => w'.cell? ⟨gb266, 0, none⟩ = some (.int .i64 a0_0) ∧ w'.cell? ⟨gb266, 1, none⟩ = some (.int .i64 a0_1) ∧ w'.cell? ⟨gb266, 2, none⟩ = some (.slice A0_2 l0_2.length c0_2) ∧ w'.cell? ⟨gb266, 3, none⟩ = some (.slice A0_3 l0_3.length c0_3)) (ds := []) (.replicate 47 false) (by kernel_rfl) rfl rfl ⟨(blk_cell BK266.out 0).trans rfl, (blk_cell BK266.out 1).trans rfl, (blk_cell BK266.out 2).trans rfl, (blk_cell BK266.out 3).trans rfl⟩ (fun hHeld => ?_); refine with_tabW tontinelaw20_CheckTells.tab6 tontinelaw20_CheckTells.bits6 (fun HT_ HW_ => ?_)
         generalize wc.drew = w36 at BK266 HB hHeld ⊢
         refine Goto.pu 1 24 47 2 ?_
         refine Goto.pu 2 25 47 6 ?_
         refine Goto.pu 6 29 47 70 ?_
         refine Goto.pu 7 30 47 198 ?_
         refine take_ (i := 0) (N := some 23) (v := ?_) (a' := ?_) (Goto.bs 47 199) rfl rfl (take_ofW HT_.out HW_.out (by kernel_rfl)) (fun _ _ _ h => h) (Or.inl ⟨by rfl, ?_⟩) hHeld ?_ ?_
         rotate_left
         ·
          rintro w' ⟨s0, s1, s2, s3⟩
          go_simp
          with_reducible rfl
         rotate_left
         ·
          exact Goto.ap
         refine take_ (i := 5) (N := some 28) (v := ?_) (a' := ?_) (Goto.bs 47 231) rfl rfl (take_ofW HT_.out HW_.out (by kernel_rfl)) (fun _ _ _ h => h) (Or.inl ⟨by rfl, ?_⟩) hHeld ?_ ?_
         rotate_left
         ·
          rintro w' ⟨s0, s1, s2, s3⟩
          go_simp
          with_reducible rfl
         rotate_left
         ·
          exact Goto.ap
         refine one_ (i := 3) (N := some 26) (Goto.bs 47 239) rfl rfl (one_of HT_.out (by kernel_rfl)) (by decide) (fun K hK => ?_)
         refine goes_ Tryd.func9 (by kernel_rfl) rfl #[.agg #[.int .i64 a0_0, .int .i64 a0_1, .slice A0_2 l0_2.length c0_2, .slice A0_3 l0_3.length c0_3], .int .i64 (Int.tmod (wrap64 (a1)) (l0_3.length : Int)), .int .i64 a2] (by rfl) rfl rfl (by (try simp only [List.map_toArray, List.map_cons, List.map_nil]); first | done | rfl | (simp only [List.length_drop, List.length_take]; rfl)) ?_
         with_reducible refine (check_Read.calls kj5 a0_0 a0_1 _ _ l0_2 _ _ l0_3 (Int.tmod (wrap64 (a1)) (l0_3.length : Int)) a2 t270 _ ?side1 ?side2 ?side3 ?side4 A20.out).mono ?_
         (case side1 => repeat (first | exact (Kd.C_below HR0_2.out HB.out) | (with_reducible refine Kd.C_alloc ?_ _) | (with_reducible refine Kd.C_drewN ?_ _) | (with_reducible refine Kd.C_drew ?_)))
         (case side2 => exact HC0_2.out)
         (case side3 => repeat (first | exact (Kd.C_below HR0_3.out HB.out) | (with_reducible refine Kd.C_alloc ?_ _) | (with_reducible refine Kd.C_drewN ?_ _) | (with_reducible refine Kd.C_drew ?_)))
         (case side4 => exact HC0_3.out)
         rintro e w37 ⟨rfl, hb⟩
         refine ⟨_, rfl, ?_⟩
         replace BK266 := Goto.bb BK266 hb; replace HB := Goto.hs HB hb
         (try clear hb)
         (try clear hb2)
         (try clear hk)
         (try clear hi)
         (try simp only [errW_none, errW_some])
         have CA21 := fun W hl_ => ext_8.calls t270 t271 W hl_ A21.out
         try simp only [errW_none, errW_some] at CA21
         refine hK.out _ _ ⟨(blk_cell BK266.out 0).trans rfl, (blk_cell BK266.out 1).trans rfl, (blk_cell BK266.out 2).trans rfl, (blk_cell BK266.out 3).trans rfl⟩ (fun hHeld => ?_)
         clear hK K
         refine norm_ (a' := ?_) ?_ ?_
         rotate_left
         ·
          show Act.put _ (some 26) _ = _
          exact Goto.ap
         refine one_ (i := 4) (N := some 27) (Goto.bs 47 255) rfl rfl (one_of HT_.out (by kernel_rfl)) (by decide) (fun K hK => ?_)
         refine goes_ Tryd.func8 (by kernel_rfl) rfl #[errW t270] (by rfl) rfl rfl (by (try simp only [List.map_toArray, List.map_cons, List.map_nil]); first | done | rfl | (simp only [List.length_drop, List.length_take]; rfl)) ?_
         with_reducible refine (CA21 _ (Goto.kc (Goto.hx HB) HLD.out)).mono ?_
         rintro e w38 ⟨rfl, hb⟩
         refine ⟨_, rfl, ?_⟩
         replace BK266 := Goto.bb BK266 hb; replace HB := Goto.hs HB hb
         (try clear hb)
         (try clear hb2)
         (try clear hk)
         (try clear hi)
         refine hK.out _ _ ⟨(blk_cell BK266.out 0).trans rfl, (blk_cell BK266.out 1).trans rfl, (blk_cell BK266.out 2).trans rfl, (blk_cell BK266.out 3).trans rfl⟩ (fun hHeld => ?_)
         clear hK K
         refine norm_ (a' := ?_) ?_ ?_
         rotate_left
         ·
          show Act.put _ (some 27) _ = _
          exact Goto.ap
         refine one_ (i := 8) (N := some 31) (Goto.bs 47 511) rfl rfl (one_of HT_.out (by kernel_rfl)) (by decide) (fun K hK => ?_)
         refine goes_ Tryd.func10 (by kernel_rfl) rfl #[.agg #[.int .i64 a0_0, .int .i64 a0_1, .slice A0_2 l0_2.length c0_2, .slice A0_3 l0_3.length c0_3], .int .i64 (Int.tmod (wrap64 (a1)) (l0_3.length : Int)), .int .i64 a2] (by rfl) rfl rfl (by (try simp only [List.map_toArray, List.map_cons, List.map_nil]); first | done | rfl | (simp only [List.length_drop, List.length_take]; rfl)) ?_
         with_reducible refine (tontineref15_Read.calls a0_0 a0_1 _ _ l0_2 _ _ l0_3 (Int.tmod (wrap64 (a1)) (l0_3.length : Int)) a2 t272 _ ?side1 ?side2 ?side3 ?side4 A22.out).mono ?_
         (case side1 => repeat (first | exact (Kd.C_below HR0_2.out HB.out) | (with_reducible refine Kd.C_alloc ?_ _) | (with_reducible refine Kd.C_drewN ?_ _) | (with_reducible refine Kd.C_drew ?_)))
         (case side2 => exact HC0_2.out)
         (case side3 => repeat (first | exact (Kd.C_below HR0_3.out HB.out) | (with_reducible refine Kd.C_alloc ?_ _) | (with_reducible refine Kd.C_drewN ?_ _) | (with_reducible refine Kd.C_drew ?_)))
         (case side4 => exact HC0_3.out)
         rintro e w39 ⟨rfl, hb⟩
         refine ⟨_, rfl, ?_⟩
         replace BK266 := Goto.bb BK266 hb; replace HB := Goto.hs HB hb
         (try clear hb)
         (try clear hb2)
         (try clear hk)
         (try clear hi)
         refine hK.out _ _ ⟨(blk_cell BK266.out 0).trans rfl, (blk_cell BK266.out 1).trans rfl, (blk_cell BK266.out 2).trans rfl, (blk_cell BK266.out 3).trans rfl⟩ (fun hHeld => ?_)
         clear hK K
         refine norm_ (a' := ?_) ?_ ?_
         rotate_left
         ·
          show Act.put _ (some 31) _ = _
          exact Goto.ap
         refine Goto.pu 9 32 47 1023 ?_
         refine Goto.pu 10 33 47 2047 ?_
         refine Goto.pu 12 35 47 6143 ?_
         refine Goto.pu 13 36 47 14335 ?_
         refine Goto.pu 17 40 47 145407 ?_
         refine Goto.pu 18 41 47 407551 ?_
         refine take_ (i := 11) (N := some 34) (v := ?_) (a' := ?_) (Goto.bs 47 409599) rfl rfl (take_ofW HT_.out HW_.out (by kernel_rfl)) (fun _ _ _ h => h) (Or.inl ⟨by rfl, ?_⟩) hHeld ?_ ?_
         rotate_left
         ·
          rintro w' ⟨s0, s1, s2, s3⟩
          go_simp
          with_reducible rfl
         rotate_left
         ·
          exact Goto.ap
         refine take_ (i := 16) (N := some 39) (v := ?_) (a' := ?_) (Goto.bs 47 475135) rfl rfl (take_ofW HT_.out HW_.out (by kernel_rfl)) (fun _ _ _ h => h) (Or.inl ⟨by rfl, ?_⟩) hHeld ?_ ?_
         rotate_left
         ·
          rintro w' ⟨s0, s1, s2, s3⟩
          go_simp
          with_reducible rfl
         rotate_left
         ·
          exact Goto.ap
         refine one_ (i := 14) (N := some 37) (Goto.bs 47 491519) rfl rfl (one_of HT_.out (by kernel_rfl)) (by decide) (fun K hK => ?_)
         refine goes_ Tryd.func11 (by kernel_rfl) rfl #[.agg #[.int .i64 a0_0, .int .i64 a0_1, .slice A0_2 l0_2.length c0_2, .slice A0_3 l0_3.length c0_3], .int .i64 (Int.tmod (wrap64 (a1)) (l0_3.length : Int)), .int .i64 a2] (by rfl) rfl rfl (by (try simp only [List.map_toArray, List.map_cons, List.map_nil]); first | done | rfl | (simp only [List.length_drop, List.length_take]; rfl)) ?_
         with_reducible refine (check_Send.calls kj5 a0_0 a0_1 _ _ l0_2 _ _ l0_3 (Int.tmod (wrap64 (a1)) (l0_3.length : Int)) a2 t273 _ ?side1 ?side2 ?side3 ?side4 A24.out).mono ?_
         (case side1 => repeat (first | exact (Kd.C_below HR0_2.out HB.out) | (with_reducible refine Kd.C_alloc ?_ _) | (with_reducible refine Kd.C_drewN ?_ _) | (with_reducible refine Kd.C_drew ?_)))
         (case side2 => exact HC0_2.out)
         (case side3 => repeat (first | exact (Kd.C_below HR0_3.out HB.out) | (with_reducible refine Kd.C_alloc ?_ _) | (with_reducible refine Kd.C_drewN ?_ _) | (with_reducible refine Kd.C_drew ?_)))
         (case side4 => exact HC0_3.out)
         rintro e w40 ⟨rfl, hb⟩
         refine ⟨_, rfl, ?_⟩
         replace BK266 := Goto.bb BK266 hb; replace HB := Goto.hs HB hb
         (try clear hb)
         (try clear hb2)
         (try clear hk)
         (try clear hi)
         (try simp only [errW_none, errW_some])
         have CA25 := fun W hl_ => ext_8.calls t273 t274 W hl_ A25.out
         try simp only [errW_none, errW_some] at CA25
         refine hK.out _ _ ⟨(blk_cell BK266.out 0).trans rfl, (blk_cell BK266.out 1).trans rfl, (blk_cell BK266.out 2).trans rfl, (blk_cell BK266.out 3).trans rfl⟩ (fun hHeld => ?_)
         clear hK K
         refine norm_ (a' := ?_) ?_ ?_
         rotate_left
         ·
          show Act.put _ (some 37) _ = _
          exact Goto.ap
         refine one_ (i := 15) (N := some 38) (Goto.bs 47 524287) rfl rfl (one_of HT_.out (by kernel_rfl)) (by decide) (fun K hK => ?_)
         refine goes_ Tryd.func8 (by kernel_rfl) rfl #[errW t273] (by rfl) rfl rfl (by (try simp only [List.map_toArray, List.map_cons, List.map_nil]); first | done | rfl | (simp only [List.length_drop, List.length_take]; rfl)) ?_
         with_reducible refine (CA25 _ (Goto.kc (Goto.hx HB) HLD.out)).mono ?_
         rintro e w41 ⟨rfl, hb⟩
         refine ⟨_, rfl, ?_⟩
         replace BK266 := Goto.bb BK266 hb; replace HB := Goto.hs HB hb
         (try clear hb)
         (try clear hb2)
         (try clear hk)
         (try clear hi)
         refine hK.out _ _ ⟨(blk_cell BK266.out 0).trans rfl, (blk_cell BK266.out 1).trans rfl, (blk_cell BK266.out 2).trans rfl, (blk_cell BK266.out 3).trans rfl⟩ (fun hHeld => ?_)
         clear hK K
         refine norm_ (a' := ?_) ?_ ?_
         rotate_left
         ·
          show Act.put _ (some 38) _ = _
          exact Goto.ap
         refine one_ (i := 19) (N := some 42) (Goto.bs 47 1048575) rfl rfl (one_of HT_.out (by kernel_rfl)) (by decide) (fun K hK => ?_)
         refine goes_ Tryd.func12 (by kernel_rfl) rfl #[.agg #[.int .i64 a0_0, .int .i64 a0_1, .slice A0_2 l0_2.length c0_2, .slice A0_3 l0_3.length c0_3], .int .i64 (Int.tmod (wrap64 (a1)) (l0_3.length : Int)), .int .i64 a2] (by rfl) rfl rfl (by (try simp only [List.map_toArray, List.map_cons, List.map_nil]); first | done | rfl | (simp only [List.length_drop, List.length_take]; rfl)) ?_
         with_reducible refine (tontineref15_Send.calls a0_0 a0_1 _ _ l0_2 _ _ l0_3 (Int.tmod (wrap64 (a1)) (l0_3.length : Int)) a2 t275 _ ?side1 ?side2 ?side3 ?side4 A26.out).mono ?_
         (case side1 => repeat (first | exact (Kd.C_below HR0_2.out HB.out) | (with_reducible refine Kd.C_alloc ?_ _) | (with_reducible refine Kd.C_drewN ?_ _) | (with_reducible refine Kd.C_drew ?_)))
         (case side2 => exact HC0_2.out)
         (case side3 => repeat (first | exact (Kd.C_below HR0_3.out HB.out) | (with_reducible refine Kd.C_alloc ?_ _) | (with_reducible refine Kd.C_drewN ?_ _) | (with_reducible refine Kd.C_drew ?_)))
         (case side4 => exact HC0_3.out)
         rintro e w42 ⟨rfl, hb⟩
         refine ⟨_, rfl, ?_⟩
         replace BK266 := Goto.bb BK266 hb; replace HB := Goto.hs HB hb
         (try clear hb)
         (try clear hb2)
         (try clear hk)
         (try clear hi)
         refine hK.out _ _ ⟨(blk_cell BK266.out 0).trans rfl, (blk_cell BK266.out 1).trans rfl, (blk_cell BK266.out 2).trans rfl, (blk_cell BK266.out 3).trans rfl⟩ (fun hHeld => ?_)
         clear hK K
         refine norm_ (a' := ?_) ?_ ?_
         rotate_left
         ·
          show Act.put _ (some 42) _ = _
          exact Goto.ap
         refine Goto.pu 20 43 47 2097151 ?_
         refine Goto.pu 21 44 47 4194303 ?_
         refine Goto.pu 22 45 47 8388607 ?_
         refine Goto.pu 24 47 47 25165823 ?_
         refine Goto.pu 25 48 47 58720255 ?_
         refine Goto.pu 29 52 47 595591167 ?_
         refine Goto.pu 30 53 47 1669332991 ?_
         refine take_ (i := 23) (N := some 46) (v := ?_) (a' := ?_) (Goto.bs 47 1677721599) rfl rfl (take_ofW HT_.out HW_.out (by kernel_rfl)) (fun _ _ _ h => h) (Or.inl ⟨by rfl, ?_⟩) hHeld ?_ ?_
         rotate_left
         ·
          rintro w' ⟨s0, s1, s2, s3⟩
          go_simp
          with_reducible rfl
         rotate_left
         ·
          exact Goto.ap
         refine take_ (i := 28) (N := some 51) (v := ?_) (a' := ?_) (Goto.bs 47 1946157055) rfl rfl (take_ofW HT_.out HW_.out (by kernel_rfl)) (fun _ _ _ h => h) (Or.inl ⟨by rfl, ?_⟩) hHeld ?_ ?_
         rotate_left
         ·
          rintro w' ⟨s0, s1, s2, s3⟩
          go_simp
          with_reducible rfl
         rotate_left
         ·
          exact Goto.ap
         refine one_ (i := 26) (N := some 49) (Goto.bs 47 2013265919) rfl rfl (one_of HT_.out (by kernel_rfl)) (by decide) (fun K hK => ?_)
         refine goes_ Tryd.func13 (by kernel_rfl) rfl #[.agg #[.int .i64 a0_0, .int .i64 a0_1, .slice A0_2 l0_2.length c0_2, .slice A0_3 l0_3.length c0_3], .int .i64 (Int.tmod (wrap64 (a1)) (l0_3.length : Int)), .int .i64 a2] (by rfl) rfl rfl (by (try simp only [List.map_toArray, List.map_cons, List.map_nil]); first | done | rfl | (simp only [List.length_drop, List.length_take]; rfl)) ?_
         with_reducible refine (check_Plan.calls kj5 a0_0 a0_1 _ _ l0_2 _ _ l0_3 (Int.tmod (wrap64 (a1)) (l0_3.length : Int)) a2 t276 _ ?side1 ?side2 ?side3 ?side4 A28.out).mono ?_
         (case side1 => repeat (first | exact (Kd.C_below HR0_2.out HB.out) | (with_reducible refine Kd.C_alloc ?_ _) | (with_reducible refine Kd.C_drewN ?_ _) | (with_reducible refine Kd.C_drew ?_)))
         (case side2 => exact HC0_2.out)
         (case side3 => repeat (first | exact (Kd.C_below HR0_3.out HB.out) | (with_reducible refine Kd.C_alloc ?_ _) | (with_reducible refine Kd.C_drewN ?_ _) | (with_reducible refine Kd.C_drew ?_)))
         (case side4 => exact HC0_3.out)
         rintro e w43 ⟨rfl, hb⟩
         refine ⟨_, rfl, ?_⟩
         replace BK266 := Goto.bb BK266 hb; replace HB := Goto.hs HB hb
         (try clear hb)
         (try clear hb2)
         (try clear hk)
         (try clear hi)
         (try simp only [errW_none, errW_some])
         have CA29 := fun W hl_ => ext_8.calls t276 t277 W hl_ A29.out
         try simp only [errW_none, errW_some] at CA29
         refine hK.out _ _ ⟨(blk_cell BK266.out 0).trans rfl, (blk_cell BK266.out 1).trans rfl, (blk_cell BK266.out 2).trans rfl, (blk_cell BK266.out 3).trans rfl⟩ (fun hHeld => ?_)
         clear hK K
         refine norm_ (a' := ?_) ?_ ?_
         rotate_left
         ·
          show Act.put _ (some 49) _ = _
          exact Goto.ap
         refine one_ (i := 27) (N := some 50) (Goto.bs 47 2147483647) rfl rfl (one_of HT_.out (by kernel_rfl)) (by decide) (fun K hK => ?_)
         refine goes_ Tryd.func8 (by kernel_rfl) rfl #[errW t276] (by rfl) rfl rfl (by (try simp only [List.map_toArray, List.map_cons, List.map_nil]); first | done | rfl | (simp only [List.length_drop, List.length_take]; rfl)) ?_
         with_reducible refine (CA29 _ (Goto.kc (Goto.hx HB) HLD.out)).mono ?_
         rintro e w44 ⟨rfl, hb⟩
         refine ⟨_, rfl, ?_⟩
         replace BK266 := Goto.bb BK266 hb; replace HB := Goto.hs HB hb
         (try clear hb)
         (try clear hb2)
         (try clear hk)
         (try clear hi)
         refine hK.out _ _ ⟨(blk_cell BK266.out 0).trans rfl, (blk_cell BK266.out 1).trans rfl, (blk_cell BK266.out 2).trans rfl, (blk_cell BK266.out 3).trans rfl⟩ (fun hHeld => ?_)
         clear hK K
         refine norm_ (a' := ?_) ?_ ?_
         rotate_left
         ·
          show Act.put _ (some 50) _ = _
          exact Goto.ap
         refine one_ (i := 31) (N := some 54) (Goto.bs 47 4294967295) rfl rfl (one_of HT_.out (by kernel_rfl)) (by decide) (fun K hK => ?_)
         refine goes_ Tryd.func14 (by kernel_rfl) rfl #[.agg #[.int .i64 a0_0, .int .i64 a0_1, .slice A0_2 l0_2.length c0_2, .slice A0_3 l0_3.length c0_3], .int .i64 (Int.tmod (wrap64 (a1)) (l0_3.length : Int)), .int .i64 a2] (by rfl) rfl rfl (by (try simp only [List.map_toArray, List.map_cons, List.map_nil]); first | done | rfl | (simp only [List.length_drop, List.length_take]; rfl)) ?_
         with_reducible refine (tontineref15_Plan.calls kj5 a0_0 a0_1 _ _ l0_2 _ _ l0_3 (Int.tmod (wrap64 (a1)) (l0_3.length : Int)) a2 t278 _ ?side1 ?side2 ?side3 ?side4 A30.out).mono ?_
         (case side1 => repeat (first | exact (Kd.C_below HR0_2.out HB.out) | (with_reducible refine Kd.C_alloc ?_ _) | (with_reducible refine Kd.C_drewN ?_ _) | (with_reducible refine Kd.C_drew ?_)))
         (case side2 => exact HC0_2.out)
         (case side3 => repeat (first | exact (Kd.C_below HR0_3.out HB.out) | (with_reducible refine Kd.C_alloc ?_ _) | (with_reducible refine Kd.C_drewN ?_ _) | (with_reducible refine Kd.C_drew ?_)))
         (case side4 => exact HC0_3.out)
         rintro e w45 ⟨rfl, hb⟩
         refine ⟨_, rfl, ?_⟩
         replace BK266 := Goto.bb BK266 hb; replace HB := Goto.hs HB hb
         (try clear hb)
         (try clear hb2)
         (try clear hk)
         (try clear hi)
         refine hK.out _ _ ⟨(blk_cell BK266.out 0).trans rfl, (blk_cell BK266.out 1).trans rfl, (blk_cell BK266.out 2).trans rfl, (blk_cell BK266.out 3).trans rfl⟩ (fun hHeld => ?_)
         clear hK K
         refine norm_ (a' := ?_) ?_ ?_
         rotate_left
         ·
          show Act.put _ (some 54) _ = _
          exact Goto.ap
         refine Goto.pu 32 55 47 8589934591 ?_
         refine Goto.pu 33 56 47 17179869183 ?_
         refine Goto.pu 34 57 47 34359738367 ?_
         refine Goto.pu 36 59 47 103079215103 ?_
         refine Goto.pu 37 60 47 240518168575 ?_
         refine Goto.pu 41 64 47 2439541424127 ?_
         refine Goto.pu 42 65 47 6837587935231 ?_
         refine take_ (i := 35) (N := some 58) (v := ?_) (a' := ?_) (Goto.bs 47 6871947673599) rfl rfl (take_ofW HT_.out HW_.out (by kernel_rfl)) (fun _ _ _ h => h) (Or.inl ⟨by rfl, ?_⟩) hHeld ?_ ?_
         rotate_left
         ·
          rintro w' ⟨s0, s1, s2, s3⟩
          go_simp
          with_reducible rfl
         rotate_left
         ·
          exact Goto.ap
         refine take_ (i := 40) (N := some 63) (v := ?_) (a' := ?_) (Goto.bs 47 7971459301375) rfl rfl (take_ofW HT_.out HW_.out (by kernel_rfl)) (fun _ _ _ h => h) (Or.inl ⟨by rfl, ?_⟩) hHeld ?_ ?_
         rotate_left
         ·
          rintro w' ⟨s0, s1, s2, s3⟩
          go_simp
          with_reducible rfl
         rotate_left
         ·
          exact Goto.ap
         refine one_ (i := 38) (N := some 61) (Goto.bs 47 8246337208319) rfl rfl (one_of HT_.out (by kernel_rfl)) (by decide) (fun K hK => ?_)
         refine goes_ Tryd.func15 (by kernel_rfl) rfl #[.agg #[.int .i64 a0_0, .int .i64 a0_1, .slice A0_2 l0_2.length c0_2, .slice A0_3 l0_3.length c0_3], .int .i64 (Int.tmod (wrap64 (a1)) (l0_3.length : Int)), .int .i64 a2] (by rfl) rfl rfl (by (try simp only [List.map_toArray, List.map_cons, List.map_nil]); first | done | rfl | (simp only [List.length_drop, List.length_take]; rfl)) ?_
         with_reducible refine (check_Level.calls kj5 a0_0 a0_1 _ _ l0_2 _ _ l0_3 (Int.tmod (wrap64 (a1)) (l0_3.length : Int)) a2 t279 _ ?side1 ?side2 ?side3 ?side4 A32.out).mono ?_
         (case side1 => repeat (first | exact (Kd.C_below HR0_2.out HB.out) | (with_reducible refine Kd.C_alloc ?_ _) | (with_reducible refine Kd.C_drewN ?_ _) | (with_reducible refine Kd.C_drew ?_)))
         (case side2 => exact HC0_2.out)
         (case side3 => repeat (first | exact (Kd.C_below HR0_3.out HB.out) | (with_reducible refine Kd.C_alloc ?_ _) | (with_reducible refine Kd.C_drewN ?_ _) | (with_reducible refine Kd.C_drew ?_)))
         (case side4 => exact HC0_3.out)
         rintro e w46 ⟨rfl, hb⟩
         refine ⟨_, rfl, ?_⟩
         replace BK266 := Goto.bb BK266 hb; replace HB := Goto.hs HB hb
         (try clear hb)
         (try clear hb2)
         (try clear hk)
         (try clear hi)
         (try simp only [errW_none, errW_some])
         have CA33 := fun W hl_ => ext_8.calls t279 t280 W hl_ A33.out
         try simp only [errW_none, errW_some] at CA33
         refine hK.out _ _ ⟨(blk_cell BK266.out 0).trans rfl, (blk_cell BK266.out 1).trans rfl, (blk_cell BK266.out 2).trans rfl, (blk_cell BK266.out 3).trans rfl⟩ (fun hHeld => ?_)
         clear hK K
         refine norm_ (a' := ?_) ?_ ?_
         rotate_left
         ·
          show Act.put _ (some 61) _ = _
          exact Goto.ap
         refine one_ (i := 39) (N := some 62) (Goto.bs 47 8796093022207) rfl rfl (one_of HT_.out (by kernel_rfl)) (by decide) (fun K hK => ?_)
         refine goes_ Tryd.func8 (by kernel_rfl) rfl #[errW t279] (by rfl) rfl rfl (by (try simp only [List.map_toArray, List.map_cons, List.map_nil]); first | done | rfl | (simp only [List.length_drop, List.length_take]; rfl)) ?_
         with_reducible refine (CA33 _ (Goto.kc (Goto.hx HB) HLD.out)).mono ?_
         rintro e w47 ⟨rfl, hb⟩
         refine ⟨_, rfl, ?_⟩
         replace BK266 := Goto.bb BK266 hb; replace HB := Goto.hs HB hb
         (try clear hb)
         (try clear hb2)
         (try clear hk)
         (try clear hi)
         refine hK.out _ _ ⟨(blk_cell BK266.out 0).trans rfl, (blk_cell BK266.out 1).trans rfl, (blk_cell BK266.out 2).trans rfl, (blk_cell BK266.out 3).trans rfl⟩ (fun hHeld => ?_)
         clear hK K
         refine norm_ (a' := ?_) ?_ ?_
         rotate_left
         ·
          show Act.put _ (some 62) _ = _
          exact Goto.ap
         refine one_ (i := 43) (N := some 66) (Goto.bs 47 17592186044415) rfl rfl (one_of HT_.out (by kernel_rfl)) (by decide) (fun K hK => ?_)
         refine goes_ Tryd.func16 (by kernel_rfl) rfl #[.agg #[.int .i64 a0_0, .int .i64 a0_1, .slice A0_2 l0_2.length c0_2, .slice A0_3 l0_3.length c0_3], .int .i64 (Int.tmod (wrap64 (a1)) (l0_3.length : Int)), .int .i64 a2] (by rfl) rfl rfl (by (try simp only [List.map_toArray, List.map_cons, List.map_nil]); first | done | rfl | (simp only [List.length_drop, List.length_take]; rfl)) ?_
         with_reducible refine (tontineref15_Level.calls a0_0 a0_1 _ _ l0_2 _ _ l0_3 (Int.tmod (wrap64 (a1)) (l0_3.length : Int)) a2 t281 _ ?side1 ?side2 ?side3 ?side4 A34.out).mono ?_
         (case side1 => repeat (first | exact (Kd.C_below HR0_2.out HB.out) | (with_reducible refine Kd.C_alloc ?_ _) | (with_reducible refine Kd.C_drewN ?_ _) | (with_reducible refine Kd.C_drew ?_)))
         (case side2 => exact HC0_2.out)
         (case side3 => repeat (first | exact (Kd.C_below HR0_3.out HB.out) | (with_reducible refine Kd.C_alloc ?_ _) | (with_reducible refine Kd.C_drewN ?_ _) | (with_reducible refine Kd.C_drew ?_)))
         (case side4 => exact HC0_3.out)
         rintro e w48 ⟨rfl, hb⟩
         refine ⟨_, rfl, ?_⟩
         replace BK266 := Goto.bb BK266 hb; replace HB := Goto.hs HB hb
         (try clear hb)
         (try clear hb2)
         (try clear hk)
         (try clear hi)
         refine hK.out _ _ ⟨(blk_cell BK266.out 0).trans rfl, (blk_cell BK266.out 1).trans rfl, (blk_cell BK266.out 2).trans rfl, (blk_cell BK266.out 3).trans rfl⟩ (fun hHeld => ?_)
         clear hK K
         refine norm_ (a' := ?_) ?_ ?_
         rotate_left
         ·
          show Act.put _ (some 66) _ = _
          exact Goto.ap
         refine Goto.pu 44 67 47 35184372088831 ?_
         refine Goto.pu 45 68 47 70368744177663 ?_
         refine Goto.pu 46 6 47 140737488355327 ?_
         refine done_ (done_of HT_.out (by kernel_rfl)) ?_
         try go_wp2
         go_ret
         exact ⟨Goto.er, by repeat (first | (with_reducible first | exact HB.out | apply below_alloc | apply pw_below_drewN | apply below_drew1 | refine below_set ?_ GE266.out) | exact HB.out)⟩
        ·
         rw [if_neg c31] at H
         have c31b0 : (t277 == t278) = false := beq_eq_false_iff_ne.mpr c31
         have c31b1 : (t277 != t278) = true := bne_iff_ne.mpr c31
         exact absurd ((Option.some.inj H).trans HRT.out) (by decide)
       ·
        rw [if_neg c27] at H
        have c27b0 : (t274 == t275) = false := beq_eq_false_iff_ne.mpr c27
        have c27b1 : (t274 != t275) = true := bne_iff_ne.mpr c27
        exact absurd ((Option.some.inj H).trans HRT.out) (by decide)
      ·
       rw [if_neg c23] at H
       have c23b0 : (t271 == t272) = false := beq_eq_false_iff_ne.mpr c23
       have c23b1 : (t271 != t272) = true := bne_iff_ne.mpr c23
       exact absurd ((Option.some.inj H).trans HRT.out) (by decide)
 ·
  replace c5 := Bool.eq_false_iff.mpr c5
  subst c5
  rw [if_neg (show ¬ (false = true) by decide)] at H
  exact absurd ((Option.some.inj H).trans HRT.out) (by decide)

end Go.Proofs.YtbhfkhcedjgpdaaDoor.P
