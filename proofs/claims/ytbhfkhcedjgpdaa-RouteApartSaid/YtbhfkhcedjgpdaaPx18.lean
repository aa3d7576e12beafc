/- Printed by a program of this workplace (a turned copy of the kit's optional print), out of the translation; not trusted: Lean checks it. -/
import Derived.Test.YtbhfkhcedjgpdaaPx0
import Derived.Test.YtbhfkhcedjgpdaaPx2
import Derived.Test.YtbhfkhcedjgpdaaPx3
import Derived.Test.YtbhfkhcedjgpdaaPx4
import Derived.Test.YtbhfkhcedjgpdaaPx5
import Derived.Test.YtbhfkhcedjgpdaaPx6
import Derived.Test.YtbhfkhcedjgpdaaPx7
import Derived.Test.YtbhfkhcedjgpdaaPx13
namespace Go.Proofs.Ytbhfkhcedjgpdaa.P
open Go.RowKit Go.Proofs.YtbhfkhcedjgpdaaW.PrintWords Go.Proofs.YtbhfkhcedjgpdaaW.PrintLast Go.Proofs.YtbhfkhcedjgpdaaW.PrintMore
attribute [local go_sem] max2_int min2_int max_two min_two max_three min_three max_four min_four   -- for this text's walks alone
set_option linter.unusedVariables false
set_option linter.unusedSimpArgs false

/-! ### tontinelaw16_RouteApart: function 6 -/
mutual
def tontinelaw16_RouteApart.j0 : Nat → List Int → Int → Bool → Int → Int → List (List Int) → List (S44) → Option (Bool)
  | 0, _, _, _, _, _, _, _ => none
  | k + 1, x1, x2, x26, x401000, x401001, x401002, x401003 => if x26 = true then (some true) else ((route_New.f x401000 x401001 x401002 x401003).bind fun bt405 => ((route_New.f x401000 x401001 x401002 x401003).bind fun bt411 => (if (x401003.length : Int) = 0 then (none) else (tontinelaw16_RouteApart.l0 k x1 (Int.tmod (wrap64 (x2)) (x401003.length : Int)) 0 x401000 x401001 x401002 x401003 bt405.1 bt405.2.1 x401002 x401003 bt405.2.2 bt411.1 bt411.2.1 x401002 x401003 bt411.2.2))))
def tontinelaw16_RouteApart.l0 : Nat → List Int → Int → Int → Int → Int → List (List Int) → List (S44) → Int → Int → List (List Int) → List (S44) → List Int → Int → Int → List (List Int) → List (S44) → List Int → Option (Bool)
  | 0, _, _, _, _, _, _, _, _, _, _, _, _, _, _, _, _, _ => none
  | k + 1, x1, x9, x10, x401000, x401001, x401002, x401003, x405000, x405001, x405002, x405003, x405004, x411000, x411001, x411002, x411003, x411004 => if x10 < (x1.length : Int) then (if 0 ≤ x10 then (if (x401003.length : Int) = 0 then (none) else ((route_Routes_Offer.f x405000 x405001 x405002 x405003 x405004 (Int.tmod (wrap64 (rd x1 x10)) (x401003.length : Int))).bind fun bt417 => (if (Int.tmod (wrap64 (rd x1 x10)) (x401003.length : Int)) = x9 then ((route_Routes_Offer.f x411000 x411001 x411002 x411003 x411004 x9).bind fun bt423 => ((tontineref1_SameInts.f k bt417.1 bt423.1).bind fun t429 => (if t429 = true then (tontinelaw16_RouteApart.l0 k x1 x9 (wrap64 (x10 + 1)) x401000 x401001 x401002 x401003 x405000 x405001 x405002 x405003 bt417.2 x411000 x411001 x411002 x411003 bt423.2) else (some false)))) else (tontinelaw16_RouteApart.l0 k x1 x9 (wrap64 (x10 + 1)) x401000 x401001 x401002 x401003 x405000 x405001 x405002 x405003 bt417.2 x411000 x411001 x411002 x411003 x411004)))) else (none)) else ((route_Routes_Turn.f x405000 x405001 x405002 x405003 x405004 x9).bind fun bt430 => ((route_Routes_Turn.f x411000 x411001 x411002 x411003 x411004 x9).bind fun bt434 => (if bt430.1 = bt434.1 then ((route_Routes_Now.f x405000 x405001 x405002 x405003 bt430.2 x9).bind fun bt438 => ((route_Routes_Now.f x411000 x411001 x411002 x411003 bt434.2 x9).bind fun bt444 => ((tontineref1_SameInts.f k bt438.1 bt444.1).bind fun t450 => (some t450)))) else (some false))))
end
def tontinelaw16_RouteApart.f (k : Nat) (a0_0 : Int) (a0_1 : Int) (l0_2 : List (List Int)) (l0_3 : List (S44)) (l1 : List Int) (a2 : Int) : Option (Bool) := (tontinelaw16_known.f k).bind fun t401 => (if t401 = true then ((tontinehelp_WideConf.f k a0_0 a0_1 l0_2 l0_3).bind fun t402 => (if t402 = true then (tontinelaw16_RouteApart.j0 k l1 a2 true a0_0 a0_1 l0_2 l0_3) else ((tontineref1_IsConf.f k a0_0 a0_1 l0_2 l0_3).bind fun t403 => (if t403 = 0 then (tontinelaw16_RouteApart.j0 k l1 a2 (decide ((l1.length : Int) > 60)) a0_0 a0_1 l0_2 l0_3) else (tontinelaw16_RouteApart.j0 k l1 a2 true a0_0 a0_1 l0_2 l0_3))))) else (some false))
theorem tontinelaw16_RouteApart.mono_l : ∀ k, (∀ y0 y1 y2 y3 y4 y5 y6, LeO (tontinelaw16_RouteApart.j0 k y0 y1 y2 y3 y4 y5 y6) (tontinelaw16_RouteApart.j0 (k + 1) y0 y1 y2 y3 y4 y5 y6)) ∧ (∀ y0 y1 y2 y3 y4 y5 y6 y7 y8 y9 y10 y11 y12 y13 y14 y15 y16, LeO (tontinelaw16_RouteApart.l0 k y0 y1 y2 y3 y4 y5 y6 y7 y8 y9 y10 y11 y12 y13 y14 y15 y16) (tontinelaw16_RouteApart.l0 (k + 1) y0 y1 y2 y3 y4 y5 y6 y7 y8 y9 y10 y11 y12 y13 y14 y15 y16))
  | 0 => ⟨fun _ _ _ _ _ _ _ r h => by simp [tontinelaw16_RouteApart.j0] at h, fun _ _ _ _ _ _ _ _ _ _ _ _ _ _ _ _ _ r h => by simp [tontinelaw16_RouteApart.l0] at h⟩
  | k + 1 => by
    obtain ⟨ih0, ih1⟩ := tontinelaw16_RouteApart.mono_l k
    refine ⟨?_, ?_⟩
    · intro y0 y1 y2 y3 y4 y5 y6
      unfold tontinelaw16_RouteApart.j0
      repeat' first
      | (with_reducible exact ih0 _ _ _ _ _ _ _)
      | (with_reducible exact ih1 _ _ _ _ _ _ _ _ _ _ _ _ _ _ _ _ _)
      | (with_reducible exact tontinehelp_WideConf.mono _ _ _ _ _)
      | (with_reducible exact tontinelaw16_known.mono _)
      | (with_reducible exact tontineref1_IsConf.mono _ _ _ _ _)
      | (with_reducible exact tontineref1_SameInts.mono _ _ _)
      | (with_reducible exact LeO.refl _)
      | (with_reducible exact LeO.none _)
      | (with_reducible refine LeO.ite ?_ ?_)
      | (with_reducible refine LeO.bind ?_ (fun _ => ?_))
      | exact ih0 _ _ _ _ _ _ _
      | exact ih1 _ _ _ _ _ _ _ _ _ _ _ _ _ _ _ _ _
      | exact tontinehelp_WideConf.mono _ _ _ _ _
      | exact tontinelaw16_known.mono _
      | exact tontineref1_IsConf.mono _ _ _ _ _
      | exact tontineref1_SameInts.mono _ _ _
      | exact LeO.none _
      | refine LeO.ite ?_ ?_
      | refine LeO.bind ?_ (fun _ => ?_)
    · intro y0 y1 y2 y3 y4 y5 y6 y7 y8 y9 y10 y11 y12 y13 y14 y15 y16
      unfold tontinelaw16_RouteApart.l0
      repeat' first
      | (with_reducible exact ih0 _ _ _ _ _ _ _)
      | (with_reducible exact ih1 _ _ _ _ _ _ _ _ _ _ _ _ _ _ _ _ _)
      | (with_reducible exact tontinehelp_WideConf.mono _ _ _ _ _)
      | (with_reducible exact tontinelaw16_known.mono _)
      | (with_reducible exact tontineref1_IsConf.mono _ _ _ _ _)
      | (with_reducible exact tontineref1_SameInts.mono _ _ _)
      | (with_reducible exact LeO.refl _)
      | (with_reducible exact LeO.none _)
      | (with_reducible refine LeO.ite ?_ ?_)
      | (with_reducible refine LeO.bind ?_ (fun _ => ?_))
      | exact ih0 _ _ _ _ _ _ _
      | exact ih1 _ _ _ _ _ _ _ _ _ _ _ _ _ _ _ _ _
      | exact tontinehelp_WideConf.mono _ _ _ _ _
      | exact tontinelaw16_known.mono _
      | exact tontineref1_IsConf.mono _ _ _ _ _
      | exact tontineref1_SameInts.mono _ _ _
      | exact LeO.none _
      | refine LeO.ite ?_ ?_
      | refine LeO.bind ?_ (fun _ => ?_)
theorem tontinelaw16_RouteApart.mono : ∀ a0 a1 a2 a3 a4 a5 k, LeO (tontinelaw16_RouteApart.f k a0 a1 a2 a3 a4 a5) (tontinelaw16_RouteApart.f (k + 1) a0 a1 a2 a3 a4 a5) := by
 intro a0 a1 a2 a3 a4 a5 k
 obtain ⟨ih0, ih1⟩ := tontinelaw16_RouteApart.mono_l k
 unfold tontinelaw16_RouteApart.f
 repeat' first
   | (with_reducible exact ih0 _ _ _ _ _ _ _)
   | (with_reducible exact ih1 _ _ _ _ _ _ _ _ _ _ _ _ _ _ _ _ _)
   | (with_reducible exact tontinehelp_WideConf.mono _ _ _ _ _)
   | (with_reducible exact tontinelaw16_known.mono _)
   | (with_reducible exact tontineref1_IsConf.mono _ _ _ _ _)
   | (with_reducible exact tontineref1_SameInts.mono _ _ _)
   | (with_reducible exact LeO.refl _)
   | (with_reducible exact LeO.none _)
   | (with_reducible refine LeO.ite ?_ ?_)
   | (with_reducible refine LeO.bind ?_ (fun _ => ?_))
   | exact ih0 _ _ _ _ _ _ _
   | exact ih1 _ _ _ _ _ _ _ _ _ _ _ _ _ _ _ _ _
   | exact tontinehelp_WideConf.mono _ _ _ _ _
   | exact tontinelaw16_known.mono _
   | exact tontineref1_IsConf.mono _ _ _ _ _
   | exact tontineref1_SameInts.mono _ _ _
   | exact LeO.none _
   | refine LeO.ite ?_ ?_
   | refine LeO.bind ?_ (fun _ => ?_)
def tontinelaw16_RouteApart.T10 : Bool × List (List Nat × List Nat) := (true, [([], []), ([], []), ([0, 1], [0, 1]), ([2], [2]), ([3], [3]), ([], []), ([5], [5]), ([6], [6]), ([4, 7], [4, 7]), ([8, 0, 1, 2, 3, 4, 5, 6, 7, 8], [8])])
def tontinelaw16_RouteApart.B10 : List Nat := [0, 0, 3, 7, 15, 0, 32, 96, 255, 511]
theorem tontinelaw16_RouteApart.tab10 : rtab .any (opsOf Try.f6 10) = tontinelaw16_RouteApart.T10 := by kernel_rfl
theorem tontinelaw16_RouteApart.bits10 : waitsOk tontinelaw16_RouteApart.T10.2 tontinelaw16_RouteApart.B10 = true := by kernel_rfl
set_option maxHeartbeats 8000000 in
set_option maxRecDepth 100000 in
theorem tontinelaw16_RouteApart.calls (k : Nat) (a0_0 : Int) (a0_1 : Int) (A0_2 : Option Addr) (c0_2 : Nat) (l0_2 : List (List Int)) (A0_3 : Option Addr) (c0_3 : Nat) (l0_3 : List (S44)) (A1 : Option Addr) (c1 : Nat) (l1 : List Int) (a2 : Int) (r : Bool) (hrt : r = true) (w : World) (hr0_2 : Kd.C (Kd.slice 3 (Kd.int .i64)) w A0_2 l0_2.length l0_2) (hc0_2 : l0_2.length ≤ c0_2) (hr0_3 : Kd.C k44 w A0_3 l0_3.length l0_3) (hc0_3 : l0_3.length ≤ c0_3) (hr1 : Kd.C (Kd.int .u8) w A1 l1.length l1) (hc1 : l1.length ≤ c1) (h : tontinelaw16_RouteApart.f k a0_0 a0_1 l0_2 l0_3 l1 a2 = some r) :
    Calls Try.prog 6 #[.agg #[.int .i64 a0_0, .int .i64 a0_1, .slice A0_2 l0_2.length c0_2, .slice A0_3 l0_3.length c0_3], .slice A1 l1.length c1, .int .u8 a2] w fun e w' => e = .returned (.bool r) ∧ Below w.heap.size w w' := by
 have hu25 := Try.underlying25
 have HR0_2 := Goto.m0 hr0_2
 have HC0_2 := Goto.m0 hc0_2
 clear hr0_2 hc0_2
 have HR0_3 := Goto.m0 hr0_3
 have HC0_3 := Goto.m0 hc0_3
 clear hr0_3 hc0_3
 have HR1 := Goto.m0 hr1
 have HC1 := Goto.m0 hc1
 clear hr1 hc1
 have HB := Goto.m0 (Below.refl w.heap.size w)
 have HRT := Goto.m0 hrt
 clear hrt
 have H : ((tontinelaw16_known.f k).bind fun t401 => (if t401 = true then ((tontinehelp_WideConf.f k a0_0 a0_1 l0_2 l0_3).bind fun t402 => (if t402 = true then (tontinelaw16_RouteApart.j0 k l1 a2 true a0_0 a0_1 l0_2 l0_3) else ((tontineref1_IsConf.f k a0_0 a0_1 l0_2 l0_3).bind fun t403 => (if t403 = 0 then (tontinelaw16_RouteApart.j0 k l1 a2 (decide ((l1.length : Int) > 60)) a0_0 a0_1 l0_2 l0_3) else (tontinelaw16_RouteApart.j0 k l1 a2 true a0_0 a0_1 l0_2 l0_3))))) else (some false))) = some r := h
 clear h
 replace H := Option.bind_eq_some_iff.mp H
 obtain ⟨t401, A40, H⟩ := H
 have A4 := Goto.m0 A40
 clear A40
 by_cases c5 : t401 = true
 ·
  subst c5
  rw [if_pos rfl] at H
  have HC6 := Goto.m0 H
  clear H
  go_enter Try.func6, Try.ntmps6
  go_upto_region 3 with (first | ((with_reducible refine gate_dst (N := 3) rfl ?_); (try (refine gate_guard (by rfl) ?_; dsimp only)); refine box_event ?hg (N := 3) ?hd (cs := #[.int .i64 a0_0, .int .i64 a0_1, .slice A0_2 l0_2.length c0_2, .slice A0_3 l0_3.length c0_3]) (t := 25) ?hr ?_; (case hd => rfl); (case hg => rfl); (case hr => first | (go_simp; done) | (go_simp; rfl)); intro gb400 hg w7 hbox hb; have BK400 := Goto.m0 (hbox); have GW400 := Goto.gs HB hg; have GE400 := Goto.gs HB hg; replace HB := Goto.hs HB hb; clear hb hbox hg) | ((with_reducible refine gate_callee (f := 12) rfl ?_); refine goesL_ (some 13) rfl rfl Try.func12 (by kernel_rfl) rfl #[] rfl (by (try simp only [List.map_toArray, List.map_cons, List.map_nil]); first | done | rfl | (simp only [List.length_drop, List.length_take]; rfl)) ?_; (with_reducible refine (tontinelaw16_known.calls k  true (by first | rfl | assumption | (simp only [Bool.not_eq_true, Bool.not_eq_false] at *; assumption)) _ A4.out).mono ?_); rintro e w8 ⟨rfl, hb⟩; refine ⟨_, rfl, ?_⟩; replace BK400 := Goto.bb BK400 hb; replace HB := Goto.hs HB hb; (try clear hb); (try clear hb2); (try clear hk); (try clear hi)))
  (try simp only [Act.put, List.setIfInBounds_toArray, List.set_cons_zero, List.set_cons_succ])
  go_cut [26] (fun v26 wc => ∃ (kq : Nat) (x26_5 : Bool), v26 = .bool x26_5 ∧ Aside0 (tontinelaw16_RouteApart.j0 kq l1 a2 x26_5 a0_0 a0_1 l0_2 l0_3 = some r) ∧ Aside0 (kq ≤ k) ∧ Aside0 (wc.heap[gb400]? = some (.cells #[.int .i64 a0_0, .int .i64 a0_1, (.slice A0_2 l0_2.length c0_2), (.slice A0_3 l0_3.length c0_3)] 25 (0, 0))) ∧ Aside0 (Below w.heap.size w wc))
  case first =>
   have H := HC6.out; clear HC6
   replace H := Option.bind_eq_some_iff.mp H
   obtain ⟨t402, A90, H⟩ := H
   have A9 := Goto.m0 A90
   clear A90
   by_cases c10 : t402 = true
   ·
    subst c10
    rw [if_pos rfl] at H
    have H' := Goto.m0 H
    clear H; have hcz11_0 : w8.cell? ⟨gb400, 0, none⟩ = some (.int .i64 a0_0) := (blk_cell BK400.out 0).trans rfl; have hcz11_1 : w8.cell? ⟨gb400, 1, none⟩ = some (.int .i64 a0_1) := (blk_cell BK400.out 1).trans rfl; have hcz11_2 : w8.cell? ⟨gb400, 2, none⟩ = some (.slice A0_2 l0_2.length c0_2) := (blk_cell BK400.out 2).trans rfl; have hcz11_3 : w8.cell? ⟨gb400, 3, none⟩ = some (.slice A0_3 l0_3.length c0_3) := (blk_cell BK400.out 3).trans rfl; have hfz11_0 := blk_frozen BK400.out 0; have hfz11_1 := blk_frozen BK400.out 1; have hfz11_2 := blk_frozen BK400.out 2; have hfz11_3 := blk_frozen BK400.out 3
    go_wp2_with (first | ((with_reducible refine gate_callee (f := 13) rfl ?_); refine goesL_ (some 16) rfl rfl Try.func13 (by kernel_rfl) rfl #[.agg #[.int .i64 a0_0, .int .i64 a0_1, .slice A0_2 l0_2.length c0_2, .slice A0_3 l0_3.length c0_3]] rfl (by (try simp only [List.map_toArray, List.map_cons, List.map_nil]); first | done | rfl | (simp only [List.length_drop, List.length_take]; rfl)) ?_; (with_reducible refine (tontinehelp_WideConf.calls k a0_0 a0_1 _ _ l0_2 _ _ l0_3 true _ ?side1 ?side2 ?side3 ?side4 A9.out).mono ?_); (case side1 => repeat (first | exact (Kd.C_below HR0_2.out HB.out) | (with_reducible refine Kd.C_alloc ?_ _) | (with_reducible refine Kd.C_drewN ?_ _) | (with_reducible refine Kd.C_drew ?_))); (case side2 => exact HC0_2.out); (case side3 => repeat (first | exact (Kd.C_below HR0_3.out HB.out) | (with_reducible refine Kd.C_alloc ?_ _) | (with_reducible refine Kd.C_drewN ?_ _) | (with_reducible refine Kd.C_drew ?_))); (case side4 => exact HC0_3.out); rintro e w12 ⟨rfl, hb⟩; refine ⟨_, rfl, ?_⟩; replace BK400 := Goto.bb BK400 hb; replace HB := Goto.hs HB hb; (try clear hb); (try clear hb2); (try clear hk); (try clear hi)))
    go_meet
    case rel => exact ⟨_, (true), (by first | rfl | (simp; done) | (simp [*]; done)), H', ⟨by first | omega | exact Nat.le_refl _⟩, ⟨Goto.bx BK400⟩, ⟨Goto.hx HB⟩⟩
   ·
    replace c10 := Bool.eq_false_iff.mpr c10
    subst c10
    rw [if_neg (show ¬ (false = true) by decide)] at H
    replace H := Option.bind_eq_some_iff.mp H
    obtain ⟨t403, A130, H⟩ := H
    have A13 := Goto.m0 A130
    clear A130
    by_cases c14 : t403 = 0
    ·
     rw [if_pos c14] at H
     have c14b0 : (t403 == 0) = true := beq_iff_eq.mpr c14
     have c14b1 : (t403 != 0) = false := bne_eq_false_iff_eq.mpr c14
     clear c14
     (first | rw [c14b0] | (simp only [i64_w, i32_w]; rw [c14b0]) | skip)
     have H' := Goto.m0 H
     clear H; have hcz15_0 : w8.cell? ⟨gb400, 0, none⟩ = some (.int .i64 a0_0) := (blk_cell BK400.out 0).trans rfl; have hcz15_1 : w8.cell? ⟨gb400, 1, none⟩ = some (.int .i64 a0_1) := (blk_cell BK400.out 1).trans rfl; have hcz15_2 : w8.cell? ⟨gb400, 2, none⟩ = some (.slice A0_2 l0_2.length c0_2) := (blk_cell BK400.out 2).trans rfl; have hcz15_3 : w8.cell? ⟨gb400, 3, none⟩ = some (.slice A0_3 l0_3.length c0_3) := (blk_cell BK400.out 3).trans rfl; have hfz15_0 := blk_frozen BK400.out 0; have hfz15_1 := blk_frozen BK400.out 1; have hfz15_2 := blk_frozen BK400.out 2; have hfz15_3 := blk_frozen BK400.out 3
     go_wp2_with (first | ((with_reducible refine gate_callee (f := 13) rfl ?_); refine goesL_ (some 16) rfl rfl Try.func13 (by kernel_rfl) rfl #[.agg #[.int .i64 a0_0, .int .i64 a0_1, .slice A0_2 l0_2.length c0_2, .slice A0_3 l0_3.length c0_3]] rfl (by (try simp only [List.map_toArray, List.map_cons, List.map_nil]); first | done | rfl | (simp only [List.length_drop, List.length_take]; rfl)) ?_; (with_reducible refine (tontinehelp_WideConf.calls k a0_0 a0_1 _ _ l0_2 _ _ l0_3 false _ ?side1 ?side2 ?side3 ?side4 A9.out).mono ?_); (case side1 => repeat (first | exact (Kd.C_below HR0_2.out HB.out) | (with_reducible refine Kd.C_alloc ?_ _) | (with_reducible refine Kd.C_drewN ?_ _) | (with_reducible refine Kd.C_drew ?_))); (case side2 => exact HC0_2.out); (case side3 => repeat (first | exact (Kd.C_below HR0_3.out HB.out) | (with_reducible refine Kd.C_alloc ?_ _) | (with_reducible refine Kd.C_drewN ?_ _) | (with_reducible refine Kd.C_drew ?_))); (case side4 => exact HC0_3.out); rintro e w16 ⟨rfl, hb⟩; refine ⟨_, rfl, ?_⟩; replace BK400 := Goto.bb BK400 hb; replace HB := Goto.hs HB hb; (try clear hb); (try clear hb2); (try clear hk); (try clear hi); have hcz17_0 : w16.cell? ⟨gb400, 0, none⟩ = some (.int .i64 a0_0) := (blk_cell BK400.out 0).trans rfl; have hcz17_1 : w16.cell? ⟨gb400, 1, none⟩ = some (.int .i64 a0_1) := (blk_cell BK400.out 1).trans rfl; have hcz17_2 : w16.cell? ⟨gb400, 2, none⟩ = some (.slice A0_2 l0_2.length c0_2) := (blk_cell BK400.out 2).trans rfl; have hcz17_3 : w16.cell? ⟨gb400, 3, none⟩ = some (.slice A0_3 l0_3.length c0_3) := (blk_cell BK400.out 3).trans rfl; have hfz17_0 := blk_frozen BK400.out 0; have hfz17_1 := blk_frozen BK400.out 1; have hfz17_2 := blk_frozen BK400.out 2; have hfz17_3 := blk_frozen BK400.out 3) | (go_at_call 14; (with_reducible refine (tontineref1_IsConf.calls k a0_0 a0_1 _ _ l0_2 _ _ l0_3 t403 _ ?side1 ?side2 ?side3 ?side4 A13.out).mono ?_); (case side1 => repeat (first | exact (Kd.C_below HR0_2.out HB.out) | (with_reducible refine Kd.C_alloc ?_ _) | (with_reducible refine Kd.C_drewN ?_ _) | (with_reducible refine Kd.C_drew ?_))); (case side2 => exact HC0_2.out); (case side3 => repeat (first | exact (Kd.C_below HR0_3.out HB.out) | (with_reducible refine Kd.C_alloc ?_ _) | (with_reducible refine Kd.C_drewN ?_ _) | (with_reducible refine Kd.C_drew ?_))); (case side4 => exact HC0_3.out); rintro e w18 ⟨rfl, hb⟩; replace BK400 := Goto.bb BK400 hb; replace HB := Goto.hs HB hb; (try clear hb); (try clear hb2); (try clear hk); (try clear hi)))
     go_meet
     case rel => exact ⟨_, (decide ((l1.length : Int) > 60)), (by first | rfl | (simp; done) | (simp [*]; done)), H', ⟨by first | omega | exact Nat.le_refl _⟩, ⟨Goto.bx BK400⟩, ⟨Goto.hx HB⟩⟩
    ·
     rw [if_neg c14] at H
     have c14b0 : (t403 == 0) = false := beq_eq_false_iff_ne.mpr c14
     have c14b1 : (t403 != 0) = true := bne_iff_ne.mpr c14
     (first | rw [c14b0] | (simp only [i64_w, i32_w]; rw [c14b0]) | skip)
     have H' := Goto.m0 H
     clear H; have hcz19_0 : w8.cell? ⟨gb400, 0, none⟩ = some (.int .i64 a0_0) := (blk_cell BK400.out 0).trans rfl; have hcz19_1 : w8.cell? ⟨gb400, 1, none⟩ = some (.int .i64 a0_1) := (blk_cell BK400.out 1).trans rfl; have hcz19_2 : w8.cell? ⟨gb400, 2, none⟩ = some (.slice A0_2 l0_2.length c0_2) := (blk_cell BK400.out 2).trans rfl; have hcz19_3 : w8.cell? ⟨gb400, 3, none⟩ = some (.slice A0_3 l0_3.length c0_3) := (blk_cell BK400.out 3).trans rfl; have hfz19_0 := blk_frozen BK400.out 0; have hfz19_1 := blk_frozen BK400.out 1; have hfz19_2 := blk_frozen BK400.out 2; have hfz19_3 := blk_frozen BK400.out 3
     go_wp2_with (first | ((with_reducible refine gate_callee (f := 13) rfl ?_); refine goesL_ (some 16) rfl rfl Try.func13 (by kernel_rfl) rfl #[.agg #[.int .i64 a0_0, .int .i64 a0_1, .slice A0_2 l0_2.length c0_2, .slice A0_3 l0_3.length c0_3]] rfl (by (try simp only [List.map_toArray, List.map_cons, List.map_nil]); first | done | rfl | (simp only [List.length_drop, List.length_take]; rfl)) ?_; (with_reducible refine (tontinehelp_WideConf.calls k a0_0 a0_1 _ _ l0_2 _ _ l0_3 false _ ?side1 ?side2 ?side3 ?side4 A9.out).mono ?_); (case side1 => repeat (first | exact (Kd.C_below HR0_2.out HB.out) | (with_reducible refine Kd.C_alloc ?_ _) | (with_reducible refine Kd.C_drewN ?_ _) | (with_reducible refine Kd.C_drew ?_))); (case side2 => exact HC0_2.out); (case side3 => repeat (first | exact (Kd.C_below HR0_3.out HB.out) | (with_reducible refine Kd.C_alloc ?_ _) | (with_reducible refine Kd.C_drewN ?_ _) | (with_reducible refine Kd.C_drew ?_))); (case side4 => exact HC0_3.out); rintro e w20 ⟨rfl, hb⟩; refine ⟨_, rfl, ?_⟩; replace BK400 := Goto.bb BK400 hb; replace HB := Goto.hs HB hb; (try clear hb); (try clear hb2); (try clear hk); (try clear hi); have hcz21_0 : w20.cell? ⟨gb400, 0, none⟩ = some (.int .i64 a0_0) := (blk_cell BK400.out 0).trans rfl; have hcz21_1 : w20.cell? ⟨gb400, 1, none⟩ = some (.int .i64 a0_1) := (blk_cell BK400.out 1).trans rfl; have hcz21_2 : w20.cell? ⟨gb400, 2, none⟩ = some (.slice A0_2 l0_2.length c0_2) := (blk_cell BK400.out 2).trans rfl; have hcz21_3 : w20.cell? ⟨gb400, 3, none⟩ = some (.slice A0_3 l0_3.length c0_3) := (blk_cell BK400.out 3).trans rfl; have hfz21_0 := blk_frozen BK400.out 0; have hfz21_1 := blk_frozen BK400.out 1; have hfz21_2 := blk_frozen BK400.out 2; have hfz21_3 := blk_frozen BK400.out 3) | (go_at_call 14; (with_reducible refine (tontineref1_IsConf.calls k a0_0 a0_1 _ _ l0_2 _ _ l0_3 t403 _ ?side1 ?side2 ?side3 ?side4 A13.out).mono ?_); (case side1 => repeat (first | exact (Kd.C_below HR0_2.out HB.out) | (with_reducible refine Kd.C_alloc ?_ _) | (with_reducible refine Kd.C_drewN ?_ _) | (with_reducible refine Kd.C_drew ?_))); (case side2 => exact HC0_2.out); (case side3 => repeat (first | exact (Kd.C_below HR0_3.out HB.out) | (with_reducible refine Kd.C_alloc ?_ _) | (with_reducible refine Kd.C_drewN ?_ _) | (with_reducible refine Kd.C_drew ?_))); (case side4 => exact HC0_3.out); rintro e w22 ⟨rfl, hb⟩; replace BK400 := Goto.bb BK400 hb; replace HB := Goto.hs HB hb; (try clear hb); (try clear hb2); (try clear hk); (try clear hi)))
     go_meet
     case rel => exact ⟨_, (true), (by first | rfl | (simp; done) | (simp [*]; done)), H', ⟨by first | omega | exact Nat.le_refl _⟩, ⟨Goto.bx BK400⟩, ⟨Goto.hx HB⟩⟩
  case rest =>
   clear HC6; try clear c1; try clear p2; try clear c5; try clear c6; try clear c10; try clear c12; try clear c13; try clear c14; try clear c14b0; try clear c14b1; try clear hcz11_0; try clear hcz11_1; try clear hcz11_2; try clear hcz11_3; try clear hcz15_0; try clear hcz15_1; try clear hcz15_2; try clear hcz15_3; try clear hcz17_0; try clear hcz17_1; try clear hcz17_2; try clear hcz17_3; try clear hcz19_0; try clear hcz19_1; try clear hcz19_2; try clear hcz19_3; try clear hcz21_0; try clear hcz21_1; try clear hcz21_2; try clear hcz21_3; try clear hfz11_0; try clear hfz11_1; try clear hfz11_2; try clear hfz11_3; try clear hfz15_0; try clear hfz15_1; try clear hfz15_2; try clear hfz15_3; try clear hfz17_0; try clear hfz17_1; try clear hfz17_2; try clear hfz17_3; try clear hfz19_0; try clear hfz19_1; try clear hfz19_2; try clear hfz19_3; try clear hfz21_0; try clear hfz21_1; try clear hfz21_2; try clear hfz21_3
   obtain ⟨kq, x26_5, rfl, HA, HJ5, BK400, HB⟩ := hcut
   cases kq with
   | zero => exact absurd HA.out (by simp [tontinelaw16_RouteApart.j0])
   | succ kj5 =>
    have H := HA.out; clear HA
    simp only [tontinelaw16_RouteApart.j0] at H
    by_cases c23 : x26_5 = true
    ·
     subst c23
     rw [if_pos rfl] at H
     obtain rfl := Option.some.inj H
     go_wp2
     go_ret
     exact ⟨by first | rfl | (simp [errW_none, errW_some] <;> rfl) | (simp [*, errW_none, errW_some] <;> rfl), by repeat (first | (with_reducible first | exact HB.out | apply below_alloc | apply pw_below_drewN | apply below_drew1 | refine below_set ?_ GE400.out) | exact HB.out)⟩
    ·
     replace c23 := Bool.eq_false_iff.mpr c23
     subst c23
     rw [if_neg (show ¬ (false = true) by decide)] at H
     replace H := Option.bind_eq_some_iff.mp H
     obtain ⟨⟨t405, t406, t407⟩, A240, H⟩ := H
     replace H : ((route_New.f a0_0 a0_1 l0_2 l0_3).bind fun bt411 => (if (l0_3.length : Int) = 0 then (none) else (tontinelaw16_RouteApart.l0 kj5 l1 (Int.tmod (wrap64 (a2)) (l0_3.length : Int)) 0 a0_0 a0_1 l0_2 l0_3 t405 t406 l0_2 l0_3 t407 bt411.1 bt411.2.1 l0_2 l0_3 bt411.2.2))) = some r := H
     have A24 := Goto.m0 A240
     clear A240
     replace H := Option.bind_eq_some_iff.mp H
     obtain ⟨⟨t411, t412, t413⟩, A250, H⟩ := H
     replace H : (if (l0_3.length : Int) = 0 then (none) else (tontinelaw16_RouteApart.l0 kj5 l1 (Int.tmod (wrap64 (a2)) (l0_3.length : Int)) 0 a0_0 a0_1 l0_2 l0_3 t405 t406 l0_2 l0_3 t407 t411 t412 l0_2 l0_3 t413)) = some r := H
     have A25 := Goto.m0 A250
     clear A250
     by_cases c26 : (l0_3.length : Int) = 0
     ·
      rw [if_pos c26] at H
      exact absurd H (by simp)
     ·
      rw [if_neg c26] at H
      have c26b0 : ((l0_3.length : Int) == 0) = false := beq_eq_false_iff_ne.mpr c26
      have c26b1 : ((l0_3.length : Int) != 0) = true := bne_iff_ne.mpr c26
      have c26b2 : ¬ (l0_3 = []) := fun h_ => c26 (by rw [h_]; rfl)
      have H' := Goto.m0 H
      clear H
      try go_wp2
      replace BK400 := Goto.m0 (blk_drew BK400.out); replace HB := Goto.m0 (below_drew1 HB.out)
      refine start_ (n := 6) (S := fun w' => w'.cell? ⟨gb400, 0, none⟩ = some (.int .i64 a0_0) ∧ w'.cell? ⟨gb400, 1, none⟩ = some (.int .i64 a0_1) ∧ w'.cell? ⟨gb400, 2, none⟩ = some (.slice A0_2 l0_2.length c0_2) ∧ w'.cell? ⟨gb400, 3, none⟩ = some (.slice A0_3 l0_3.length c0_3)) (ds := []) #[false, false, false, false, false, false] (by kernel_rfl) rfl rfl ⟨(blk_cell BK400.out 0).trans rfl, (blk_cell BK400.out 1).trans rfl, (blk_cell BK400.out 2).trans rfl, (blk_cell BK400.out 3).trans rfl⟩ (fun hHeld => ?_)
      generalize wc.drew = w27 at BK400 HB hHeld ⊢
      refine take_ (i := 0) (N := some 27) (v := ?_) (a' := ?_) #[true, false, false, false, false, false] rfl rfl (by kernel_rfl) (fun _ _ _ h => h) (Or.inl ⟨by rfl, ?_⟩) hHeld ?_ ?_
      rotate_left
      ·
       rintro w' ⟨s0, s1, s2, s3⟩
       go_simp
       with_reducible rfl
      rotate_left
      ·
       exact Goto.ap
      refine take_ (i := 2) (N := some 29) (v := ?_) (a' := ?_) #[true, false, true, false, false, false] rfl rfl (by kernel_rfl) (fun _ _ _ h => h) (Or.inl ⟨by rfl, ?_⟩) hHeld ?_ ?_
      rotate_left
      ·
       rintro w' ⟨s0, s1, s2, s3⟩
       go_simp
       with_reducible rfl
      rotate_left
      ·
       exact Goto.ap
      refine one_ (i := 1) (N := some 28) #[true, true, true, false, false, false] rfl rfl (by kernel_rfl) (by decide) (fun K hK => ?_)
      refine goes_ Try.func15 (by kernel_rfl) rfl #[.agg #[.int .i64 a0_0, .int .i64 a0_1, .slice A0_2 l0_2.length c0_2, .slice A0_3 l0_3.length c0_3]] (by rfl) rfl rfl (by (try simp only [List.map_toArray, List.map_cons, List.map_nil]); first | done | rfl | (simp only [List.length_drop, List.length_take]; rfl)) ?_
      with_reducible refine (route_New.calls a0_0 a0_1 _ _ l0_2 _ _ l0_3 t405 t406 t407 _ ?side1 ?side2 ?side3 ?side4 A24.out).mono ?_
      (case side1 => repeat (first | exact (Kd.C_below HR0_2.out HB.out) | (with_reducible refine Kd.C_alloc ?_ _) | (with_reducible refine Kd.C_drewN ?_ _) | (with_reducible refine Kd.C_drew ?_)))
      (case side2 => exact HC0_2.out)
      (case side3 => repeat (first | exact (Kd.C_below HR0_3.out HB.out) | (with_reducible refine Kd.C_alloc ?_ _) | (with_reducible refine Kd.C_drewN ?_ _) | (with_reducible refine Kd.C_drew ?_)))
      (case side4 => exact HC0_3.out)
      rintro e w28 ⟨v408, gb404, rfl, ho0, hi, hge, hb⟩
      refine ⟨_, rfl, ?_⟩
      have HO409 := Goto.m0 (Kd.R_lower ho0 (below_size (Goto.hx HB))); have BK404 := Goto.m0 (hi); have GW404 := Goto.m0 ((Nat.le_trans (below_size (Goto.hx HB)) hge : w.heap.size ≤ gb404)); have GE404 := Goto.m0 ((Nat.le_trans (below_size (Goto.hx HB)) hge : w.heap.size ≤ gb404)); have NB400_404 := Goto.m0 ((Nat.ne_of_lt (Nat.lt_of_lt_of_le (blk_lt (g := gb400) (o := .cells #[.int .i64 a0_0, .int .i64 a0_1, .slice A0_2 l0_2.length c0_2, .slice A0_3 l0_3.length c0_3] 25 (0, 0)) (Goto.bx BK400)) hge) : gb400 ≠ gb404)); have NB404_400 := Goto.m0 ((Nat.ne_of_gt (Nat.lt_of_lt_of_le (blk_lt (g := gb400) (o := .cells #[.int .i64 a0_0, .int .i64 a0_1, .slice A0_2 l0_2.length c0_2, .slice A0_3 l0_3.length c0_3] 25 (0, 0)) (Goto.bx BK400)) hge) : gb404 ≠ gb400)); replace BK400 := Goto.bb BK400 hb; replace HB := Goto.hs HB hb
      (try clear hb)
      (try clear hi)
      (try clear hge)
      (try clear ho0)
      refine hK.out _ _ ⟨(blk_cell BK400.out 0).trans rfl, (blk_cell BK400.out 1).trans rfl, (blk_cell BK400.out 2).trans rfl, (blk_cell BK400.out 3).trans rfl⟩ (fun hHeld => ?_)
      clear hK K
      refine norm_ (a' := ?_) ?_ ?_
      rotate_left
      ·
       show Act.put _ (some 28) _ = _
       exact Goto.ap
      refine one_ (i := 3) (N := some 30) #[true, true, true, true, false, false] rfl rfl (by kernel_rfl) (by decide) (fun K hK => ?_)
      refine goes_ Try.func15 (by kernel_rfl) rfl #[.agg #[.int .i64 a0_0, .int .i64 a0_1, .slice A0_2 l0_2.length c0_2, .slice A0_3 l0_3.length c0_3]] (by rfl) rfl rfl (by (try simp only [List.map_toArray, List.map_cons, List.map_nil]); first | done | rfl | (simp only [List.length_drop, List.length_take]; rfl)) ?_
      with_reducible refine (route_New.calls a0_0 a0_1 _ _ l0_2 _ _ l0_3 t411 t412 t413 _ ?side1 ?side2 ?side3 ?side4 A25.out).mono ?_
      (case side1 => repeat (first | exact (Kd.C_below HR0_2.out HB.out) | (with_reducible refine Kd.C_alloc ?_ _) | (with_reducible refine Kd.C_drewN ?_ _) | (with_reducible refine Kd.C_drew ?_)))
      (case side2 => exact HC0_2.out)
      (case side3 => repeat (first | exact (Kd.C_below HR0_3.out HB.out) | (with_reducible refine Kd.C_alloc ?_ _) | (with_reducible refine Kd.C_drewN ?_ _) | (with_reducible refine Kd.C_drew ?_)))
      (case side4 => exact HC0_3.out)
      rintro e w29 ⟨v414, gb410, rfl, ho0, hi, hge, hb⟩
      refine ⟨_, rfl, ?_⟩
      have HO415 := Goto.m0 (Kd.R_lower (Kd.R_new' ho0 (Kd.R_lt (by (with_reducible repeat (first | apply Kd.R_alloc | apply Kd.R_drewN | apply Kd.R_drew)); exact HO409.out))) (below_size (Goto.hx HB))); have BK410 := Goto.m0 (hi); have GW410 := Goto.m0 ((Nat.le_trans (below_size (Goto.hx HB)) hge : w.heap.size ≤ gb410)); have GE410 := Goto.m0 ((Nat.le_trans (below_size (Goto.hx HB)) hge : w.heap.size ≤ gb410)); have NB400_410 := Goto.m0 ((Nat.ne_of_lt (Nat.lt_of_lt_of_le (blk_lt (g := gb400) (o := .cells #[.int .i64 a0_0, .int .i64 a0_1, .slice A0_2 l0_2.length c0_2, .slice A0_3 l0_3.length c0_3] 25 (0, 0)) (Goto.bx BK400)) hge) : gb400 ≠ gb410)); have NB410_400 := Goto.m0 ((Nat.ne_of_gt (Nat.lt_of_lt_of_le (blk_lt (g := gb400) (o := .cells #[.int .i64 a0_0, .int .i64 a0_1, .slice A0_2 l0_2.length c0_2, .slice A0_3 l0_3.length c0_3] 25 (0, 0)) (Goto.bx BK400)) hge) : gb410 ≠ gb400)); have NB404_410 := Goto.m0 ((Nat.ne_of_lt (Nat.lt_of_lt_of_le (blk_lt (g := gb404) (o := .cells #[.int .i64 t405, .int .i64 t406, .slice A0_2 l0_2.length c0_2, .slice A0_3 l0_3.length c0_3, v408] 74 (0, 0)) (Goto.bx BK404)) hge) : gb404 ≠ gb410)); have NB410_404 := Goto.m0 ((Nat.ne_of_gt (Nat.lt_of_lt_of_le (blk_lt (g := gb404) (o := .cells #[.int .i64 t405, .int .i64 t406, .slice A0_2 l0_2.length c0_2, .slice A0_3 l0_3.length c0_3, v408] 74 (0, 0)) (Goto.bx BK404)) hge) : gb410 ≠ gb404)); replace HO409 := Goto.m0 (Kd.R_elder' (by (with_reducible repeat (first | apply Kd.R_alloc | apply Kd.R_drewN | apply Kd.R_drew)); exact HO409.out) (Kd.R_base ho0) hb); replace BK400 := Goto.bb BK400 hb; replace BK404 := Goto.bb BK404 hb; replace HB := Goto.hs HB hb
      (try clear hb)
      (try clear hi)
      (try clear hge)
      (try clear ho0)
      refine hK.out _ _ ⟨(blk_cell BK400.out 0).trans rfl, (blk_cell BK400.out 1).trans rfl, (blk_cell BK400.out 2).trans rfl, (blk_cell BK400.out 3).trans rfl⟩ (fun hHeld => ?_)
      clear hK K
      refine norm_ (a' := ?_) ?_ ?_
      rotate_left
      ·
       show Act.put _ (some 30) _ = _
       exact Goto.ap
      refine pure_ (i := 4) (N := some 7) (v := ?_) (a' := ?_) #[true, true, true, true, true, false] rfl rfl (by kernel_rfl) (fun _ _ _ h => h) (Or.inl ⟨by rfl, ?_⟩) ?_ ?_
      rotate_left
      ·
       intro w'
       go_simp
       with_reducible rfl
      rotate_left
      ·
       exact Goto.ap
      refine pure_ (i := 5) (N := some 8) (v := ?_) (a' := ?_) #[true, true, true, true, true, true] rfl rfl (by kernel_rfl) (fun _ _ _ h => h) (Or.inl ⟨by rfl, ?_⟩) ?_ ?_
      rotate_left
      ·
       intro w'
       go_simp
       with_reducible rfl
      rotate_left
      ·
       exact Goto.ap
      refine done_ (by kernel_rfl) ?_
      have hnb30 := NB400_404.out; have hnc30 := NB404_400.out; have hnb31 := NB400_410.out; have hnc31 := NB410_400.out; have hcz32_0 : w29.cell? ⟨gb400, 0, none⟩ = some (.int .i64 a0_0) := (blk_cell BK400.out 0).trans rfl; have hcz32_1 : w29.cell? ⟨gb400, 1, none⟩ = some (.int .i64 a0_1) := (blk_cell BK400.out 1).trans rfl; have hcz32_2 : w29.cell? ⟨gb400, 2, none⟩ = some (.slice A0_2 l0_2.length c0_2) := (blk_cell BK400.out 2).trans rfl; have hcz32_3 : w29.cell? ⟨gb400, 3, none⟩ = some (.slice A0_3 l0_3.length c0_3) := (blk_cell BK400.out 3).trans rfl; have hfz32_0 := blk_frozen BK400.out 0; have hfz32_1 := blk_frozen BK400.out 1; have hfz32_2 := blk_frozen BK400.out 2; have hfz32_3 := blk_frozen BK400.out 3
      try go_wp2
      go_loopg [10] kj5 (fun kq v10 w' => ∃ (x10_2 : Int) (x405004_2 : List Int) (x411004_2 : List Int) (u405004 : Value) (u411004 : Value), v10 = .int .i64 x10_2 ∧ Aside0 (tontinelaw16_RouteApart.l0 kq l1 (Int.tmod (wrap64 (a2)) (l0_3.length : Int)) x10_2 a0_0 a0_1 l0_2 l0_3 t405 t406 l0_2 l0_3 x405004_2 t411 t412 l0_2 l0_3 x411004_2 = some r) ∧ Aside0 (kq ≤ kj5) ∧ Aside0 (Kd.R (Kd.int .i64) 3 w' w.heap.size (fun k_ => some k_ ≠ (u411004 : Value).ownBlock) u405004 x405004_2) ∧ Aside0 (Kd.R (Kd.int .i64) 3 w' w.heap.size (fun k_ => some k_ ≠ (u405004 : Value).ownBlock) u411004 x411004_2) ∧ Aside0 (w'.heap[gb400]? = some (.cells #[.int .i64 a0_0, .int .i64 a0_1, (.slice A0_2 l0_2.length c0_2), (.slice A0_3 l0_3.length c0_3)] 25 (0, 0))) ∧ Aside0 (w'.heap[gb404]? = some (.cells #[.int .i64 t405, .int .i64 t406, (.slice A0_2 l0_2.length c0_2), (.slice A0_3 l0_3.length c0_3), u405004] 74 (0, 0))) ∧ Aside0 (w'.heap[gb410]? = some (.cells #[.int .i64 t411, .int .i64 t412, (.slice A0_2 l0_2.length c0_2), (.slice A0_3 l0_3.length c0_3), u411004] 74 (0, 0))) ∧ Aside0 (Below w.heap.size w w'))
      case atStart => exact ⟨(0), (t407), (t413), (v408), (v414), (by first | rfl | (simp; done) | (simp [*]; done)), H', ⟨Nat.le_refl _⟩, ⟨by (with_reducible repeat (first | apply Kd.R_alloc | apply Kd.R_drewN | apply Kd.R_drew)); exact Kd.R_mono HO409.out (fun _ hk => hk.2)⟩, ⟨by (with_reducible repeat (first | apply Kd.R_alloc | apply Kd.R_drewN | apply Kd.R_drew)); exact Kd.R_mono HO415.out (fun _ hk => hk.2)⟩, ⟨Goto.bx BK400⟩, ⟨Goto.bx BK404⟩, ⟨Goto.bx BK410⟩, ⟨Goto.hx HB⟩⟩
      case round =>
       clear H'
       try clear c1; try clear c2; try clear p2; try clear c3; try clear c5; try clear c6; try clear p6; try clear c10; try clear c12; try clear c13; try clear c14; try clear c14b0; try clear c14b1; try clear c15; try clear c23; try clear c26; try clear c26b0; try clear c26b1; try clear c26b2; try clear c30; try clear c31; try clear hcz11_0; try clear hcz11_1; try clear hcz11_2; try clear hcz11_3; try clear hcz15_0; try clear hcz15_1; try clear hcz15_2; try clear hcz15_3; try clear hcz17_0; try clear hcz17_1; try clear hcz17_2; try clear hcz17_3; try clear hcz19_0; try clear hcz19_1; try clear hcz19_2; try clear hcz19_3; try clear hcz21_0; try clear hcz21_1; try clear hcz21_2; try clear hcz21_3; try clear hcz32_0; try clear hcz32_1; try clear hcz32_2; try clear hcz32_3; try clear hfz11_0; try clear hfz11_1; try clear hfz11_2; try clear hfz11_3; try clear hfz15_0; try clear hfz15_1; try clear hfz15_2; try clear hfz15_3; try clear hfz17_0; try clear hfz17_1; try clear hfz17_2; try clear hfz17_3; try clear hfz19_0; try clear hfz19_1; try clear hfz19_2; try clear hfz19_3; try clear hfz21_0; try clear hfz21_1; try clear hfz21_2; try clear hfz21_3; try clear hfz32_0; try clear hfz32_1; try clear hfz32_2; try clear hfz32_3; try clear p2
       obtain ⟨x10_2, x405004_2, x411004_2, u405004, u411004, rfl, HA, HK2, HO_405004, HO_411004, BK400, BK404, BK410, HB⟩ := hrel
       cases gk with
       | zero => exact absurd HA.out (by simp [tontinelaw16_RouteApart.l0])
       | succ k2 =>
        have H := HA.out; clear HA
        simp only [tontinelaw16_RouteApart.l0] at H
        by_cases c33 : x10_2 < (l1.length : Int)
        ·
         rw [if_pos c33] at H
         have c33b0 : decide (x10_2 < (l1.length : Int)) = true := decide_eq_true c33
         clear c33
         by_cases c34 : 0 ≤ x10_2
         ·
          rw [if_pos c34] at H
          have c34b0 : decide (0 ≤ x10_2) = true := decide_eq_true c34
          clear c34
          by_cases c35 : (l0_3.length : Int) = 0
          ·
           rw [if_pos c35] at H
           exact absurd H (by simp)
          ·
           rw [if_neg c35] at H
           have c35b0 : ((l0_3.length : Int) == 0) = false := beq_eq_false_iff_ne.mpr c35
           have c35b1 : ((l0_3.length : Int) != 0) = true := bne_iff_ne.mpr c35
           have c35b2 : ¬ (l0_3 = []) := fun h_ => c35 (by rw [h_]; rfl)
           replace H := Option.bind_eq_some_iff.mp H
           obtain ⟨⟨t417, t420⟩, A360, H⟩ := H
           replace H : (if (Int.tmod (wrap64 (rd l1 x10_2)) (l0_3.length : Int)) = (Int.tmod (wrap64 (a2)) (l0_3.length : Int)) then ((route_Routes_Offer.f t411 t412 l0_2 l0_3 x411004_2 (Int.tmod (wrap64 (a2)) (l0_3.length : Int))).bind fun bt423 => ((tontineref1_SameInts.f k2 t417 bt423.1).bind fun t429 => (if t429 = true then (tontinelaw16_RouteApart.l0 k2 l1 (Int.tmod (wrap64 (a2)) (l0_3.length : Int)) (wrap64 (x10_2 + 1)) a0_0 a0_1 l0_2 l0_3 t405 t406 l0_2 l0_3 t420 t411 t412 l0_2 l0_3 bt423.2) else (some false)))) else (tontinelaw16_RouteApart.l0 k2 l1 (Int.tmod (wrap64 (a2)) (l0_3.length : Int)) (wrap64 (x10_2 + 1)) a0_0 a0_1 l0_2 l0_3 t405 t406 l0_2 l0_3 t420 t411 t412 l0_2 l0_3 x411004_2)) = some r := H
           have A36 := Goto.m0 A360
           clear A360
           by_cases c37 : (Int.tmod (wrap64 (rd l1 x10_2)) (l0_3.length : Int)) = (Int.tmod (wrap64 (a2)) (l0_3.length : Int))
           ·
            rw [if_pos c37] at H
            have c37b0 : ((Int.tmod (wrap64 (rd l1 x10_2)) (l0_3.length : Int)) == (Int.tmod (wrap64 (a2)) (l0_3.length : Int))) = true := beq_iff_eq.mpr c37
            have c37b1 : ((Int.tmod (wrap64 (rd l1 x10_2)) (l0_3.length : Int)) != (Int.tmod (wrap64 (a2)) (l0_3.length : Int))) = false := bne_eq_false_iff_eq.mpr c37
            clear c37
            replace H := Option.bind_eq_some_iff.mp H
            obtain ⟨⟨t423, t426⟩, A380, H⟩ := H
            replace H : ((tontineref1_SameInts.f k2 t417 t423).bind fun t429 => (if t429 = true then (tontinelaw16_RouteApart.l0 k2 l1 (Int.tmod (wrap64 (a2)) (l0_3.length : Int)) (wrap64 (x10_2 + 1)) a0_0 a0_1 l0_2 l0_3 t405 t406 l0_2 l0_3 t420 t411 t412 l0_2 l0_3 t426) else (some false))) = some r := H
            have A38 := Goto.m0 A380
            clear A380
            replace H := Option.bind_eq_some_iff.mp H
            obtain ⟨t429, A390, H⟩ := H
            have A39 := Goto.m0 A390
            clear A390
            by_cases c40 : t429 = true
            ·
             subst c40
             rw [if_pos rfl] at H
             have H' := Goto.m0 H
             clear H
             try go_wp2
             replace HO_405004 := Goto.m0 (Kd.R_drew HO_405004.out); replace HO_411004 := Goto.m0 (Kd.R_drew HO_411004.out); replace BK400 := Goto.m0 (blk_drew BK400.out); replace BK404 := Goto.m0 (blk_drew BK404.out); replace BK410 := Goto.m0 (blk_drew BK410.out); replace HB := Goto.m0 (below_drew1 HB.out)
             have p416 : 0 ≤ (x10_2 : Int) := of_decide_eq_true (by first | (with_reducible assumption) | assumption)
             have q416 : x10_2 < (l1.length : Int) := of_decide_eq_true (by first | (with_reducible assumption) | assumption)
             obtain ⟨ad416, e416, hx416_0⟩ := Kd.at_int HR1.out x10_2 p416 q416
             have hw416_0 := hx416_0
             cases e416
             replace hx416_0 := Goto.kc HB.out hx416_0
             replace p416 := eq_true p416; replace q416 := eq_true q416
             refine start_ (n := 10) (S := fun w' => w'.cell? ⟨gb400, 0, none⟩ = some (.int .i64 a0_0) ∧ w'.cell? ⟨gb400, 1, none⟩ = some (.int .i64 a0_1) ∧ w'.cell? ⟨gb400, 2, none⟩ = some (.slice A0_2 l0_2.length c0_2) ∧ w'.cell? ⟨gb400, 3, none⟩ = some (.slice A0_3 l0_3.length c0_3) ∧ w'.cell? (ad416.add (x10_2).toNat) = some (.int .u8 (rd l1 x10_2))) (ds := []) (.replicate 10 false) (by kernel_rfl) rfl rfl ⟨(blk_cell BK400.out 0).trans rfl, (blk_cell BK400.out 1).trans rfl, (blk_cell BK400.out 2).trans rfl, (blk_cell BK400.out 3).trans rfl, (Goto.kc HB.out hw416_0)⟩ (fun hHeld => ?_); refine with_tabW tontinelaw16_RouteApart.tab10 tontinelaw16_RouteApart.bits10 (fun HT_ HW_ => ?_)
             generalize wr.drew = w41 at HO_405004 HO_411004 BK400 BK404 BK410 HB hx416_0 hHeld ⊢
             refine pure_ (i := 0) (N := some 43) (v := ?_) (a' := ?_) (Goto.bs 10 1) rfl rfl (any_of HT_.out (by kernel_rfl)) (fun _ _ _ h => h) (Or.inl ⟨by rfl, ?_⟩) ?_ ?_
             rotate_left
             ·
              intro w'
              go_simp
              with_reducible rfl
             rotate_left
             ·
              exact Goto.ap
             refine pure_ (i := 1) (N := some 44) (v := ?_) (a' := ?_) (Goto.bs 10 3) rfl rfl (any_of HT_.out (by kernel_rfl)) (fun _ _ _ h => h) (Or.inl ⟨by rfl, ?_⟩) ?_ ?_
             rotate_left
             ·
              intro w'
              go_simp
              with_reducible rfl
             rotate_left
             ·
              exact Goto.ap
             refine pure_ (i := 2) (N := some 45) (v := ?_) (a' := ?_) (Goto.bs 10 7) rfl rfl (any_of HT_.out (by kernel_rfl)) (fun _ _ _ h => h) (Or.inl ⟨by rfl, ?_⟩) ?_ ?_
             rotate_left
             ·
              intro w'
              go_simp
              with_reducible rfl
             rotate_left
             ·
              exact Goto.ap
             refine pure_ (i := 5) (N := some 48) (v := ?_) (a' := ?_) (Goto.bs 10 39) rfl rfl (any_of HT_.out (by kernel_rfl)) (fun _ _ _ h => h) (Or.inl ⟨by rfl, ?_⟩) ?_ ?_
             rotate_left
             ·
              intro w'
              go_simp
              with_reducible rfl
             rotate_left
             ·
              exact Goto.ap
             refine take_ (i := 3) (N := some 46) (v := ?_) (a' := ?_) (Goto.bs 10 47) rfl rfl (take_ofW HT_.out HW_.out (by kernel_rfl)) (fun _ _ _ h => h) (Or.inl ⟨by rfl, ?_⟩) hHeld ?_ ?_
             rotate_left
             ·
              rintro w' ⟨s0, s1, s2, s3, s4⟩
              go_simp
              with_reducible rfl
             rotate_left
             ·
              exact Goto.ap
             refine pure_ (i := 4) (N := some 47) (v := ?_) (a' := ?_) (Goto.bs 10 63) rfl rfl (any_of HT_.out (by kernel_rfl)) (fun _ _ _ h => h) (Or.inl ⟨by rfl, ?_⟩) ?_ ?_
             rotate_left
             ·
              intro w'
              go_simp
              with_reducible rfl
             rotate_left
             ·
              exact Goto.ap
             refine take_ (i := 6) (N := some 49) (v := ?_) (a' := ?_) (Goto.bs 10 127) rfl rfl (take_ofW HT_.out HW_.out (by kernel_rfl)) (fun _ _ _ h => h) (Or.inl ⟨by rfl, ?_⟩) hHeld ?_ ?_
             rotate_left
             ·
              rintro w' ⟨s0, s1, s2, s3, s4⟩
              go_simp
              with_reducible rfl
             rotate_left
             ·
              exact Goto.ap
             refine pure_ (i := 7) (N := some 50) (v := ?_) (a' := ?_) (Goto.bs 10 255) rfl rfl (any_of HT_.out (by kernel_rfl)) (fun _ _ _ h => h) (Or.inl ⟨by rfl, ?_⟩) ?_ ?_
             rotate_left
             ·
              intro w'
              go_simp
              with_reducible rfl
             rotate_left
             ·
              exact Goto.ap
             refine pure_ (i := 8) (N := some 51) (v := ?_) (a' := ?_) (Goto.bs 10 511) rfl rfl (any_of HT_.out (by kernel_rfl)) (fun _ _ _ h => h) (Or.inl ⟨by rfl, ?_⟩) ?_ ?_
             rotate_left
             ·
              intro w'
              go_simp
              with_reducible rfl
             rotate_left
             ·
              exact Goto.ap
             refine pure_ (i := 9) (N := some 11) (v := ?_) (a' := ?_) (Goto.bs 10 1023) rfl rfl (any_of HT_.out (by kernel_rfl)) (fun _ _ _ h => h) (Or.inl ⟨by rfl, ?_⟩) ?_ ?_
             rotate_left
             ·
              intro w'
              go_simp
              with_reducible rfl
             rotate_left
             ·
              exact Goto.ap
             refine done_ (done_of HT_.out (by kernel_rfl)) ?_
             try go_wp2_with (first | ((with_reducible refine gate_callee (f := 20) rfl ?_); refine goesL_ (some 54) rfl rfl Try.func20 (by kernel_rfl) rfl #[.pointer (some ⟨gb404, 0, none⟩), .int .i64 (Int.tmod (wrap64 (rd l1 x10_2)) (l0_3.length : Int))] rfl (by (try simp only [List.map_toArray, List.map_cons, List.map_nil]); first | done | rfl | (simp only [List.length_drop, List.length_take]; rfl)) ?_; (with_reducible refine (route_Routes_Offer.calls gb404 t405 t406 A0_2 c0_2 l0_2 A0_3 c0_3 l0_3 (fun k_ => some k_ = (u405004 : Value).ownBlock) u405004 x405004_2 (Int.tmod (wrap64 (rd l1 x10_2)) (l0_3.length : Int)) t417 t420 w _ ?side1 ?side2 ?side3 ?side4 ?side5 ?side6 ?side7 ?side8 A36.out).mono ?_); (case side1 => exact by (with_reducible repeat first | refine blk_drewN ?_ _ | refine blk_drew ?_ | refine blk_alloc ?_ _); exact BK404.out); (case side2 => exact GE404.out); (case side3 => repeat (first | (with_reducible first | exact HB.out | apply below_alloc | apply pw_below_drewN | apply below_drew1 | refine below_set ?_ GE400.out | refine below_set ?_ GE404.out | refine below_set ?_ GE410.out) | exact HB.out)); (case side4 => exact Kd.C_kept_came (Kd.heap_slice 3 (Kd.heap_int .i64)) HR0_2.out (Goto.hx HB) (fun k_ hs_ => Or.elim hs_ (fun hs_ => (fun e_ => Kd.R_base HO_405004.out k_ e_.symm) hs_) (fun e_ => (by rw [e_]; exact GE404.out)))); (case side5 => exact HC0_2.out); (case side6 => exact Kd.C_kept_came k44_heap HR0_3.out (Goto.hx HB) (fun k_ hs_ => Or.elim hs_ (fun hs_ => (fun e_ => Kd.R_base HO_405004.out k_ e_.symm) hs_) (fun e_ => (by rw [e_]; exact GE404.out)))); (case side7 => exact HC0_3.out); (case side8 => exact Kd.R_tight rfl HO_405004.out); rintro e w42 ⟨v418, v421, rfl, ho0, ho1, hi, hb, hkp⟩; refine ⟨_, rfl, ?_⟩; have n0_ := Goto.m0 (Kd.R_mono (ok' := fun k_ => some k_ ≠ (v418 : Value).ownBlock ∧ some k_ ≠ (v421 : Value).ownBlock) (Kd.R_keptB ((Kd.R_types HO_411004.out BK404.out (by decide))) hkp (fun k_ hk_ hs_ => Or.elim hs_ (fun hs_ => (hk_.1) hs_) (fun e_ => (hk_.2) e_))) (fun k_ hk_ => ⟨fun e_ => Or.elim (ho0.1 k_ e_.symm).1 (fun hs_ => hk_.2.1 (.inl hs_)) (fun hn_ => Nat.not_le.2 hk_.2.2 hn_), fun e_ => Or.elim (ho1.1 k_ e_.symm).1 (fun hs_ => hk_.2.1 (.inl hs_)) (fun hn_ => Nat.not_le.2 hk_.2.2 hn_)⟩)); have n1_ := Goto.m0 (blk_kept (Goto.bx BK400) hkp (fun hs_ => Or.elim hs_ (fun hs_ => (fun e_ => (Kd.R_ne HO_405004.out BK400.out (by decide)) e_) hs_) (fun e_ => NB400_404.out e_))); have n2_ := Goto.m0 (hi); have n3_ := Goto.m0 (blk_kept (Goto.bx BK410) hkp (fun hs_ => Or.elim hs_ (fun hs_ => (fun e_ => (Kd.R_ne HO_405004.out BK410.out (by decide)) e_) hs_) (fun e_ => NB410_404.out e_))); have n4_ := Goto.m0 (Kd.R_mono (ok' := fun k_ => some k_ ≠ (v421 : Value).ownBlock ∧ some k_ ≠ (u411004 : Value).ownBlock) ho0 (fun k_ hk_ => ⟨hk_.2, Or.elim hk_.1 (fun hs_ => fun e_ => ((((Kd.R_types HO_411004.out BK404.out (by decide))).1 k_ e_.symm).1) hs_) (fun hn_ => (Kd.fresh' (Kd.R_lt (by (with_reducible repeat (first | apply Kd.R_alloc | apply Kd.R_drewN | apply Kd.R_drew)); exact HO_411004.out)) k_ hn_))⟩)); have n5_ := Goto.m0 (Kd.R_mono (ok' := fun k_ => some k_ ≠ (v418 : Value).ownBlock ∧ some k_ ≠ (u411004 : Value).ownBlock) ho1 (fun k_ hk_ => ⟨hk_.2, Or.elim hk_.1 (fun hs_ => fun e_ => ((((Kd.R_types HO_411004.out BK404.out (by decide))).1 k_ e_.symm).1) hs_) (fun hn_ => (Kd.fresh' (Kd.R_lt (by (with_reducible repeat (first | apply Kd.R_alloc | apply Kd.R_drewN | apply Kd.R_drew)); exact HO_411004.out)) k_ hn_))⟩)); have n6_ := Goto.m0 (hb); clear HO_411004; clear BK400; clear BK404; clear BK410; clear HB; clear HO_405004; have HO_411004 := n0_; have BK400 := n1_; have BK404 := n2_; have BK410 := n3_; have HO419 := n4_; have HO422 := n5_; have HB := n6_; clear n0_ n1_ n2_ n3_ n4_ n5_ n6_; (try clear hb); (try clear hkp); (try clear ho0); (try clear ho1)) | (go_at_call 20; (with_reducible refine (route_Routes_Offer.calls gb410 t411 t412 A0_2 c0_2 l0_2 A0_3 c0_3 l0_3 (fun k_ => some k_ = (u411004 : Value).ownBlock) u411004 x411004_2 (Int.tmod (wrap64 (a2)) (l0_3.length : Int)) t423 t426 w _ ?side1 ?side2 ?side3 ?side4 ?side5 ?side6 ?side7 ?side8 A38.out).mono ?_); (case side1 => exact by (with_reducible repeat first | refine blk_drewN ?_ _ | refine blk_drew ?_ | refine blk_alloc ?_ _); exact BK410.out); (case side2 => exact GE410.out); (case side3 => repeat (first | (with_reducible first | exact HB.out | apply below_alloc | apply pw_below_drewN | apply below_drew1 | refine below_set ?_ GE400.out | refine below_set ?_ GE404.out | refine below_set ?_ GE410.out) | exact HB.out)); (case side4 => exact Kd.C_kept_came (Kd.heap_slice 3 (Kd.heap_int .i64)) HR0_2.out (Goto.hx HB) (fun k_ hs_ => Or.elim hs_ (fun hs_ => (fun e_ => Kd.R_base HO_411004.out k_ e_.symm) hs_) (fun e_ => (by rw [e_]; exact GE410.out)))); (case side5 => exact HC0_2.out); (case side6 => exact Kd.C_kept_came k44_heap HR0_3.out (Goto.hx HB) (fun k_ hs_ => Or.elim hs_ (fun hs_ => (fun e_ => Kd.R_base HO_411004.out k_ e_.symm) hs_) (fun e_ => (by rw [e_]; exact GE410.out)))); (case side7 => exact HC0_3.out); (case side8 => exact Kd.R_tight rfl HO_411004.out); rintro e w43 ⟨v424, v427, rfl, ho0, ho1, hi, hb, hkp⟩; have n0_ := Goto.m0 (blk_kept (Goto.bx BK400) hkp (fun hs_ => Or.elim hs_ (fun hs_ => (fun e_ => (Kd.R_ne HO_411004.out BK400.out (by decide)) e_) hs_) (fun e_ => NB400_410.out e_))); have n1_ := Goto.m0 (blk_kept (Goto.bx BK404) hkp (fun hs_ => Or.elim hs_ (fun hs_ => (fun e_ => (Kd.R_ne HO_411004.out BK404.out (by decide)) e_) hs_) (fun e_ => NB404_410.out e_))); have n2_ := Goto.m0 (hi); have n3_ := Goto.m0 (Kd.R_mono (ok' := fun k_ => some k_ ≠ (v421 : Value).ownBlock ∧ some k_ ≠ (v424 : Value).ownBlock ∧ some k_ ≠ (v427 : Value).ownBlock) (Kd.R_keptB ((Kd.R_types HO419.out BK410.out (by decide))) hkp (fun k_ hk_ hs_ => Or.elim hs_ (fun hs_ => (hk_.1.2) hs_) (fun e_ => (hk_.2) e_))) (fun k_ hk_ => ⟨hk_.1.1.1, fun e_ => Or.elim (ho0.1 k_ e_.symm).1 (fun hs_ => hk_.2.1 (.inl hs_)) (fun hn_ => Nat.not_le.2 hk_.2.2 hn_), fun e_ => Or.elim (ho1.1 k_ e_.symm).1 (fun hs_ => hk_.2.1 (.inl hs_)) (fun hn_ => Nat.not_le.2 hk_.2.2 hn_)⟩)); have n4_ := Goto.m0 (Kd.R_mono (ok' := fun k_ => some k_ ≠ (v418 : Value).ownBlock ∧ some k_ ≠ (v424 : Value).ownBlock ∧ some k_ ≠ (v427 : Value).ownBlock) (Kd.R_keptB ((Kd.R_types HO422.out BK410.out (by decide))) hkp (fun k_ hk_ hs_ => Or.elim hs_ (fun hs_ => (hk_.1.2) hs_) (fun e_ => (hk_.2) e_))) (fun k_ hk_ => ⟨hk_.1.1.1, fun e_ => Or.elim (ho0.1 k_ e_.symm).1 (fun hs_ => hk_.2.1 (.inl hs_)) (fun hn_ => Nat.not_le.2 hk_.2.2 hn_), fun e_ => Or.elim (ho1.1 k_ e_.symm).1 (fun hs_ => hk_.2.1 (.inl hs_)) (fun hn_ => Nat.not_le.2 hk_.2.2 hn_)⟩)); have n5_ := Goto.m0 (Kd.R_mono (ok' := fun k_ => some k_ ≠ (v427 : Value).ownBlock ∧ some k_ ≠ (v418 : Value).ownBlock ∧ some k_ ≠ (v421 : Value).ownBlock) ho0 (fun k_ hk_ => ⟨hk_.2, Or.elim hk_.1 (fun hs_ => fun e_ => ((((Kd.R_types HO419.out BK410.out (by decide))).1 k_ e_.symm).1.2) hs_) (fun hn_ => (Kd.fresh' (Kd.R_lt (by (with_reducible repeat (first | apply Kd.R_alloc | apply Kd.R_drewN | apply Kd.R_drew)); exact HO419.out)) k_ hn_)), Or.elim hk_.1 (fun hs_ => fun e_ => ((((Kd.R_types HO422.out BK410.out (by decide))).1 k_ e_.symm).1.2) hs_) (fun hn_ => (Kd.fresh' (Kd.R_lt (by (with_reducible repeat (first | apply Kd.R_alloc | apply Kd.R_drewN | apply Kd.R_drew)); exact HO422.out)) k_ hn_))⟩)); have n6_ := Goto.m0 (Kd.R_mono (ok' := fun k_ => some k_ ≠ (v424 : Value).ownBlock ∧ some k_ ≠ (v418 : Value).ownBlock ∧ some k_ ≠ (v421 : Value).ownBlock) ho1 (fun k_ hk_ => ⟨hk_.2, Or.elim hk_.1 (fun hs_ => fun e_ => ((((Kd.R_types HO419.out BK410.out (by decide))).1 k_ e_.symm).1.2) hs_) (fun hn_ => (Kd.fresh' (Kd.R_lt (by (with_reducible repeat (first | apply Kd.R_alloc | apply Kd.R_drewN | apply Kd.R_drew)); exact HO419.out)) k_ hn_)), Or.elim hk_.1 (fun hs_ => fun e_ => ((((Kd.R_types HO422.out BK410.out (by decide))).1 k_ e_.symm).1.2) hs_) (fun hn_ => (Kd.fresh' (Kd.R_lt (by (with_reducible repeat (first | apply Kd.R_alloc | apply Kd.R_drewN | apply Kd.R_drew)); exact HO422.out)) k_ hn_))⟩)); have n7_ := Goto.m0 (hb); clear BK400; clear BK404; clear BK410; clear HO419; clear HO422; clear HB; clear HO_411004; have BK400 := n0_; have BK404 := n1_; have BK410 := n2_; have HO419 := n3_; have HO422 := n4_; have HO425 := n5_; have HO428 := n6_; have HB := n7_; clear n0_ n1_ n2_ n3_ n4_ n5_ n6_ n7_; (try clear hb); (try clear hkp); (try clear ho0); (try clear ho1); obtain ⟨Ao44, co44, eo44⟩ := Kd.R_slice HO419.out; subst eo44; obtain ⟨Ao45, co45, eo45⟩ := Kd.R_slice HO425.out; subst eo45) | (go_at_call 17; (with_reducible refine (tontineref1_SameInts.calls k2 _ _ t417 _ _ t423 true _ ?side1 ?side2 ?side3 ?side4 A39.out).mono ?_); (case side1 => repeat (first | exact (Kd.R_reads' HO419.out).2.2 | (with_reducible refine Kd.C_alloc ?_ _) | (with_reducible refine Kd.C_drewN ?_ _) | (with_reducible refine Kd.C_drew ?_))); (case side2 => exact (Kd.R_reads' HO419.out).2.1); (case side3 => repeat (first | exact (Kd.R_reads' HO425.out).2.2 | (with_reducible refine Kd.C_alloc ?_ _) | (with_reducible refine Kd.C_drewN ?_ _) | (with_reducible refine Kd.C_drew ?_))); (case side4 => exact (Kd.R_reads' HO425.out).2.1); rintro e w' ⟨rfl, ⟨nd, rfl⟩⟩))
             go_roundg k2
             case measure => have := HJ5.out; have := HK2.out; omega
             case rel => exact ⟨(wrap64 (x10_2 + 1)), (t420), (t426), (v421), (v427), (by first | rfl | (simp; done) | (simp [*]; done)), H', ⟨by have := HJ5.out; have := HK2.out; omega⟩, ⟨by (with_reducible repeat (first | apply Kd.R_alloc | apply Kd.R_drewN | apply Kd.R_drew)); exact Kd.R_mono HO422.out (fun _ hk => hk.2.2)⟩, ⟨by (with_reducible repeat (first | apply Kd.R_alloc | apply Kd.R_drewN | apply Kd.R_drew)); exact Kd.R_mono HO428.out (fun _ hk => hk.2.2)⟩, ⟨Goto.bx BK400⟩, ⟨Goto.bx BK404⟩, ⟨Goto.bx BK410⟩, ⟨Goto.hx HB⟩⟩
            ·
             replace c40 := Bool.eq_false_iff.mpr c40
             subst c40
             rw [if_neg (show ¬ (false = true) by decide)] at H
             exact absurd ((Option.some.inj H).trans HRT.out) (by decide)
           ·
            rw [if_neg c37] at H
            have c37b0 : ((Int.tmod (wrap64 (rd l1 x10_2)) (l0_3.length : Int)) == (Int.tmod (wrap64 (a2)) (l0_3.length : Int))) = false := beq_eq_false_iff_ne.mpr c37
            have c37b1 : ((Int.tmod (wrap64 (rd l1 x10_2)) (l0_3.length : Int)) != (Int.tmod (wrap64 (a2)) (l0_3.length : Int))) = true := bne_iff_ne.mpr c37
            have H' := Goto.m0 H
            clear H
            try go_wp2
            replace HO_405004 := Goto.m0 (Kd.R_drew HO_405004.out); replace HO_411004 := Goto.m0 (Kd.R_drew HO_411004.out); replace BK400 := Goto.m0 (blk_drew BK400.out); replace BK404 := Goto.m0 (blk_drew BK404.out); replace BK410 := Goto.m0 (blk_drew BK410.out); replace HB := Goto.m0 (below_drew1 HB.out)
            have p416 : 0 ≤ (x10_2 : Int) := of_decide_eq_true (by first | (with_reducible assumption) | assumption)
            have q416 : x10_2 < (l1.length : Int) := of_decide_eq_true (by first | (with_reducible assumption) | assumption)
            obtain ⟨ad416, e416, hx416_0⟩ := Kd.at_int HR1.out x10_2 p416 q416
            have hw416_0 := hx416_0
            cases e416
            replace hx416_0 := Goto.kc HB.out hx416_0
            replace p416 := eq_true p416; replace q416 := eq_true q416
            refine start_ (n := 10) (S := fun w' => w'.cell? ⟨gb400, 0, none⟩ = some (.int .i64 a0_0) ∧ w'.cell? ⟨gb400, 1, none⟩ = some (.int .i64 a0_1) ∧ w'.cell? ⟨gb400, 2, none⟩ = some (.slice A0_2 l0_2.length c0_2) ∧ w'.cell? ⟨gb400, 3, none⟩ = some (.slice A0_3 l0_3.length c0_3) ∧ w'.cell? (ad416.add (x10_2).toNat) = some (.int .u8 (rd l1 x10_2))) (ds := []) (.replicate 10 false) (by kernel_rfl) rfl rfl ⟨(blk_cell BK400.out 0).trans rfl, (blk_cell BK400.out 1).trans rfl, (blk_cell BK400.out 2).trans rfl, (blk_cell BK400.out 3).trans rfl, (Goto.kc HB.out hw416_0)⟩ (fun hHeld => ?_); refine with_tabW tontinelaw16_RouteApart.tab10 tontinelaw16_RouteApart.bits10 (fun HT_ HW_ => ?_)
            generalize wr.drew = w46 at HO_405004 HO_411004 BK400 BK404 BK410 HB hx416_0 hHeld ⊢
            refine pure_ (i := 0) (N := some 43) (v := ?_) (a' := ?_) (Goto.bs 10 1) rfl rfl (any_of HT_.out (by kernel_rfl)) (fun _ _ _ h => h) (Or.inl ⟨by rfl, ?_⟩) ?_ ?_
            rotate_left
            ·
             intro w'
             go_simp
             with_reducible rfl
            rotate_left
            ·
             exact Goto.ap
            refine pure_ (i := 1) (N := some 44) (v := ?_) (a' := ?_) (Goto.bs 10 3) rfl rfl (any_of HT_.out (by kernel_rfl)) (fun _ _ _ h => h) (Or.inl ⟨by rfl, ?_⟩) ?_ ?_
            rotate_left
            ·
             intro w'
             go_simp
             with_reducible rfl
            rotate_left
            ·
             exact Goto.ap
            refine pure_ (i := 2) (N := some 45) (v := ?_) (a' := ?_) (Goto.bs 10 7) rfl rfl (any_of HT_.out (by kernel_rfl)) (fun _ _ _ h => h) (Or.inl ⟨by rfl, ?_⟩) ?_ ?_
            rotate_left
            ·
             intro w'
             go_simp
             with_reducible rfl
            rotate_left
            ·
             exact Goto.ap
            refine pure_ (i := 5) (N := some 48) (v := ?_) (a' := ?_) (Goto.bs 10 39) rfl rfl (any_of HT_.out (by kernel_rfl)) (fun _ _ _ h => h) (Or.inl ⟨by rfl, ?_⟩) ?_ ?_
            rotate_left
            ·
             intro w'
             go_simp
             with_reducible rfl
            rotate_left
            ·
             exact Goto.ap
            refine take_ (i := 3) (N := some 46) (v := ?_) (a' := ?_) (Goto.bs 10 47) rfl rfl (take_ofW HT_.out HW_.out (by kernel_rfl)) (fun _ _ _ h => h) (Or.inl ⟨by rfl, ?_⟩) hHeld ?_ ?_
            rotate_left
            ·
             rintro w' ⟨s0, s1, s2, s3, s4⟩
             go_simp
             with_reducible rfl
            rotate_left
            ·
             exact Goto.ap
            refine pure_ (i := 4) (N := some 47) (v := ?_) (a' := ?_) (Goto.bs 10 63) rfl rfl (any_of HT_.out (by kernel_rfl)) (fun _ _ _ h => h) (Or.inl ⟨by rfl, ?_⟩) ?_ ?_
            rotate_left
            ·
             intro w'
             go_simp
             with_reducible rfl
            rotate_left
            ·
             exact Goto.ap
            refine take_ (i := 6) (N := some 49) (v := ?_) (a' := ?_) (Goto.bs 10 127) rfl rfl (take_ofW HT_.out HW_.out (by kernel_rfl)) (fun _ _ _ h => h) (Or.inl ⟨by rfl, ?_⟩) hHeld ?_ ?_
            rotate_left
            ·
             rintro w' ⟨s0, s1, s2, s3, s4⟩
             go_simp
             with_reducible rfl
            rotate_left
            ·
             exact Goto.ap
            refine pure_ (i := 7) (N := some 50) (v := ?_) (a' := ?_) (Goto.bs 10 255) rfl rfl (any_of HT_.out (by kernel_rfl)) (fun _ _ _ h => h) (Or.inl ⟨by rfl, ?_⟩) ?_ ?_
            rotate_left
            ·
             intro w'
             go_simp
             with_reducible rfl
            rotate_left
            ·
             exact Goto.ap
            refine pure_ (i := 8) (N := some 51) (v := ?_) (a' := ?_) (Goto.bs 10 511) rfl rfl (any_of HT_.out (by kernel_rfl)) (fun _ _ _ h => h) (Or.inl ⟨by rfl, ?_⟩) ?_ ?_
            rotate_left
            ·
             intro w'
             go_simp
             with_reducible rfl
            rotate_left
            ·
             exact Goto.ap
            refine pure_ (i := 9) (N := some 11) (v := ?_) (a' := ?_) (Goto.bs 10 1023) rfl rfl (any_of HT_.out (by kernel_rfl)) (fun _ _ _ h => h) (Or.inl ⟨by rfl, ?_⟩) ?_ ?_
            rotate_left
            ·
             intro w'
             go_simp
             with_reducible rfl
            rotate_left
            ·
             exact Goto.ap
            refine done_ (done_of HT_.out (by kernel_rfl)) ?_
            try go_wp2_with (first | ((with_reducible refine gate_callee (f := 20) rfl ?_); refine goesL_ (some 54) rfl rfl Try.func20 (by kernel_rfl) rfl #[.pointer (some ⟨gb404, 0, none⟩), .int .i64 (Int.tmod (wrap64 (rd l1 x10_2)) (l0_3.length : Int))] rfl (by (try simp only [List.map_toArray, List.map_cons, List.map_nil]); first | done | rfl | (simp only [List.length_drop, List.length_take]; rfl)) ?_; (with_reducible refine (route_Routes_Offer.calls gb404 t405 t406 A0_2 c0_2 l0_2 A0_3 c0_3 l0_3 (fun k_ => some k_ = (u405004 : Value).ownBlock) u405004 x405004_2 (Int.tmod (wrap64 (rd l1 x10_2)) (l0_3.length : Int)) t417 t420 w _ ?side1 ?side2 ?side3 ?side4 ?side5 ?side6 ?side7 ?side8 A36.out).mono ?_); (case side1 => exact by (with_reducible repeat first | refine blk_drewN ?_ _ | refine blk_drew ?_ | refine blk_alloc ?_ _); exact BK404.out); (case side2 => exact GE404.out); (case side3 => repeat (first | (with_reducible first | exact HB.out | apply below_alloc | apply pw_below_drewN | apply below_drew1 | refine below_set ?_ GE400.out | refine below_set ?_ GE404.out | refine below_set ?_ GE410.out) | exact HB.out)); (case side4 => exact Kd.C_kept_came (Kd.heap_slice 3 (Kd.heap_int .i64)) HR0_2.out (Goto.hx HB) (fun k_ hs_ => Or.elim hs_ (fun hs_ => (fun e_ => Kd.R_base HO_405004.out k_ e_.symm) hs_) (fun e_ => (by rw [e_]; exact GE404.out)))); (case side5 => exact HC0_2.out); (case side6 => exact Kd.C_kept_came k44_heap HR0_3.out (Goto.hx HB) (fun k_ hs_ => Or.elim hs_ (fun hs_ => (fun e_ => Kd.R_base HO_405004.out k_ e_.symm) hs_) (fun e_ => (by rw [e_]; exact GE404.out)))); (case side7 => exact HC0_3.out); (case side8 => exact Kd.R_tight rfl HO_405004.out); rintro e w47 ⟨v418, v421, rfl, ho0, ho1, hi, hb, hkp⟩; refine ⟨_, rfl, ?_⟩; have n0_ := Goto.m0 (Kd.R_mono (ok' := fun k_ => some k_ ≠ (v418 : Value).ownBlock ∧ some k_ ≠ (v421 : Value).ownBlock) (Kd.R_keptB ((Kd.R_types HO_411004.out BK404.out (by decide))) hkp (fun k_ hk_ hs_ => Or.elim hs_ (fun hs_ => (hk_.1) hs_) (fun e_ => (hk_.2) e_))) (fun k_ hk_ => ⟨fun e_ => Or.elim (ho0.1 k_ e_.symm).1 (fun hs_ => hk_.2.1 (.inl hs_)) (fun hn_ => Nat.not_le.2 hk_.2.2 hn_), fun e_ => Or.elim (ho1.1 k_ e_.symm).1 (fun hs_ => hk_.2.1 (.inl hs_)) (fun hn_ => Nat.not_le.2 hk_.2.2 hn_)⟩)); have n1_ := Goto.m0 (blk_kept (Goto.bx BK400) hkp (fun hs_ => Or.elim hs_ (fun hs_ => (fun e_ => (Kd.R_ne HO_405004.out BK400.out (by decide)) e_) hs_) (fun e_ => NB400_404.out e_))); have n2_ := Goto.m0 (hi); have n3_ := Goto.m0 (blk_kept (Goto.bx BK410) hkp (fun hs_ => Or.elim hs_ (fun hs_ => (fun e_ => (Kd.R_ne HO_405004.out BK410.out (by decide)) e_) hs_) (fun e_ => NB410_404.out e_))); have n4_ := Goto.m0 (Kd.R_mono (ok' := fun k_ => some k_ ≠ (v421 : Value).ownBlock ∧ some k_ ≠ (u411004 : Value).ownBlock) ho0 (fun k_ hk_ => ⟨hk_.2, Or.elim hk_.1 (fun hs_ => fun e_ => ((((Kd.R_types HO_411004.out BK404.out (by decide))).1 k_ e_.symm).1) hs_) (fun hn_ => (Kd.fresh' (Kd.R_lt (by (with_reducible repeat (first | apply Kd.R_alloc | apply Kd.R_drewN | apply Kd.R_drew)); exact HO_411004.out)) k_ hn_))⟩)); have n5_ := Goto.m0 (Kd.R_mono (ok' := fun k_ => some k_ ≠ (v418 : Value).ownBlock ∧ some k_ ≠ (u411004 : Value).ownBlock) ho1 (fun k_ hk_ => ⟨hk_.2, Or.elim hk_.1 (fun hs_ => fun e_ => ((((Kd.R_types HO_411004.out BK404.out (by decide))).1 k_ e_.symm).1) hs_) (fun hn_ => (Kd.fresh' (Kd.R_lt (by (with_reducible repeat (first | apply Kd.R_alloc | apply Kd.R_drewN | apply Kd.R_drew)); exact HO_411004.out)) k_ hn_))⟩)); have n6_ := Goto.m0 (hb); clear HO_411004; clear BK400; clear BK404; clear BK410; clear HB; clear HO_405004; have HO_411004 := n0_; have BK400 := n1_; have BK404 := n2_; have BK410 := n3_; have HO419 := n4_; have HO422 := n5_; have HB := n6_; clear n0_ n1_ n2_ n3_ n4_ n5_ n6_; (try clear hb); (try clear hkp); (try clear ho0); (try clear ho1)))
            go_roundg k2
            case measure => have := HJ5.out; have := HK2.out; omega
            case rel => exact ⟨(wrap64 (x10_2 + 1)), (t420), (x411004_2), (v421), (u411004), (by first | rfl | (simp; done) | (simp [*]; done)), H', ⟨by have := HJ5.out; have := HK2.out; omega⟩, ⟨by (with_reducible repeat (first | apply Kd.R_alloc | apply Kd.R_drewN | apply Kd.R_drew)); exact Kd.R_mono HO422.out (fun _ hk => hk.2)⟩, ⟨by (with_reducible repeat (first | apply Kd.R_alloc | apply Kd.R_drewN | apply Kd.R_drew)); exact Kd.R_mono HO_411004.out (fun _ hk => hk.2)⟩, ⟨Goto.bx BK400⟩, ⟨Goto.bx BK404⟩, ⟨Goto.bx BK410⟩, ⟨Goto.hx HB⟩⟩
         ·
          rw [if_neg c34] at H
          exact absurd H (by simp)
        ·
         rw [if_neg c33] at H
         have c33b0 : decide (x10_2 < (l1.length : Int)) = false := decide_eq_false c33
         clear c33
         replace H := Option.bind_eq_some_iff.mp H
         obtain ⟨⟨t430, t431⟩, A480, H⟩ := H
         replace H : ((route_Routes_Turn.f t411 t412 l0_2 l0_3 x411004_2 (Int.tmod (wrap64 (a2)) (l0_3.length : Int))).bind fun bt434 => (if t430 = bt434.1 then ((route_Routes_Now.f t405 t406 l0_2 l0_3 t431 (Int.tmod (wrap64 (a2)) (l0_3.length : Int))).bind fun bt438 => ((route_Routes_Now.f t411 t412 l0_2 l0_3 bt434.2 (Int.tmod (wrap64 (a2)) (l0_3.length : Int))).bind fun bt444 => ((tontineref1_SameInts.f k2 bt438.1 bt444.1).bind fun t450 => (some t450)))) else (some false))) = some r := H
         have A48 := Goto.m0 A480
         clear A480
         replace H := Option.bind_eq_some_iff.mp H
         obtain ⟨⟨t434, t435⟩, A490, H⟩ := H
         replace H : (if t430 = t434 then ((route_Routes_Now.f t405 t406 l0_2 l0_3 t431 (Int.tmod (wrap64 (a2)) (l0_3.length : Int))).bind fun bt438 => ((route_Routes_Now.f t411 t412 l0_2 l0_3 t435 (Int.tmod (wrap64 (a2)) (l0_3.length : Int))).bind fun bt444 => ((tontineref1_SameInts.f k2 bt438.1 bt444.1).bind fun t450 => (some t450)))) else (some false)) = some r := H
         have A49 := Goto.m0 A490
         clear A490
         by_cases c50 : t430 = t434
         ·
          rw [if_pos c50] at H
          have c50b0 : (t430 == t434) = true := beq_iff_eq.mpr c50
          have c50b1 : (t430 != t434) = false := bne_eq_false_iff_eq.mpr c50
          clear c50
          replace H := Option.bind_eq_some_iff.mp H
          obtain ⟨⟨t438, t441⟩, A510, H⟩ := H
          replace H : ((route_Routes_Now.f t411 t412 l0_2 l0_3 t435 (Int.tmod (wrap64 (a2)) (l0_3.length : Int))).bind fun bt444 => ((tontineref1_SameInts.f k2 t438 bt444.1).bind fun t450 => (some t450))) = some r := H
          have A51 := Goto.m0 A510
          clear A510
          replace H := Option.bind_eq_some_iff.mp H
          obtain ⟨⟨t444, t447⟩, A520, H⟩ := H
          replace H : ((tontineref1_SameInts.f k2 t438 t444).bind fun t450 => (some t450)) = some r := H
          have A52 := Goto.m0 A520
          clear A520
          replace H := Option.bind_eq_some_iff.mp H
          obtain ⟨t450, A530, H⟩ := H
          have A53 := Goto.m0 A530
          clear A530
          obtain rfl := Option.some.inj H
          go_wp2_with (first | ((with_reducible refine gate_callee (f := 22) rfl ?_); refine goesL_ (some 68) rfl rfl Try.func22 (by kernel_rfl) rfl #[.pointer (some ⟨gb404, 0, none⟩), .int .i64 (Int.tmod (wrap64 (a2)) (l0_3.length : Int))] rfl (by (try simp only [List.map_toArray, List.map_cons, List.map_nil]); first | done | rfl | (simp only [List.length_drop, List.length_take]; rfl)) ?_; (with_reducible refine (route_Routes_Turn.calls gb404 t405 t406 A0_2 c0_2 l0_2 A0_3 c0_3 l0_3 (fun k_ => some k_ = (u405004 : Value).ownBlock) u405004 x405004_2 (Int.tmod (wrap64 (a2)) (l0_3.length : Int)) t430 t431 w _ ?side1 ?side2 ?side3 ?side4 ?side5 ?side6 ?side7 ?side8 A48.out).mono ?_); (case side1 => exact by (with_reducible repeat first | refine blk_drewN ?_ _ | refine blk_drew ?_ | refine blk_alloc ?_ _); exact BK404.out); (case side2 => exact GE404.out); (case side3 => repeat (first | (with_reducible first | exact HB.out | apply below_alloc | apply pw_below_drewN | apply below_drew1 | refine below_set ?_ GE400.out | refine below_set ?_ GE404.out | refine below_set ?_ GE410.out) | exact HB.out)); (case side4 => exact Kd.C_kept_came (Kd.heap_slice 3 (Kd.heap_int .i64)) HR0_2.out (Goto.hx HB) (fun k_ hs_ => Or.elim hs_ (fun hs_ => (fun e_ => Kd.R_base HO_405004.out k_ e_.symm) hs_) (fun e_ => (by rw [e_]; exact GE404.out)))); (case side5 => exact HC0_2.out); (case side6 => exact Kd.C_kept_came k44_heap HR0_3.out (Goto.hx HB) (fun k_ hs_ => Or.elim hs_ (fun hs_ => (fun e_ => Kd.R_base HO_405004.out k_ e_.symm) hs_) (fun e_ => (by rw [e_]; exact GE404.out)))); (case side7 => exact HC0_3.out); (case side8 => exact Kd.R_tight rfl HO_405004.out); rintro e w54 ⟨v432, rfl, ho0, hi, hb, hkp⟩; refine ⟨_, rfl, ?_⟩; have n0_ := Goto.m0 (Kd.R_mono (ok' := fun k_ => some k_ ≠ (v432 : Value).ownBlock) (Kd.R_keptB ((Kd.R_types HO_411004.out BK404.out (by decide))) hkp (fun k_ hk_ hs_ => Or.elim hs_ (fun hs_ => (hk_.1) hs_) (fun e_ => (hk_.2) e_))) (fun k_ hk_ => fun e_ => Or.elim (ho0.1 k_ e_.symm) (fun hs_ => hk_.2.1 (.inl hs_)) (fun hn_ => Nat.not_le.2 hk_.2.2 hn_))); have n1_ := Goto.m0 (blk_kept (Goto.bx BK400) hkp (fun hs_ => Or.elim hs_ (fun hs_ => (fun e_ => (Kd.R_ne HO_405004.out BK400.out (by decide)) e_) hs_) (fun e_ => NB400_404.out e_))); have n2_ := Goto.m0 (hi); have n3_ := Goto.m0 (blk_kept (Goto.bx BK410) hkp (fun hs_ => Or.elim hs_ (fun hs_ => (fun e_ => (Kd.R_ne HO_405004.out BK410.out (by decide)) e_) hs_) (fun e_ => NB410_404.out e_))); have n4_ := Goto.m0 (Kd.R_mono (ok' := fun k_ => some k_ ≠ (u411004 : Value).ownBlock) ho0 (fun k_ hk_ => Or.elim hk_ (fun hs_ => fun e_ => ((((Kd.R_types HO_411004.out BK404.out (by decide))).1 k_ e_.symm).1) hs_) (fun hn_ => (Kd.fresh' (Kd.R_lt (by (with_reducible repeat (first | apply Kd.R_alloc | apply Kd.R_drewN | apply Kd.R_drew)); exact HO_411004.out)) k_ hn_)))); have n5_ := Goto.m0 (hb); clear HO_411004; clear BK400; clear BK404; clear BK410; clear HB; clear HO_405004; have HO_411004 := n0_; have BK400 := n1_; have BK404 := n2_; have BK410 := n3_; have HO433 := n4_; have HB := n5_; clear n0_ n1_ n2_ n3_ n4_ n5_; (try clear hb); (try clear hkp); (try clear ho0)) | ((with_reducible refine gate_callee (f := 22) rfl ?_); refine goesL_ (some 71) rfl rfl Try.func22 (by kernel_rfl) rfl #[.pointer (some ⟨gb410, 0, none⟩), .int .i64 (Int.tmod (wrap64 (a2)) (l0_3.length : Int))] rfl (by (try simp only [List.map_toArray, List.map_cons, List.map_nil]); first | done | rfl | (simp only [List.length_drop, List.length_take]; rfl)) ?_; (with_reducible refine (route_Routes_Turn.calls gb410 t411 t412 A0_2 c0_2 l0_2 A0_3 c0_3 l0_3 (fun k_ => some k_ = (u411004 : Value).ownBlock) u411004 x411004_2 (Int.tmod (wrap64 (a2)) (l0_3.length : Int)) t434 t435 w _ ?side1 ?side2 ?side3 ?side4 ?side5 ?side6 ?side7 ?side8 A49.out).mono ?_); (case side1 => exact by (with_reducible repeat first | refine blk_drewN ?_ _ | refine blk_drew ?_ | refine blk_alloc ?_ _); exact BK410.out); (case side2 => exact GE410.out); (case side3 => repeat (first | (with_reducible first | exact HB.out | apply below_alloc | apply pw_below_drewN | apply below_drew1 | refine below_set ?_ GE400.out | refine below_set ?_ GE404.out | refine below_set ?_ GE410.out) | exact HB.out)); (case side4 => exact Kd.C_kept_came (Kd.heap_slice 3 (Kd.heap_int .i64)) HR0_2.out (Goto.hx HB) (fun k_ hs_ => Or.elim hs_ (fun hs_ => (fun e_ => Kd.R_base HO_411004.out k_ e_.symm) hs_) (fun e_ => (by rw [e_]; exact GE410.out)))); (case side5 => exact HC0_2.out); (case side6 => exact Kd.C_kept_came k44_heap HR0_3.out (Goto.hx HB) (fun k_ hs_ => Or.elim hs_ (fun hs_ => (fun e_ => Kd.R_base HO_411004.out k_ e_.symm) hs_) (fun e_ => (by rw [e_]; exact GE410.out)))); (case side7 => exact HC0_3.out); (case side8 => exact Kd.R_tight rfl HO_411004.out); rintro e w55 ⟨v436, rfl, ho0, hi, hb, hkp⟩; refine ⟨_, rfl, ?_⟩; have n0_ := Goto.m0 (blk_kept (Goto.bx BK400) hkp (fun hs_ => Or.elim hs_ (fun hs_ => (fun e_ => (Kd.R_ne HO_411004.out BK400.out (by decide)) e_) hs_) (fun e_ => NB400_410.out e_))); have n1_ := Goto.m0 (blk_kept (Goto.bx BK404) hkp (fun hs_ => Or.elim hs_ (fun hs_ => (fun e_ => (Kd.R_ne HO_411004.out BK404.out (by decide)) e_) hs_) (fun e_ => NB404_410.out e_))); have n2_ := Goto.m0 (hi); have n3_ := Goto.m0 (Kd.R_mono (ok' := fun k_ => some k_ ≠ (v436 : Value).ownBlock) (Kd.R_keptB ((Kd.R_types HO433.out BK410.out (by decide))) hkp (fun k_ hk_ hs_ => Or.elim hs_ (fun hs_ => (hk_.1) hs_) (fun e_ => (hk_.2) e_))) (fun k_ hk_ => fun e_ => Or.elim (ho0.1 k_ e_.symm) (fun hs_ => hk_.2.1 (.inl hs_)) (fun hn_ => Nat.not_le.2 hk_.2.2 hn_))); have n4_ := Goto.m0 (Kd.R_mono (ok' := fun k_ => some k_ ≠ (v432 : Value).ownBlock) ho0 (fun k_ hk_ => Or.elim hk_ (fun hs_ => fun e_ => ((((Kd.R_types HO433.out BK410.out (by decide))).1 k_ e_.symm).1) hs_) (fun hn_ => (Kd.fresh' (Kd.R_lt (by (with_reducible repeat (first | apply Kd.R_alloc | apply Kd.R_drewN | apply Kd.R_drew)); exact HO433.out)) k_ hn_)))); have n5_ := Goto.m0 (hb); clear BK400; clear BK404; clear BK410; clear HO433; clear HB; clear HO_411004; have BK400 := n0_; have BK404 := n1_; have BK410 := n2_; have HO433 := n3_; have HO437 := n4_; have HB := n5_; clear n0_ n1_ n2_ n3_ n4_ n5_; (try clear hb); (try clear hkp); (try clear ho0)) | (go_at_call 18; (with_reducible refine (route_Routes_Now.calls gb404 t405 t406 A0_2 c0_2 l0_2 A0_3 c0_3 l0_3 (fun k_ => some k_ = (v432 : Value).ownBlock) v432 t431 (Int.tmod (wrap64 (a2)) (l0_3.length : Int)) t438 t441 w _ ?side1 ?side2 ?side3 ?side4 ?side5 ?side6 ?side7 ?side8 A51.out).mono ?_); (case side1 => exact by (with_reducible repeat first | refine blk_drewN ?_ _ | refine blk_drew ?_ | refine blk_alloc ?_ _); exact BK404.out); (case side2 => exact GE404.out); (case side3 => repeat (first | (with_reducible first | exact HB.out | apply below_alloc | apply pw_below_drewN | apply below_drew1 | refine below_set ?_ GE400.out | refine below_set ?_ GE404.out | refine below_set ?_ GE410.out) | exact HB.out)); (case side4 => exact Kd.C_kept_came (Kd.heap_slice 3 (Kd.heap_int .i64)) HR0_2.out (Goto.hx HB) (fun k_ hs_ => Or.elim hs_ (fun hs_ => (fun e_ => Kd.R_base HO433.out k_ e_.symm) hs_) (fun e_ => (by rw [e_]; exact GE404.out)))); (case side5 => exact HC0_2.out); (case side6 => exact Kd.C_kept_came k44_heap HR0_3.out (Goto.hx HB) (fun k_ hs_ => Or.elim hs_ (fun hs_ => (fun e_ => Kd.R_base HO433.out k_ e_.symm) hs_) (fun e_ => (by rw [e_]; exact GE404.out)))); (case side7 => exact HC0_3.out); (case side8 => exact Kd.R_tight rfl HO433.out); rintro e w56 ⟨v439, v442, rfl, ho0, ho1, hi, hb, hkp⟩; have n0_ := Goto.m0 (blk_kept (Goto.bx BK400) hkp (fun hs_ => Or.elim hs_ (fun hs_ => (fun e_ => (Kd.R_ne HO433.out BK400.out (by decide)) e_) hs_) (fun e_ => NB400_404.out e_))); have n1_ := Goto.m0 (hi); have n2_ := Goto.m0 (blk_kept (Goto.bx BK410) hkp (fun hs_ => Or.elim hs_ (fun hs_ => (fun e_ => (Kd.R_ne HO433.out BK410.out (by decide)) e_) hs_) (fun e_ => NB410_404.out e_))); have n3_ := Goto.m0 (Kd.R_mono (ok' := fun k_ => some k_ ≠ (v439 : Value).ownBlock ∧ some k_ ≠ (v442 : Value).ownBlock) (Kd.R_keptB ((Kd.R_types HO437.out BK404.out (by decide))) hkp (fun k_ hk_ hs_ => Or.elim hs_ (fun hs_ => (hk_.1) hs_) (fun e_ => (hk_.2) e_))) (fun k_ hk_ => ⟨fun e_ => Or.elim (ho0.1 k_ e_.symm).1 (fun hs_ => hk_.2.1 (.inl hs_)) (fun hn_ => Nat.not_le.2 hk_.2.2 hn_), fun e_ => Or.elim (ho1.1 k_ e_.symm).1 (fun hs_ => hk_.2.1 (.inl hs_)) (fun hn_ => Nat.not_le.2 hk_.2.2 hn_)⟩)); have n4_ := Goto.m0 (Kd.R_mono (ok' := fun k_ => some k_ ≠ (v442 : Value).ownBlock ∧ some k_ ≠ (v436 : Value).ownBlock) ho0 (fun k_ hk_ => ⟨hk_.2, Or.elim hk_.1 (fun hs_ => fun e_ => ((((Kd.R_types HO437.out BK404.out (by decide))).1 k_ e_.symm).1) hs_) (fun hn_ => (Kd.fresh' (Kd.R_lt (by (with_reducible repeat (first | apply Kd.R_alloc | apply Kd.R_drewN | apply Kd.R_drew)); exact HO437.out)) k_ hn_))⟩)); have n5_ := Goto.m0 (Kd.R_mono (ok' := fun k_ => some k_ ≠ (v439 : Value).ownBlock ∧ some k_ ≠ (v436 : Value).ownBlock) ho1 (fun k_ hk_ => ⟨hk_.2, Or.elim hk_.1 (fun hs_ => fun e_ => ((((Kd.R_types HO437.out BK404.out (by decide))).1 k_ e_.symm).1) hs_) (fun hn_ => (Kd.fresh' (Kd.R_lt (by (with_reducible repeat (first | apply Kd.R_alloc | apply Kd.R_drewN | apply Kd.R_drew)); exact HO437.out)) k_ hn_))⟩)); have n6_ := Goto.m0 (hb); clear BK400; clear BK404; clear BK410; clear HO437; clear HB; clear HO433; have BK400 := n0_; have BK404 := n1_; have BK410 := n2_; have HO437 := n3_; have HO440 := n4_; have HO443 := n5_; have HB := n6_; clear n0_ n1_ n2_ n3_ n4_ n5_ n6_; (try clear hb); (try clear hkp); (try clear ho0); (try clear ho1)) | (go_at_call 18; (with_reducible refine (route_Routes_Now.calls gb410 t411 t412 A0_2 c0_2 l0_2 A0_3 c0_3 l0_3 (fun k_ => some k_ = (v436 : Value).ownBlock) v436 t435 (Int.tmod (wrap64 (a2)) (l0_3.length : Int)) t444 t447 w _ ?side1 ?side2 ?side3 ?side4 ?side5 ?side6 ?side7 ?side8 A52.out).mono ?_); (case side1 => exact by (with_reducible repeat first | refine blk_drewN ?_ _ | refine blk_drew ?_ | refine blk_alloc ?_ _); exact BK410.out); (case side2 => exact GE410.out); (case side3 => repeat (first | (with_reducible first | exact HB.out | apply below_alloc | apply pw_below_drewN | apply below_drew1 | refine below_set ?_ GE400.out | refine below_set ?_ GE404.out | refine below_set ?_ GE410.out) | exact HB.out)); (case side4 => exact Kd.C_kept_came (Kd.heap_slice 3 (Kd.heap_int .i64)) HR0_2.out (Goto.hx HB) (fun k_ hs_ => Or.elim hs_ (fun hs_ => (fun e_ => Kd.R_base HO437.out k_ e_.symm) hs_) (fun e_ => (by rw [e_]; exact GE410.out)))); (case side5 => exact HC0_2.out); (case side6 => exact Kd.C_kept_came k44_heap HR0_3.out (Goto.hx HB) (fun k_ hs_ => Or.elim hs_ (fun hs_ => (fun e_ => Kd.R_base HO437.out k_ e_.symm) hs_) (fun e_ => (by rw [e_]; exact GE410.out)))); (case side7 => exact HC0_3.out); (case side8 => exact Kd.R_tight rfl HO437.out); rintro e w57 ⟨v445, v448, rfl, ho0, ho1, hi, hb, hkp⟩; have n0_ := Goto.m0 (blk_kept (Goto.bx BK400) hkp (fun hs_ => Or.elim hs_ (fun hs_ => (fun e_ => (Kd.R_ne HO437.out BK400.out (by decide)) e_) hs_) (fun e_ => NB400_410.out e_))); have n1_ := Goto.m0 (blk_kept (Goto.bx BK404) hkp (fun hs_ => Or.elim hs_ (fun hs_ => (fun e_ => (Kd.R_ne HO437.out BK404.out (by decide)) e_) hs_) (fun e_ => NB404_410.out e_))); have n2_ := Goto.m0 (hi); have n3_ := Goto.m0 (Kd.R_mono (ok' := fun k_ => some k_ ≠ (v442 : Value).ownBlock ∧ some k_ ≠ (v445 : Value).ownBlock ∧ some k_ ≠ (v448 : Value).ownBlock) (Kd.R_keptB ((Kd.R_types HO440.out BK410.out (by decide))) hkp (fun k_ hk_ hs_ => Or.elim hs_ (fun hs_ => (hk_.1.2) hs_) (fun e_ => (hk_.2) e_))) (fun k_ hk_ => ⟨hk_.1.1.1, fun e_ => Or.elim (ho0.1 k_ e_.symm).1 (fun hs_ => hk_.2.1 (.inl hs_)) (fun hn_ => Nat.not_le.2 hk_.2.2 hn_), fun e_ => Or.elim (ho1.1 k_ e_.symm).1 (fun hs_ => hk_.2.1 (.inl hs_)) (fun hn_ => Nat.not_le.2 hk_.2.2 hn_)⟩)); have n4_ := Goto.m0 (Kd.R_mono (ok' := fun k_ => some k_ ≠ (v439 : Value).ownBlock ∧ some k_ ≠ (v445 : Value).ownBlock ∧ some k_ ≠ (v448 : Value).ownBlock) (Kd.R_keptB ((Kd.R_types HO443.out BK410.out (by decide))) hkp (fun k_ hk_ hs_ => Or.elim hs_ (fun hs_ => (hk_.1.2) hs_) (fun e_ => (hk_.2) e_))) (fun k_ hk_ => ⟨hk_.1.1.1, fun e_ => Or.elim (ho0.1 k_ e_.symm).1 (fun hs_ => hk_.2.1 (.inl hs_)) (fun hn_ => Nat.not_le.2 hk_.2.2 hn_), fun e_ => Or.elim (ho1.1 k_ e_.symm).1 (fun hs_ => hk_.2.1 (.inl hs_)) (fun hn_ => Nat.not_le.2 hk_.2.2 hn_)⟩)); have n5_ := Goto.m0 (Kd.R_mono (ok' := fun k_ => some k_ ≠ (v448 : Value).ownBlock ∧ some k_ ≠ (v439 : Value).ownBlock ∧ some k_ ≠ (v442 : Value).ownBlock) ho0 (fun k_ hk_ => ⟨hk_.2, Or.elim hk_.1 (fun hs_ => fun e_ => ((((Kd.R_types HO440.out BK410.out (by decide))).1 k_ e_.symm).1.2) hs_) (fun hn_ => (Kd.fresh' (Kd.R_lt (by (with_reducible repeat (first | apply Kd.R_alloc | apply Kd.R_drewN | apply Kd.R_drew)); exact HO440.out)) k_ hn_)), Or.elim hk_.1 (fun hs_ => fun e_ => ((((Kd.R_types HO443.out BK410.out (by decide))).1 k_ e_.symm).1.2) hs_) (fun hn_ => (Kd.fresh' (Kd.R_lt (by (with_reducible repeat (first | apply Kd.R_alloc | apply Kd.R_drewN | apply Kd.R_drew)); exact HO443.out)) k_ hn_))⟩)); have n6_ := Goto.m0 (Kd.R_mono (ok' := fun k_ => some k_ ≠ (v445 : Value).ownBlock ∧ some k_ ≠ (v439 : Value).ownBlock ∧ some k_ ≠ (v442 : Value).ownBlock) ho1 (fun k_ hk_ => ⟨hk_.2, Or.elim hk_.1 (fun hs_ => fun e_ => ((((Kd.R_types HO440.out BK410.out (by decide))).1 k_ e_.symm).1.2) hs_) (fun hn_ => (Kd.fresh' (Kd.R_lt (by (with_reducible repeat (first | apply Kd.R_alloc | apply Kd.R_drewN | apply Kd.R_drew)); exact HO440.out)) k_ hn_)), Or.elim hk_.1 (fun hs_ => fun e_ => ((((Kd.R_types HO443.out BK410.out (by decide))).1 k_ e_.symm).1.2) hs_) (fun hn_ => (Kd.fresh' (Kd.R_lt (by (with_reducible repeat (first | apply Kd.R_alloc | apply Kd.R_drewN | apply Kd.R_drew)); exact HO443.out)) k_ hn_))⟩)); have n7_ := Goto.m0 (hb); clear BK400; clear BK404; clear BK410; clear HO440; clear HO443; clear HB; clear HO437; have BK400 := n0_; have BK404 := n1_; have BK410 := n2_; have HO440 := n3_; have HO443 := n4_; have HO446 := n5_; have HO449 := n6_; have HB := n7_; clear n0_ n1_ n2_ n3_ n4_ n5_ n6_ n7_; (try clear hb); (try clear hkp); (try clear ho0); (try clear ho1); obtain ⟨Ao58, co58, eo58⟩ := Kd.R_slice HO440.out; subst eo58; obtain ⟨Ao59, co59, eo59⟩ := Kd.R_slice HO446.out; subst eo59) | (go_at_call 17; (with_reducible refine (tontineref1_SameInts.calls k2 _ _ t438 _ _ t444 t450 _ ?side1 ?side2 ?side3 ?side4 A53.out).mono ?_); (case side1 => repeat (first | exact (Kd.R_reads' HO440.out).2.2 | (with_reducible refine Kd.C_alloc ?_ _) | (with_reducible refine Kd.C_drewN ?_ _) | (with_reducible refine Kd.C_drew ?_))); (case side2 => exact (Kd.R_reads' HO440.out).2.1); (case side3 => repeat (first | exact (Kd.R_reads' HO446.out).2.2 | (with_reducible refine Kd.C_alloc ?_ _) | (with_reducible refine Kd.C_drewN ?_ _) | (with_reducible refine Kd.C_drew ?_))); (case side4 => exact (Kd.R_reads' HO446.out).2.1); rintro e w' ⟨rfl, ⟨nd, rfl⟩⟩))
          go_ret
          exact ⟨by first | rfl | (simp [errW_none, errW_some] <;> rfl) | (simp [*, errW_none, errW_some] <;> rfl), by repeat (first | (with_reducible first | exact HB.out | apply below_alloc | apply pw_below_drewN | apply below_drew1 | refine below_set ?_ GE400.out | refine below_set ?_ GE404.out | refine below_set ?_ GE410.out) | exact HB.out)⟩
         ·
          rw [if_neg c50] at H
          have c50b0 : (t430 == t434) = false := beq_eq_false_iff_ne.mpr c50
          have c50b1 : (t430 != t434) = true := bne_iff_ne.mpr c50
          exact absurd ((Option.some.inj H).trans HRT.out) (by decide)
 ·
  replace c5 := Bool.eq_false_iff.mpr c5
  subst c5
  rw [if_neg (show ¬ (false = true) by decide)] at H
  exact absurd ((Option.some.inj H).trans HRT.out) (by decide)

end Go.Proofs.Ytbhfkhcedjgpdaa.P
