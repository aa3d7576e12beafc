/- Printed by a program of this workplace (a turned copy of the kit's optional print), out of the translation; not trusted: Lean checks it. -/
import Derived.Test.YtbhfkhcedjgpdaaPx0
import Derived.Test.YtbhfkhcedjgpdaaPx2
import Derived.Test.YtbhfkhcedjgpdaaPx4
import Derived.Test.YtbhfkhcedjgpdaaPx5
import Derived.Test.YtbhfkhcedjgpdaaPx6
import Derived.Test.YtbhfkhcedjgpdaaPx7
import Derived.Test.YtbhfkhcedjgpdaaPx13
namespace Go.Proofs.Ytbhfkhcedjgpdaa.P
open Go.RowKit Go.Proofs.YtbhfkhcedjgpdaaW.PrintWords Go.Proofs.YtbhfkhcedjgpdaaW.PrintLast Go.Proofs.YtbhfkhcedjgpdaaW.PrintMore
attribute [local go_sem] max2_int min2_int max_two min_two max_three min_three max_four min_four   -- for this text's walks alone
set_option linter.unusedVariables false
set_option linter.unusedSimpArgs false

/-! ### tontinelaw16_RouteRounds: function 4 -/
mutual
def tontinelaw16_RouteRounds.j0 : Nat → Int → Int → Bool → Int → Int → List (List Int) → List (S44) → Option (Bool)
  | 0, _, _, _, _, _, _, _ => none
  | k + 1, x1, x2, x20, x362000, x362001, x362002, x362003 => if x20 = true then (some true) else ((route_New.f x362000 x362001 x362002 x362003).bind fun bt366 => (if (x362003.length : Int) = 0 then (none) else (if 0 ≤ (Int.tmod (wrap64 (x1)) (x362003.length : Int)) then (if (Int.tmod (wrap64 (x1)) (x362003.length : Int)) < (x362003.length : Int) then (tontinelaw16_RouteRounds.l0 k x2 (Int.tmod (wrap64 (x1)) (x362003.length : Int)) (((rd_T44 x362003 (Int.tmod (wrap64 (x1)) (x362003.length : Int))).f1).length : Int) 0 x362000 x362001 x362002 x362003 bt366.1 bt366.2.1 x362002 x362003 bt366.2.2) else (none)) else (none))))
def tontinelaw16_RouteRounds.l0 : Nat → Int → Int → Int → Int → Int → Int → List (List Int) → List (S44) → Int → Int → List (List Int) → List (S44) → List Int → Option (Bool)
  | 0, _, _, _, _, _, _, _, _, _, _, _, _, _ => none
  | k + 1, x2, x8, x9, x10, x362000, x362001, x362002, x362003, x366000, x366001, x366002, x366003, x366004 => if x10 < (wrap64 ((wrap64 (Int.tmod x2 10)) * x9)) then ((route_Routes_Turn.f x366000 x366001 x366002 x366003 x366004 x8).bind fun bt372 => (if x9 = 0 then (none) else (if bt372.1 = (Int.tmod x10 x9) then ((route_Routes_Offer.f x366000 x366001 x366002 x366003 bt372.2 x8).bind fun bt376 => (if 0 ≤ x8 then (if x8 < (x362003.length : Int) then (if 0 ≤ (Int.tmod x10 x9) then (if (Int.tmod x10 x9) < (((rd_T44 x362003 x8).f1).length : Int) then ((tontineref1_SameInts.f k bt376.1 (rd_L1 ((rd_T44 x362003 x8).f1) (Int.tmod x10 x9))).bind fun t384 => (if t384 = true then (tontinelaw16_RouteRounds.l0 k x2 x8 x9 (wrap64 (x10 + 1)) x362000 x362001 x362002 x362003 x366000 x366001 x366002 x366003 bt376.2) else (some false))) else (none)) else (none)) else (none)) else (none))) else (some false)))) else (tontinelaw16_RouteRounds.l1 k 0 x362000 x362001 x362002 x362003 x366000 x366001 x366002 x366003 x366004)
def tontinelaw16_RouteRounds.l1 : Nat → Int → Int → Int → List (List Int) → List (S44) → Int → Int → List (List Int) → List (S44) → List Int → Option (Bool)
  | 0, _, _, _, _, _, _, _, _, _, _ => none
  | k + 1, x11, x362000, x362001, x362002, x362003, x366000, x366001, x366002, x366003, x366004 => if x11 < (x362003.length : Int) then ((route_Routes_Turn.f x366000 x366001 x366002 x366003 x366004 x11).bind fun bt385 => (if bt385.1 = 0 then (tontinelaw16_RouteRounds.l1 k (wrap64 (x11 + 1)) x362000 x362001 x362002 x362003 x366000 x366001 x366002 x366003 bt385.2) else (some false))) else (some true)
end
def tontinelaw16_RouteRounds.f (k : Nat) (a0_0 : Int) (a0_1 : Int) (l0_2 : List (List Int)) (l0_3 : List (S44)) (a1 : Int) (a2 : Int) : Option (Bool) := (tontinelaw16_known.f k).bind fun t362 => (if t362 = true then ((tontinehelp_WideConf.f k a0_0 a0_1 l0_2 l0_3).bind fun t363 => (if t363 = true then (tontinelaw16_RouteRounds.j0 k a1 a2 true a0_0 a0_1 l0_2 l0_3) else ((tontineref1_IsConf.f k a0_0 a0_1 l0_2 l0_3).bind fun t364 => (tontinelaw16_RouteRounds.j0 k a1 a2 (t364 != 0) a0_0 a0_1 l0_2 l0_3)))) else (some false))
theorem tontinelaw16_RouteRounds.mono_l : ∀ k, (∀ y0 y1 y2 y3 y4 y5 y6, LeO (tontinelaw16_RouteRounds.j0 k y0 y1 y2 y3 y4 y5 y6) (tontinelaw16_RouteRounds.j0 (k + 1) y0 y1 y2 y3 y4 y5 y6)) ∧ (∀ y0 y1 y2 y3 y4 y5 y6 y7 y8 y9 y10 y11 y12, LeO (tontinelaw16_RouteRounds.l0 k y0 y1 y2 y3 y4 y5 y6 y7 y8 y9 y10 y11 y12) (tontinelaw16_RouteRounds.l0 (k + 1) y0 y1 y2 y3 y4 y5 y6 y7 y8 y9 y10 y11 y12)) ∧ (∀ y0 y1 y2 y3 y4 y5 y6 y7 y8 y9, LeO (tontinelaw16_RouteRounds.l1 k y0 y1 y2 y3 y4 y5 y6 y7 y8 y9) (tontinelaw16_RouteRounds.l1 (k + 1) y0 y1 y2 y3 y4 y5 y6 y7 y8 y9))
  | 0 => ⟨fun _ _ _ _ _ _ _ r h => by simp [tontinelaw16_RouteRounds.j0] at h, fun _ _ _ _ _ _ _ _ _ _ _ _ _ r h => by simp [tontinelaw16_RouteRounds.l0] at h, fun _ _ _ _ _ _ _ _ _ _ r h => by simp [tontinelaw16_RouteRounds.l1] at h⟩
  | k + 1 => by
    obtain ⟨ih0, ih1, ih2⟩ := tontinelaw16_RouteRounds.mono_l k
    refine ⟨?_, ?_, ?_⟩
    · intro y0 y1 y2 y3 y4 y5 y6
      unfold tontinelaw16_RouteRounds.j0
      repeat' first
      | (with_reducible exact ih0 _ _ _ _ _ _ _)
      | (with_reducible exact ih1 _ _ _ _ _ _ _ _ _ _ _ _ _)
      | (with_reducible exact ih2 _ _ _ _ _ _ _ _ _ _)
      | (with_reducible exact tontinehelp_WideConf.mono _ _ _ _ _)
      | (with_reducible exact tontinelaw16_known.mono _)
      | (with_reducible exact tontineref1_IsConf.mono _ _ _ _ _)
      | (with_reducible exact tontineref1_SameInts.mono _ _ _)
      | (with_reducible exact LeO.refl _)
      | (with_reducible exact LeO.none _)
      | (with_reducible refine LeO.ite ?_ ?_)
      | (with_reducible refine LeO.bind ?_ (fun _ => ?_))
      | exact ih0 _ _ _ _ _ _ _
      | exact ih1 _ _ _ _ _ _ _ _ _ _ _ _ _
      | exact ih2 _ _ _ _ _ _ _ _ _ _
      | exact tontinehelp_WideConf.mono _ _ _ _ _
      | exact tontinelaw16_known.mono _
      | exact tontineref1_IsConf.mono _ _ _ _ _
      | exact tontineref1_SameInts.mono _ _ _
      | exact LeO.none _
      | refine LeO.ite ?_ ?_
      | refine LeO.bind ?_ (fun _ => ?_)
    · intro y0 y1 y2 y3 y4 y5 y6 y7 y8 y9 y10 y11 y12
      unfold tontinelaw16_RouteRounds.l0
      repeat' first
      | (with_reducible exact ih0 _ _ _ _ _ _ _)
      | (with_reducible exact ih1 _ _ _ _ _ _ _ _ _ _ _ _ _)
      | (with_reducible exact ih2 _ _ _ _ _ _ _ _ _ _)
      | (with_reducible exact tontinehelp_WideConf.mono _ _ _ _ _)
      | (with_reducible exact tontinelaw16_known.mono _)
      | (with_reducible exact tontineref1_IsConf.mono _ _ _ _ _)
      | (with_reducible exact tontineref1_SameInts.mono _ _ _)
      | (with_reducible exact LeO.refl _)
      | (with_reducible exact LeO.none _)
      | (with_reducible refine LeO.ite ?_ ?_)
      | (with_reducible refine LeO.bind ?_ (fun _ => ?_))
      | exact ih0 _ _ _ _ _ _ _
      | exact ih1 _ _ _ _ _ _ _ _ _ _ _ _ _
      | exact ih2 _ _ _ _ _ _ _ _ _ _
      | exact tontinehelp_WideConf.mono _ _ _ _ _
      | exact tontinelaw16_known.mono _
      | exact tontineref1_IsConf.mono _ _ _ _ _
      | exact tontineref1_SameInts.mono _ _ _
      | exact LeO.none _
      | refine LeO.ite ?_ ?_
      | refine LeO.bind ?_ (fun _ => ?_)
    · intro y0 y1 y2 y3 y4 y5 y6 y7 y8 y9
      unfold tontinelaw16_RouteRounds.l1
      repeat' first
      | (with_reducible exact ih0 _ _ _ _ _ _ _)
      | (with_reducible exact ih1 _ _ _ _ _ _ _ _ _ _ _ _ _)
      | (with_reducible exact ih2 _ _ _ _ _ _ _ _ _ _)
      | (with_reducible exact tontinehelp_WideConf.mono _ _ _ _ _)
      | (with_reducible exact tontinelaw16_known.mono _)
      | (with_reducible exact tontineref1_IsConf.mono _ _ _ _ _)
      | (with_reducible exact tontineref1_SameInts.mono _ _ _)
      | (with_reducible exact LeO.refl _)
      | (with_reducible exact LeO.none _)
      | (with_reducible refine LeO.ite ?_ ?_)
      | (with_reducible refine LeO.bind ?_ (fun _ => ?_))
      | exact ih0 _ _ _ _ _ _ _
      | exact ih1 _ _ _ _ _ _ _ _ _ _ _ _ _
      | exact ih2 _ _ _ _ _ _ _ _ _ _
      | exact tontinehelp_WideConf.mono _ _ _ _ _
      | exact tontinelaw16_known.mono _
      | exact tontineref1_IsConf.mono _ _ _ _ _
      | exact tontineref1_SameInts.mono _ _ _
      | exact LeO.none _
      | refine LeO.ite ?_ ?_
      | refine LeO.bind ?_ (fun _ => ?_)
theorem tontinelaw16_RouteRounds.mono : ∀ a0 a1 a2 a3 a4 a5 k, LeO (tontinelaw16_RouteRounds.f k a0 a1 a2 a3 a4 a5) (tontinelaw16_RouteRounds.f (k + 1) a0 a1 a2 a3 a4 a5) := by
 intro a0 a1 a2 a3 a4 a5 k
 obtain ⟨ih0, ih1, ih2⟩ := tontinelaw16_RouteRounds.mono_l k
 unfold tontinelaw16_RouteRounds.f
 repeat' first
   | (with_reducible exact ih0 _ _ _ _ _ _ _)
   | (with_reducible exact ih1 _ _ _ _ _ _ _ _ _ _ _ _ _)
   | (with_reducible exact ih2 _ _ _ _ _ _ _ _ _ _)
   | (with_reducible exact tontinehelp_WideConf.mono _ _ _ _ _)
   | (with_reducible exact tontinelaw16_known.mono _)
   | (with_reducible exact tontineref1_IsConf.mono _ _ _ _ _)
   | (with_reducible exact tontineref1_SameInts.mono _ _ _)
   | (with_reducible exact LeO.refl _)
   | (with_reducible exact LeO.none _)
   | (with_reducible refine LeO.ite ?_ ?_)
   | (with_reducible refine LeO.bind ?_ (fun _ => ?_))
   | exact ih0 _ _ _ _ _ _ _
   | exact ih1 _ _ _ _ _ _ _ _ _ _ _ _ _
   | exact ih2 _ _ _ _ _ _ _ _ _ _
   | exact tontinehelp_WideConf.mono _ _ _ _ _
   | exact tontinelaw16_known.mono _
   | exact tontineref1_IsConf.mono _ _ _ _ _
   | exact tontineref1_SameInts.mono _ _ _
   | exact LeO.none _
   | refine LeO.ite ?_ ?_
   | refine LeO.bind ?_ (fun _ => ?_)
def tontinelaw16_RouteRounds.T11 : Bool × List (List Nat × List Nat) := (true, [([], []), ([], []), ([0, 1], [0, 1]), ([], []), ([], []), ([3, 4], [3, 4]), ([2, 5], [2, 5]), ([6, 2], [6]), ([7], [7]), ([7], [7]), ([8, 9, 7, 7], [7, 8, 9]), ([7], [7]), ([11, 7], [7, 11]), ([7], [7]), ([12, 13, 7], [7, 12, 13]), ([14, 7], [7, 14]), ([15, 7], [7, 15]), ([7], [7]), ([7], [7]), ([17, 18, 7], [7, 17, 18]), ([16, 19, 7], [7, 16, 19]), ([20, 7], [7, 20]), ([10, 21, 10, 7], [7, 10, 21]), ([22, 7], [7, 22]), ([7, 23], [7, 23])])
def tontinelaw16_RouteRounds.B11 : List Nat := [0, 0, 3, 0, 0, 24, 63, 127, 255, 255, 1023, 255, 2303, 255, 14591, 30975, 63743, 255, 255, 393471, 1046783, 2095359, 4194303, 8388607, 16777215]
theorem tontinelaw16_RouteRounds.tab11 : rtab .any (opsOf Try.f4 11) = tontinelaw16_RouteRounds.T11 := by kernel_rfl
theorem tontinelaw16_RouteRounds.bits11 : waitsOk tontinelaw16_RouteRounds.T11.2 tontinelaw16_RouteRounds.B11 = true := by kernel_rfl
set_option maxHeartbeats 8000000 in
set_option maxRecDepth 100000 in
theorem tontinelaw16_RouteRounds.calls (k : Nat) (a0_0 : Int) (a0_1 : Int) (A0_2 : Option Addr) (c0_2 : Nat) (l0_2 : List (List Int)) (A0_3 : Option Addr) (c0_3 : Nat) (l0_3 : List (S44)) (a1 : Int) (a2 : Int) (r : Bool) (hrt : r = true) (w : World) (hr0_2 : Kd.C (Kd.slice 3 (Kd.int .i64)) w A0_2 l0_2.length l0_2) (hc0_2 : l0_2.length ≤ c0_2) (hr0_3 : Kd.C k44 w A0_3 l0_3.length l0_3) (hc0_3 : l0_3.length ≤ c0_3) (h : tontinelaw16_RouteRounds.f k a0_0 a0_1 l0_2 l0_3 a1 a2 = some r) :
    Calls Try.prog 4 #[.agg #[.int .i64 a0_0, .int .i64 a0_1, .slice A0_2 l0_2.length c0_2, .slice A0_3 l0_3.length c0_3], .int .u8 a1, .int .u8 a2] w fun e w' => e = .returned (.bool r) ∧ Below w.heap.size w w' := by
 have hu25 := Try.underlying25
 have HR0_2 := Goto.m0 hr0_2
 have HC0_2 := Goto.m0 hc0_2
 clear hr0_2 hc0_2
 have HR0_3 := Goto.m0 hr0_3
 have HC0_3 := Goto.m0 hc0_3
 clear hr0_3 hc0_3
 have HB := Goto.m0 (Below.refl w.heap.size w)
 have HRT := Goto.m0 hrt
 clear hrt
 have H : ((tontinelaw16_known.f k).bind fun t362 => (if t362 = true then ((tontinehelp_WideConf.f k a0_0 a0_1 l0_2 l0_3).bind fun t363 => (if t363 = true then (tontinelaw16_RouteRounds.j0 k a1 a2 true a0_0 a0_1 l0_2 l0_3) else ((tontineref1_IsConf.f k a0_0 a0_1 l0_2 l0_3).bind fun t364 => (tontinelaw16_RouteRounds.j0 k a1 a2 (t364 != 0) a0_0 a0_1 l0_2 l0_3)))) else (some false))) = some r := h
 clear h
 replace H := Option.bind_eq_some_iff.mp H
 obtain ⟨t362, A40, H⟩ := H
 have A4 := Goto.m0 A40
 clear A40
 by_cases c5 : t362 = true
 ·
  subst c5
  rw [if_pos rfl] at H
  have HC6 := Goto.m0 H
  clear H
  go_enter Try.func4, Try.ntmps4
  go_upto_region 3 with (first | ((with_reducible refine gate_dst (N := 3) rfl ?_); refine box_event ?hg (N := 3) ?hd (cs := #[.int .i64 a0_0, .int .i64 a0_1, .slice A0_2 l0_2.length c0_2, .slice A0_3 l0_3.length c0_3]) (t := 25) ?hr ?_; (case hd => rfl); (case hg => rfl); (case hr => first | (go_simp; done) | (go_simp; rfl)); intro gb361 hg w7 hbox hb; have BK361 := Goto.m0 (hbox); have GW361 := Goto.gs HB hg; have GE361 := Goto.gs HB hg; replace HB := Goto.hs HB hb; clear hb hbox hg) | ((with_reducible refine gate_callee (f := 12) rfl ?_); refine goesL_ (some 12) rfl rfl Try.func12 (by kernel_rfl) rfl #[] rfl (by (try simp only [List.map_toArray, List.map_cons, List.map_nil]); first | done | rfl | (simp only [List.length_drop, List.length_take]; rfl)) ?_; (with_reducible refine (tontinelaw16_known.calls k  true (by first | rfl | assumption | (simp only [Bool.not_eq_true, Bool.not_eq_false] at *; assumption)) _ A4.out).mono ?_); rintro e w8 ⟨rfl, hb⟩; refine ⟨_, rfl, ?_⟩; replace BK361 := Goto.bb BK361 hb; replace HB := Goto.hs HB hb; (try clear hb); (try clear hb2); (try clear hk); (try clear hi)))
  (try simp only [Act.put, List.setIfInBounds_toArray, List.set_cons_zero, List.set_cons_succ])
  go_cut [20] (fun v20 wc => ∃ (kq : Nat) (x20_5 : Bool), v20 = .bool x20_5 ∧ Aside0 (tontinelaw16_RouteRounds.j0 kq a1 a2 x20_5 a0_0 a0_1 l0_2 l0_3 = some r) ∧ Aside0 (kq ≤ k) ∧ Aside0 (wc.heap[gb361]? = some (.cells #[.int .i64 a0_0, .int .i64 a0_1, (.slice A0_2 l0_2.length c0_2), (.slice A0_3 l0_3.length c0_3)] 25 (0, 0))) ∧ Aside0 (Below w.heap.size w wc))
  case first =>
   have H := HC6.out; clear HC6
   replace H := Option.bind_eq_some_iff.mp H
   obtain ⟨t363, A90, H⟩ := H
   have A9 := Goto.m0 A90
   clear A90
   by_cases c10 : t363 = true
   ·
    subst c10
    rw [if_pos rfl] at H
    have H' := Goto.m0 H
    clear H; have hcz11_0 : w8.cell? ⟨gb361, 0, none⟩ = some (.int .i64 a0_0) := (blk_cell BK361.out 0).trans rfl; have hcz11_1 : w8.cell? ⟨gb361, 1, none⟩ = some (.int .i64 a0_1) := (blk_cell BK361.out 1).trans rfl; have hcz11_2 : w8.cell? ⟨gb361, 2, none⟩ = some (.slice A0_2 l0_2.length c0_2) := (blk_cell BK361.out 2).trans rfl; have hcz11_3 : w8.cell? ⟨gb361, 3, none⟩ = some (.slice A0_3 l0_3.length c0_3) := (blk_cell BK361.out 3).trans rfl; have hfz11_0 := blk_frozen BK361.out 0; have hfz11_1 := blk_frozen BK361.out 1; have hfz11_2 := blk_frozen BK361.out 2; have hfz11_3 := blk_frozen BK361.out 3
    go_wp2_with (first | ((with_reducible refine gate_callee (f := 13) rfl ?_); refine goesL_ (some 15) rfl rfl Try.func13 (by kernel_rfl) rfl #[.agg #[.int .i64 a0_0, .int .i64 a0_1, .slice A0_2 l0_2.length c0_2, .slice A0_3 l0_3.length c0_3]] rfl (by (try simp only [List.map_toArray, List.map_cons, List.map_nil]); first | done | rfl | (simp only [List.length_drop, List.length_take]; rfl)) ?_; (with_reducible refine (tontinehelp_WideConf.calls k a0_0 a0_1 _ _ l0_2 _ _ l0_3 true _ ?side1 ?side2 ?side3 ?side4 A9.out).mono ?_); (case side1 => repeat (first | exact (Kd.C_below HR0_2.out HB.out) | (with_reducible refine Kd.C_alloc ?_ _) | (with_reducible refine Kd.C_drewN ?_ _) | (with_reducible refine Kd.C_drew ?_))); (case side2 => exact HC0_2.out); (case side3 => repeat (first | exact (Kd.C_below HR0_3.out HB.out) | (with_reducible refine Kd.C_alloc ?_ _) | (with_reducible refine Kd.C_drewN ?_ _) | (with_reducible refine Kd.C_drew ?_))); (case side4 => exact HC0_3.out); rintro e w12 ⟨rfl, hb⟩; refine ⟨_, rfl, ?_⟩; replace BK361 := Goto.bb BK361 hb; replace HB := Goto.hs HB hb; (try clear hb); (try clear hb2); (try clear hk); (try clear hi)))
    go_meet
    case rel => exact ⟨_, (true), (by first | rfl | (simp; done) | (simp [*]; done)), H', ⟨by first | omega | exact Nat.le_refl _⟩, ⟨Goto.bx BK361⟩, ⟨Goto.hx HB⟩⟩
   ·
    replace c10 := Bool.eq_false_iff.mpr c10
    subst c10
    rw [if_neg (show ¬ (false = true) by decide)] at H
    replace H := Option.bind_eq_some_iff.mp H
    obtain ⟨t364, A130, H⟩ := H
    have A13 := Goto.m0 A130
    clear A130
    have H' := Goto.m0 H
    clear H; have hcz14_0 : w8.cell? ⟨gb361, 0, none⟩ = some (.int .i64 a0_0) := (blk_cell BK361.out 0).trans rfl; have hcz14_1 : w8.cell? ⟨gb361, 1, none⟩ = some (.int .i64 a0_1) := (blk_cell BK361.out 1).trans rfl; have hcz14_2 : w8.cell? ⟨gb361, 2, none⟩ = some (.slice A0_2 l0_2.length c0_2) := (blk_cell BK361.out 2).trans rfl; have hcz14_3 : w8.cell? ⟨gb361, 3, none⟩ = some (.slice A0_3 l0_3.length c0_3) := (blk_cell BK361.out 3).trans rfl; have hfz14_0 := blk_frozen BK361.out 0; have hfz14_1 := blk_frozen BK361.out 1; have hfz14_2 := blk_frozen BK361.out 2; have hfz14_3 := blk_frozen BK361.out 3
    go_wp2_with (first | ((with_reducible refine gate_callee (f := 13) rfl ?_); refine goesL_ (some 15) rfl rfl Try.func13 (by kernel_rfl) rfl #[.agg #[.int .i64 a0_0, .int .i64 a0_1, .slice A0_2 l0_2.length c0_2, .slice A0_3 l0_3.length c0_3]] rfl (by (try simp only [List.map_toArray, List.map_cons, List.map_nil]); first | done | rfl | (simp only [List.length_drop, List.length_take]; rfl)) ?_; (with_reducible refine (tontinehelp_WideConf.calls k a0_0 a0_1 _ _ l0_2 _ _ l0_3 false _ ?side1 ?side2 ?side3 ?side4 A9.out).mono ?_); (case side1 => repeat (first | exact (Kd.C_below HR0_2.out HB.out) | (with_reducible refine Kd.C_alloc ?_ _) | (with_reducible refine Kd.C_drewN ?_ _) | (with_reducible refine Kd.C_drew ?_))); (case side2 => exact HC0_2.out); (case side3 => repeat (first | exact (Kd.C_below HR0_3.out HB.out) | (with_reducible refine Kd.C_alloc ?_ _) | (with_reducible refine Kd.C_drewN ?_ _) | (with_reducible refine Kd.C_drew ?_))); (case side4 => exact HC0_3.out); rintro e w15 ⟨rfl, hb⟩; refine ⟨_, rfl, ?_⟩; replace BK361 := Goto.bb BK361 hb; replace HB := Goto.hs HB hb; (try clear hb); (try clear hb2); (try clear hk); (try clear hi); have hcz16_0 : w15.cell? ⟨gb361, 0, none⟩ = some (.int .i64 a0_0) := (blk_cell BK361.out 0).trans rfl; have hcz16_1 : w15.cell? ⟨gb361, 1, none⟩ = some (.int .i64 a0_1) := (blk_cell BK361.out 1).trans rfl; have hcz16_2 : w15.cell? ⟨gb361, 2, none⟩ = some (.slice A0_2 l0_2.length c0_2) := (blk_cell BK361.out 2).trans rfl; have hcz16_3 : w15.cell? ⟨gb361, 3, none⟩ = some (.slice A0_3 l0_3.length c0_3) := (blk_cell BK361.out 3).trans rfl; have hfz16_0 := blk_frozen BK361.out 0; have hfz16_1 := blk_frozen BK361.out 1; have hfz16_2 := blk_frozen BK361.out 2; have hfz16_3 := blk_frozen BK361.out 3) | (go_at_call 14; (with_reducible refine (tontineref1_IsConf.calls k a0_0 a0_1 _ _ l0_2 _ _ l0_3 t364 _ ?side1 ?side2 ?side3 ?side4 A13.out).mono ?_); (case side1 => repeat (first | exact (Kd.C_below HR0_2.out HB.out) | (with_reducible refine Kd.C_alloc ?_ _) | (with_reducible refine Kd.C_drewN ?_ _) | (with_reducible refine Kd.C_drew ?_))); (case side2 => exact HC0_2.out); (case side3 => repeat (first | exact (Kd.C_below HR0_3.out HB.out) | (with_reducible refine Kd.C_alloc ?_ _) | (with_reducible refine Kd.C_drewN ?_ _) | (with_reducible refine Kd.C_drew ?_))); (case side4 => exact HC0_3.out); rintro e w17 ⟨rfl, hb⟩; replace BK361 := Goto.bb BK361 hb; replace HB := Goto.hs HB hb; (try clear hb); (try clear hb2); (try clear hk); (try clear hi)))
    go_meet
    case rel => exact ⟨_, ((t364 != 0)), (by first | rfl | (simp; done) | (simp [*]; done)), H', ⟨by first | omega | exact Nat.le_refl _⟩, ⟨Goto.bx BK361⟩, ⟨Goto.hx HB⟩⟩
  case rest =>
   clear HC6; try clear c1; try clear p2; try clear c4; try clear c5; try clear c10; try clear c12; try clear c13; try clear hcz11_0; try clear hcz11_1; try clear hcz11_2; try clear hcz11_3; try clear hcz14_0; try clear hcz14_1; try clear hcz14_2; try clear hcz14_3; try clear hcz16_0; try clear hcz16_1; try clear hcz16_2; try clear hcz16_3; try clear hfz11_0; try clear hfz11_1; try clear hfz11_2; try clear hfz11_3; try clear hfz14_0; try clear hfz14_1; try clear hfz14_2; try clear hfz14_3; try clear hfz16_0; try clear hfz16_1; try clear hfz16_2; try clear hfz16_3
   obtain ⟨kq, x20_5, rfl, HA, HJ5, BK361, HB⟩ := hcut
   cases kq with
   | zero => exact absurd HA.out (by simp [tontinelaw16_RouteRounds.j0])
   | succ kj5 =>
    have H := HA.out; clear HA
    simp only [tontinelaw16_RouteRounds.j0] at H
    by_cases c18 : x20_5 = true
    ·
     subst c18
     rw [if_pos rfl] at H
     obtain rfl := Option.some.inj H
     go_wp2
     go_ret
     exact ⟨by first | rfl | (simp [errW_none, errW_some] <;> rfl) | (simp [*, errW_none, errW_some] <;> rfl), by repeat (first | (with_reducible first | exact HB.out | apply below_alloc | apply pw_below_drewN | apply below_drew1 | refine below_set ?_ GE361.out) | exact HB.out)⟩
    ·
     replace c18 := Bool.eq_false_iff.mpr c18
     subst c18
     rw [if_neg (show ¬ (false = true) by decide)] at H
     replace H := Option.bind_eq_some_iff.mp H
     obtain ⟨⟨t366, t367, t368⟩, A190, H⟩ := H
     replace H : (if (l0_3.length : Int) = 0 then (none) else (if 0 ≤ (Int.tmod (wrap64 (a1)) (l0_3.length : Int)) then (if (Int.tmod (wrap64 (a1)) (l0_3.length : Int)) < (l0_3.length : Int) then (tontinelaw16_RouteRounds.l0 kj5 a2 (Int.tmod (wrap64 (a1)) (l0_3.length : Int)) (((rd_T44 l0_3 (Int.tmod (wrap64 (a1)) (l0_3.length : Int))).f1).length : Int) 0 a0_0 a0_1 l0_2 l0_3 t366 t367 l0_2 l0_3 t368) else (none)) else (none))) = some r := H
     have A19 := Goto.m0 A190
     clear A190
     by_cases c20 : (l0_3.length : Int) = 0
     ·
      rw [if_pos c20] at H
      exact absurd H (by simp)
     ·
      rw [if_neg c20] at H
      have c20b0 : ((l0_3.length : Int) == 0) = false := beq_eq_false_iff_ne.mpr c20
      have c20b1 : ((l0_3.length : Int) != 0) = true := bne_iff_ne.mpr c20
      have c20b2 : ¬ (l0_3 = []) := fun h_ => c20 (by rw [h_]; rfl)
      obtain ⟨ji21, hji21⟩ : ∃ j_ : Int, (Int.tmod (wrap64 (a1)) (l0_3.length : Int)) = j_ := ⟨_, rfl⟩
      replace H : (if 0 ≤ (ji21) then (if (ji21) < (l0_3.length : Int) then (tontinelaw16_RouteRounds.l0 kj5 a2 ji21 (((rd_T44 l0_3 (ji21)).f1).length : Int) 0 a0_0 a0_1 l0_2 l0_3 t366 t367 l0_2 l0_3 t368) else (none)) else (none)) = some r := by first | (rw [hji21] at H; exact H) | (simp only [hji21] at H ⊢; exact H)
      (try rw [hji21] at A19)
      by_cases c22 : 0 ≤ (ji21)
      ·
       rw [if_pos c22] at H
       have c22b0 : decide (0 ≤ (ji21)) = true := decide_eq_true c22
       clear c22
       by_cases c23 : (ji21) < (l0_3.length : Int)
       ·
        rw [if_pos c23] at H
        have c23b0 : decide ((ji21) < (l0_3.length : Int)) = true := decide_eq_true c23
        clear c23
        have H' := Goto.m0 H
        clear H; have hcz24_0 : wc.cell? ⟨gb361, 0, none⟩ = some (.int .i64 a0_0) := (blk_cell BK361.out 0).trans rfl; have hcz24_1 : wc.cell? ⟨gb361, 1, none⟩ = some (.int .i64 a0_1) := (blk_cell BK361.out 1).trans rfl; have hcz24_2 : wc.cell? ⟨gb361, 2, none⟩ = some (.slice A0_2 l0_2.length c0_2) := (blk_cell BK361.out 2).trans rfl; have hcz24_3 : wc.cell? ⟨gb361, 3, none⟩ = some (.slice A0_3 l0_3.length c0_3) := (blk_cell BK361.out 3).trans rfl; have hfz24_0 := blk_frozen BK361.out 0; have hfz24_1 := blk_frozen BK361.out 1; have hfz24_2 := blk_frozen BK361.out 2; have hfz24_3 := blk_frozen BK361.out 3
        go_wp2_with (first | ((with_reducible refine gate_callee (f := 15) rfl ?_); refine goesL_ (some 22) rfl rfl Try.func15 (by kernel_rfl) rfl #[.agg #[.int .i64 a0_0, .int .i64 a0_1, .slice A0_2 l0_2.length c0_2, .slice A0_3 l0_3.length c0_3]] rfl (by (try simp only [List.map_toArray, List.map_cons, List.map_nil]); first | done | rfl | (simp only [List.length_drop, List.length_take]; rfl)) ?_; (with_reducible refine (route_New.calls a0_0 a0_1 _ _ l0_2 _ _ l0_3 t366 t367 t368 _ ?side1 ?side2 ?side3 ?side4 A19.out).mono ?_); (case side1 => repeat (first | exact (Kd.C_below HR0_2.out HB.out) | (with_reducible refine Kd.C_alloc ?_ _) | (with_reducible refine Kd.C_drewN ?_ _) | (with_reducible refine Kd.C_drew ?_))); (case side2 => exact HC0_2.out); (case side3 => repeat (first | exact (Kd.C_below HR0_3.out HB.out) | (with_reducible refine Kd.C_alloc ?_ _) | (with_reducible refine Kd.C_drewN ?_ _) | (with_reducible refine Kd.C_drew ?_))); (case side4 => exact HC0_3.out); rintro e w25 ⟨v369, gb365, rfl, ho0, hi, hge, hb⟩; refine ⟨_, rfl, ?_⟩; have HO370 := Goto.m0 (Kd.R_lower ho0 (below_size (Goto.hx HB))); have BK365 := Goto.m0 (hi); have GW365 := Goto.m0 ((Nat.le_trans (below_size (Goto.hx HB)) hge : w.heap.size ≤ gb365)); have GE365 := Goto.m0 ((Nat.le_trans (below_size (Goto.hx HB)) hge : w.heap.size ≤ gb365)); have NB361_365 := Goto.m0 ((Nat.ne_of_lt (Nat.lt_of_lt_of_le (blk_lt (g := gb361) (o := .cells #[.int .i64 a0_0, .int .i64 a0_1, .slice A0_2 l0_2.length c0_2, .slice A0_3 l0_3.length c0_3] 25 (0, 0)) (Goto.bx BK361)) hge) : gb361 ≠ gb365)); have NB365_361 := Goto.m0 ((Nat.ne_of_gt (Nat.lt_of_lt_of_le (blk_lt (g := gb361) (o := .cells #[.int .i64 a0_0, .int .i64 a0_1, .slice A0_2 l0_2.length c0_2, .slice A0_3 l0_3.length c0_3] 25 (0, 0)) (Goto.bx BK361)) hge) : gb365 ≠ gb361)); replace BK361 := Goto.bb BK361 hb; replace HB := Goto.hs HB hb; (try clear hb); (try clear hi); (try clear hge); (try clear ho0); have hnb26 := NB361_365.out; have hnc26 := NB365_361.out; have hcz27_0 : w25.cell? ⟨gb361, 0, none⟩ = some (.int .i64 a0_0) := (blk_cell BK361.out 0).trans rfl; have hcz27_1 : w25.cell? ⟨gb361, 1, none⟩ = some (.int .i64 a0_1) := (blk_cell BK361.out 1).trans rfl; have hcz27_2 : w25.cell? ⟨gb361, 2, none⟩ = some (.slice A0_2 l0_2.length c0_2) := (blk_cell BK361.out 2).trans rfl; have hcz27_3 : w25.cell? ⟨gb361, 3, none⟩ = some (.slice A0_3 l0_3.length c0_3) := (blk_cell BK361.out 3).trans rfl; have hfz27_0 := blk_frozen BK361.out 0; have hfz27_1 := blk_frozen BK361.out 1; have hfz27_2 := blk_frozen BK361.out 2; have hfz27_3 := blk_frozen BK361.out 3; have p371 : 0 ≤ ((ji21) : Int) := of_decide_eq_true (by first | (with_reducible assumption) | assumption); have q371 : (ji21) < (l0_3.length : Int) := of_decide_eq_true (by first | (with_reducible assumption) | assumption); obtain ⟨ad371, A371_2, c371_2, A371_3, c371_3, e371, hx371_0, hx371_1, hx371_2, hx371_3, hx371_4, hx371_5, hx371_6, hx371_7, hx371_8, hx371_9, hl371_2, hi371_2, hl371_3, hi371_3⟩ := at_T44 HR0_3.out (ji21) p371 q371; cases e371; replace hx371_0 := Goto.kc HB.out hx371_0; replace hx371_1 := Goto.kc HB.out hx371_1; replace hx371_2 := Goto.kc HB.out hx371_2; replace hx371_3 := Goto.kc HB.out hx371_3; replace hx371_4 := Goto.kc HB.out hx371_4; replace hx371_5 := Goto.kc HB.out hx371_5; replace hx371_6 := Goto.kc HB.out hx371_6; replace hx371_7 := Goto.kc HB.out hx371_7; replace hx371_8 := Goto.kc HB.out hx371_8; replace hx371_9 := Goto.kc HB.out hx371_9; have HR371_2 := Goto.m0 hi371_2; have HC371_2 := Goto.m0 hl371_2; clear hi371_2 hl371_2; have HR371_3 := Goto.m0 hi371_3; have HC371_3 := Goto.m0 hl371_3; clear hi371_3 hl371_3; replace p371 := eq_true p371; replace q371 := eq_true q371))
        go_loopg [10] kj5 (fun kq v10 w' => ∃ (x10_2 : Int) (x366004_2 : List Int) (u366004 : Value), v10 = .int .i64 x10_2 ∧ Aside0 (tontinelaw16_RouteRounds.l0 kq a2 ji21 (((rd_T44 l0_3 (ji21)).f1).length : Int) x10_2 a0_0 a0_1 l0_2 l0_3 t366 t367 l0_2 l0_3 x366004_2 = some r) ∧ Aside0 (kq ≤ kj5) ∧ Aside0 (Kd.R (Kd.int .i64) 3 w' w.heap.size (fun _ => True) u366004 x366004_2) ∧ Aside0 (w'.heap[gb361]? = some (.cells #[.int .i64 a0_0, .int .i64 a0_1, (.slice A0_2 l0_2.length c0_2), (.slice (some ad371) l0_3.length c0_3)] 25 (0, 0))) ∧ Aside0 (w'.heap[gb365]? = some (.cells #[.int .i64 t366, .int .i64 t367, (.slice A0_2 l0_2.length c0_2), (.slice (some ad371) l0_3.length c0_3), u366004] 74 (0, 0))) ∧ Aside0 (Below w.heap.size w w'))
        case atStart => exact ⟨(0), (t368), (v369), (by first | rfl | (simp; done) | (simp [*]; done)), H', ⟨Nat.le_refl _⟩, ⟨by (with_reducible repeat (first | apply Kd.R_alloc | apply Kd.R_drewN | apply Kd.R_drew)); exact HO370.out⟩, ⟨Goto.bx BK361⟩, ⟨Goto.bx BK365⟩, ⟨Goto.hx HB⟩⟩
        case round =>
         clear H'
         try clear c1; try clear c2; try clear p2; try clear c3; try clear p3; try clear q3; try clear hx3; try clear c4; try clear c5; try clear p6; try clear c10; try clear c12; try clear c13; try clear c15; try clear c18; try clear c20; try clear c20b0; try clear c20b1; try clear c20b2; try clear c22; try clear c22b0; try clear c23; try clear c23b0; try clear c26; try clear hcz11_0; try clear hcz11_1; try clear hcz11_2; try clear hcz11_3; try clear hcz14_0; try clear hcz14_1; try clear hcz14_2; try clear hcz14_3; try clear hcz16_0; try clear hcz16_1; try clear hcz16_2; try clear hcz16_3; try clear hcz24_0; try clear hcz24_1; try clear hcz24_2; try clear hcz24_3; try clear hcz27_0; try clear hcz27_1; try clear hcz27_2; try clear hcz27_3; try clear hfz11_0; try clear hfz11_1; try clear hfz11_2; try clear hfz11_3; try clear hfz14_0; try clear hfz14_1; try clear hfz14_2; try clear hfz14_3; try clear hfz16_0; try clear hfz16_1; try clear hfz16_2; try clear hfz16_3; try clear hfz24_0; try clear hfz24_1; try clear hfz24_2; try clear hfz24_3; try clear hfz27_0; try clear hfz27_1; try clear hfz27_2; try clear hfz27_3; try clear hx371_0; try clear hx371_1; try clear hx371_2; try clear hx371_3; try clear hx371_4; try clear hx371_5; try clear hx371_6; try clear hx371_7; try clear hx371_8; try clear hx371_9; try clear p2; try clear p371; try clear q371
         obtain ⟨x10_2, x366004_2, u366004, rfl, HA, HK2, HO_366004, BK361, BK365, HB⟩ := hrel
         cases gk with
         | zero => exact absurd HA.out (by simp [tontinelaw16_RouteRounds.l0])
         | succ k2 =>
          have H := HA.out; clear HA
          simp only [tontinelaw16_RouteRounds.l0] at H
          by_cases c28 : x10_2 < (wrap64 ((wrap64 (Int.tmod a2 10)) * (((rd_T44 l0_3 (ji21)).f1).length : Int)))
          ·
           rw [if_pos c28] at H
           have c28b0 : decide (x10_2 < (wrap64 ((wrap64 (Int.tmod a2 10)) * (((rd_T44 l0_3 (ji21)).f1).length : Int)))) = true := decide_eq_true c28
           clear c28
           replace H := Option.bind_eq_some_iff.mp H
           obtain ⟨⟨t372, t373⟩, A290, H⟩ := H
           replace H : (if (((rd_T44 l0_3 (ji21)).f1).length : Int) = 0 then (none) else (if t372 = (Int.tmod x10_2 (((rd_T44 l0_3 (ji21)).f1).length : Int)) then ((route_Routes_Offer.f t366 t367 l0_2 l0_3 t373 ji21).bind fun bt376 => (if 0 ≤ ji21 then (if ji21 < (l0_3.length : Int) then (if 0 ≤ (Int.tmod x10_2 (((rd_T44 l0_3 (ji21)).f1).length : Int)) then (if (Int.tmod x10_2 (((rd_T44 l0_3 (ji21)).f1).length : Int)) < (((rd_T44 l0_3 ji21).f1).length : Int) then ((tontineref1_SameInts.f k2 bt376.1 (rd_L1 ((rd_T44 l0_3 ji21).f1) (Int.tmod x10_2 (((rd_T44 l0_3 (ji21)).f1).length : Int)))).bind fun t384 => (if t384 = true then (tontinelaw16_RouteRounds.l0 k2 a2 ji21 (((rd_T44 l0_3 (ji21)).f1).length : Int) (wrap64 (x10_2 + 1)) a0_0 a0_1 l0_2 l0_3 t366 t367 l0_2 l0_3 bt376.2) else (some false))) else (none)) else (none)) else (none)) else (none))) else (some false))) = some r := H
           have A29 := Goto.m0 A290
           clear A290
           by_cases c30 : (((rd_T44 l0_3 (ji21)).f1).length : Int) = 0
           ·
            rw [if_pos c30] at H
            exact absurd H (by simp)
           ·
            rw [if_neg c30] at H
            have c30b0 : ((((rd_T44 l0_3 (ji21)).f1).length : Int) == 0) = false := beq_eq_false_iff_ne.mpr c30
            have c30b1 : ((((rd_T44 l0_3 (ji21)).f1).length : Int) != 0) = true := bne_iff_ne.mpr c30
            have c30b2 : ¬ (((rd_T44 l0_3 (ji21)).f1) = []) := fun h_ => c30 (by rw [h_]; rfl)
            by_cases c31 : t372 = (Int.tmod x10_2 (((rd_T44 l0_3 (ji21)).f1).length : Int))
            ·
             rw [if_pos c31] at H
             have c31b0 : (t372 == (Int.tmod x10_2 (((rd_T44 l0_3 (ji21)).f1).length : Int))) = true := beq_iff_eq.mpr c31
             have c31b1 : (t372 != (Int.tmod x10_2 (((rd_T44 l0_3 (ji21)).f1).length : Int))) = false := bne_eq_false_iff_eq.mpr c31
             clear c31
             replace H := Option.bind_eq_some_iff.mp H
             obtain ⟨⟨t376, t379⟩, A320, H⟩ := H
             replace H : (if 0 ≤ ji21 then (if ji21 < (l0_3.length : Int) then (if 0 ≤ (Int.tmod x10_2 (((rd_T44 l0_3 (ji21)).f1).length : Int)) then (if (Int.tmod x10_2 (((rd_T44 l0_3 (ji21)).f1).length : Int)) < (((rd_T44 l0_3 ji21).f1).length : Int) then ((tontineref1_SameInts.f k2 t376 (rd_L1 ((rd_T44 l0_3 ji21).f1) (Int.tmod x10_2 (((rd_T44 l0_3 (ji21)).f1).length : Int)))).bind fun t384 => (if t384 = true then (tontinelaw16_RouteRounds.l0 k2 a2 ji21 (((rd_T44 l0_3 (ji21)).f1).length : Int) (wrap64 (x10_2 + 1)) a0_0 a0_1 l0_2 l0_3 t366 t367 l0_2 l0_3 t379) else (some false))) else (none)) else (none)) else (none)) else (none)) = some r := H
             have A32 := Goto.m0 A320
             clear A320
             by_cases c33 : 0 ≤ ji21
             ·
              rw [if_pos c33] at H
              have c33b0 : decide (0 ≤ ji21) = true := decide_eq_true c33
              clear c33
              by_cases c34 : ji21 < (l0_3.length : Int)
              ·
               rw [if_pos c34] at H
               have c34b0 : decide (ji21 < (l0_3.length : Int)) = true := decide_eq_true c34
               clear c34
               obtain ⟨ji35, hji35⟩ : ∃ j_ : Int, (Int.tmod x10_2 (((rd_T44 l0_3 (ji21)).f1).length : Int)) = j_ := ⟨_, rfl⟩
               (try rw [hji35] at hji21)
               (try rw [hji35] at hji21w)
               replace H : (if 0 ≤ (ji35) then (if (ji35) < (((rd_T44 l0_3 ji21).f1).length : Int) then ((tontineref1_SameInts.f k2 t376 (rd_L1 ((rd_T44 l0_3 ji21).f1) (ji35))).bind fun t384 => (if t384 = true then (tontinelaw16_RouteRounds.l0 k2 a2 ji21 (((rd_T44 l0_3 (ji21)).f1).length : Int) (wrap64 (x10_2 + 1)) a0_0 a0_1 l0_2 l0_3 t366 t367 l0_2 l0_3 t379) else (some false))) else (none)) else (none)) = some r := by first | (rw [hji35] at H; exact H) | (simp only [hji35] at H ⊢; exact H)
               (try rw [hji35] at c31b0)
               (try rw [hji35] at c31b1)
               (try rw [hji35] at A29)
               (try rw [hji35] at A32)
               by_cases c36 : 0 ≤ (ji35)
               ·
                rw [if_pos c36] at H
                have c36b0 : decide (0 ≤ (ji35)) = true := decide_eq_true c36
                clear c36
                by_cases c37 : (ji35) < (((rd_T44 l0_3 ji21).f1).length : Int)
                ·
                 rw [if_pos c37] at H
                 have c37b0 : decide ((ji35) < (((rd_T44 l0_3 ji21).f1).length : Int)) = true := decide_eq_true c37
                 clear c37
                 replace H := Option.bind_eq_some_iff.mp H
                 obtain ⟨t384, A380, H⟩ := H
                 have A38 := Goto.m0 A380
                 clear A380
                 by_cases c39 : t384 = true
                 ·
                  subst c39
                  rw [if_pos rfl] at H
                  have H' := Goto.m0 H
                  clear H
                  try go_wp2
                  replace HO_366004 := Goto.m0 (Kd.R_drew HO_366004.out); replace BK361 := Goto.m0 (blk_drew BK361.out); replace BK365 := Goto.m0 (blk_drew BK365.out); replace HB := Goto.m0 (below_drew1 HB.out)
                  have p382 : 0 ≤ (ji21 : Int) := of_decide_eq_true (by first | (with_reducible assumption) | assumption)
                  have q382 : ji21 < (l0_3.length : Int) := of_decide_eq_true (by first | (with_reducible assumption) | assumption)
                  obtain ⟨ad382, A382_2, c382_2, A382_3, c382_3, e382, hx382_0, hx382_1, hx382_2, hx382_3, hx382_4, hx382_5, hx382_6, hx382_7, hx382_8, hx382_9, hl382_2, hi382_2, hl382_3, hi382_3⟩ := at_T44 HR0_3.out ji21 p382 q382
                  have hw382_9 := hx382_9; have hw382_8 := hx382_8; have hw382_7 := hx382_7; have hw382_6 := hx382_6; have hw382_5 := hx382_5; have hw382_4 := hx382_4; have hw382_3 := hx382_3; have hw382_2 := hx382_2; have hw382_1 := hx382_1; have hw382_0 := hx382_0
                  obtain rfl : ad371 = ad382 := (by injection e382)
                  replace hx382_0 := Goto.kc HB.out hx382_0
                  replace hx382_1 := Goto.kc HB.out hx382_1
                  replace hx382_2 := Goto.kc HB.out hx382_2
                  replace hx382_3 := Goto.kc HB.out hx382_3
                  replace hx382_4 := Goto.kc HB.out hx382_4
                  replace hx382_5 := Goto.kc HB.out hx382_5
                  replace hx382_6 := Goto.kc HB.out hx382_6
                  replace hx382_7 := Goto.kc HB.out hx382_7
                  replace hx382_8 := Goto.kc HB.out hx382_8
                  replace hx382_9 := Goto.kc HB.out hx382_9
                  have HR382_2 := Goto.m0 hi382_2
                  have HC382_2 := Goto.m0 hl382_2
                  clear hi382_2 hl382_2
                  have HR382_3 := Goto.m0 hi382_3
                  have HC382_3 := Goto.m0 hl382_3
                  clear hi382_3 hl382_3; replace p382 := eq_true p382; replace q382 := eq_true q382
                  have p383 : 0 ≤ ((ji35) : Int) := of_decide_eq_true (by first | (with_reducible assumption) | assumption)
                  have q383 : (ji35) < (((rd_T44 l0_3 ji21).f1).length : Int) := of_decide_eq_true (by first | (with_reducible assumption) | assumption)
                  obtain ⟨ad383, A383_0, c383_0, e383, hx383_0, hl383_0, hi383_0⟩ := at_L1 HR382_2.out (ji35) p383 q383
                  have hw383_0 := hx383_0
                  cases e383
                  replace hx383_0 := Goto.kc HB.out hx383_0
                  have HR383_0 := Goto.m0 hi383_0
                  have HC383_0 := Goto.m0 hl383_0
                  clear hi383_0 hl383_0; replace p383 := eq_true p383; replace q383 := eq_true q383
                  refine start_ (n := 25) (S := fun w' => w'.cell? ⟨gb361, 0, none⟩ = some (.int .i64 a0_0) ∧ w'.cell? ⟨gb361, 1, none⟩ = some (.int .i64 a0_1) ∧ w'.cell? ⟨gb361, 2, none⟩ = some (.slice A0_2 l0_2.length c0_2) ∧ w'.cell? ⟨gb361, 3, none⟩ = some (.slice (some ad371) l0_3.length c0_3) ∧ w'.cell? (ad371.add ((ji21).toNat * 10)) = some (.int .i64 ((rd_T44 l0_3 ji21).f0.f0)) ∧ w'.cell? ⟨(ad371.add ((ji21).toNat * 10)).block, (ad371.add ((ji21).toNat * 10)).off + 1, none⟩ = some (.int .u64 ((rd_T44 l0_3 ji21).f0.f1)) ∧ w'.cell? ⟨(ad371.add ((ji21).toNat * 10)).block, (ad371.add ((ji21).toNat * 10)).off + 2, none⟩ = some (.slice (some ad383) ((rd_T44 l0_3 ji21).f1).length c382_2) ∧ w'.cell? ⟨(ad371.add ((ji21).toNat * 10)).block, (ad371.add ((ji21).toNat * 10)).off + 3, none⟩ = some (.slice A382_3 ((rd_T44 l0_3 ji21).f2).length c382_3) ∧ w'.cell? ⟨(ad371.add ((ji21).toNat * 10)).block, (ad371.add ((ji21).toNat * 10)).off + 4, none⟩ = some (.int .i64 ((rd_T44 l0_3 ji21).f3)) ∧ w'.cell? ⟨(ad371.add ((ji21).toNat * 10)).block, (ad371.add ((ji21).toNat * 10)).off + 5, none⟩ = some (.int .i64 ((rd_T44 l0_3 ji21).f4)) ∧ w'.cell? ⟨(ad371.add ((ji21).toNat * 10)).block, (ad371.add ((ji21).toNat * 10)).off + 6, none⟩ = some (.int .i64 ((rd_T44 l0_3 ji21).f5)) ∧ w'.cell? ⟨(ad371.add ((ji21).toNat * 10)).block, (ad371.add ((ji21).toNat * 10)).off + 7, none⟩ = some (.int .i64 ((rd_T44 l0_3 ji21).f6)) ∧ w'.cell? ⟨(ad371.add ((ji21).toNat * 10)).block, (ad371.add ((ji21).toNat * 10)).off + 8, none⟩ = some (.int .i64 ((rd_T44 l0_3 ji21).f7)) ∧ w'.cell? ⟨(ad371.add ((ji21).toNat * 10)).block, (ad371.add ((ji21).toNat * 10)).off + 9, none⟩ = some (.int .i64 ((rd_T44 l0_3 ji21).f8)) ∧ w'.cell? (ad383.add ((ji35)).toNat) = some (.slice A383_0 (rd_L1 ((rd_T44 l0_3 ji21).f1) (ji35)).length c383_0)) (ds := []) (.replicate 25 false) (by kernel_rfl) rfl rfl ⟨(blk_cell BK361.out 0).trans rfl, (blk_cell BK361.out 1).trans rfl, (blk_cell BK361.out 2).trans rfl, (blk_cell BK361.out 3).trans rfl, (Goto.kc HB.out hw382_0), (Goto.kc HB.out hw382_1), (Goto.kc HB.out hw382_2), (Goto.kc HB.out hw382_3), (Goto.kc HB.out hw382_4), (Goto.kc HB.out hw382_5), (Goto.kc HB.out hw382_6), (Goto.kc HB.out hw382_7), (Goto.kc HB.out hw382_8), (Goto.kc HB.out hw382_9), (Goto.kc HB.out hw383_0)⟩ (fun hHeld => ?_); refine with_tabW tontinelaw16_RouteRounds.tab11 tontinelaw16_RouteRounds.bits11 (fun HT_ HW_ => ?_)
                  generalize wr.drew = w40 at HO_366004 BK361 BK365 HB HR382_2 HR382_3 HR383_0 hx382_0 hx382_1 hx382_2 hx382_3 hx382_4 hx382_5 hx382_6 hx382_7 hx382_8 hx382_9 hx383_0 hHeld ⊢
                  refine pure_ (i := 0) (N := some 45) (v := ?_) (a' := ?_) (Goto.bs 25 1) rfl rfl (any_of HT_.out (by kernel_rfl)) (fun _ _ _ h => h) (Or.inl ⟨by rfl, ?_⟩) ?_ ?_
                  rotate_left
                  ·
                   intro w'
                   go_simp
                   with_reducible rfl
                  rotate_left
                  ·
                   exact Goto.ap
                  refine pure_ (i := 1) (N := some 46) (v := ?_) (a' := ?_) (Goto.bs 25 3) rfl rfl (any_of HT_.out (by kernel_rfl)) (fun _ _ _ h => h) (Or.inl ⟨by rfl, ?_⟩) ?_ ?_
                  rotate_left
                  ·
                   intro w'
                   go_simp
                   with_reducible rfl
                  rotate_left
                  ·
                   exact Goto.ap
                  refine pure_ (i := 3) (N := some 48) (v := ?_) (a' := ?_) (Goto.bs 25 11) rfl rfl (any_of HT_.out (by kernel_rfl)) (fun _ _ _ h => h) (Or.inl ⟨by rfl, ?_⟩) ?_ ?_
                  rotate_left
                  ·
                   intro w'
                   go_simp
                   with_reducible rfl
                  rotate_left
                  ·
                   exact Goto.ap
                  refine pure_ (i := 4) (N := some 49) (v := ?_) (a' := ?_) (Goto.bs 25 27) rfl rfl (any_of HT_.out (by kernel_rfl)) (fun _ _ _ h => h) (Or.inl ⟨by rfl, ?_⟩) ?_ ?_
                  rotate_left
                  ·
                   intro w'
                   go_simp
                   with_reducible rfl
                  rotate_left
                  ·
                   exact Goto.ap
                  refine pure_ (i := 5) (N := some 50) (v := ?_) (a' := ?_) (Goto.bs 25 59) rfl rfl (any_of HT_.out (by kernel_rfl)) (fun _ _ _ h => h) (Or.inl ⟨by rfl, ?_⟩) ?_ ?_
                  rotate_left
                  ·
                   intro w'
                   go_simp
                   with_reducible rfl
                  rotate_left
                  ·
                   exact Goto.ap
                  refine one_ (i := 2) (N := some 47) (Goto.bs 25 63) rfl rfl (one_of HT_.out (by kernel_rfl)) (by decide) (fun K hK => ?_)
                  refine goes_ Try.func22 (by kernel_rfl) rfl #[.pointer (some ⟨gb365, 0, none⟩), .int .i64 ji21] (by rfl) rfl rfl (by (try simp only [List.map_toArray, List.map_cons, List.map_nil]); first | done | (simp only [hji21]; rfl) | rfl | (simp only [List.length_drop, List.length_take]; rfl)) ?_
                  with_reducible refine (route_Routes_Turn.calls gb365 t366 t367 A0_2 c0_2 l0_2 (some ad371) c0_3 l0_3 (fun k_ => some k_ = (u366004 : Value).ownBlock) u366004 x366004_2 ji21 t372 t373 w _ ?side1 ?side2 ?side3 ?side4 ?side5 ?side6 ?side7 ?side8 A29.out).mono ?_
                  (case side1 => exact by (with_reducible repeat first | refine blk_drewN ?_ _ | refine blk_drew ?_ | refine blk_alloc ?_ _); exact BK365.out)
                  (case side2 => exact GE365.out)
                  (case side3 => repeat (first | (with_reducible first | exact HB.out | apply below_alloc | apply pw_below_drewN | apply below_drew1 | refine below_set ?_ GE361.out | refine below_set ?_ GE365.out) | exact HB.out))
                  (case side4 => exact Kd.C_kept_came (Kd.heap_slice 3 (Kd.heap_int .i64)) HR0_2.out (Goto.hx HB) (fun k_ hs_ => Or.elim hs_ (fun hs_ => (fun e_ => Kd.R_base HO_366004.out k_ e_.symm) hs_) (fun e_ => (by rw [e_]; exact GE365.out))))
                  (case side5 => exact HC0_2.out)
                  (case side6 => exact Kd.C_kept_came k44_heap HR0_3.out (Goto.hx HB) (fun k_ hs_ => Or.elim hs_ (fun hs_ => (fun e_ => Kd.R_base HO_366004.out k_ e_.symm) hs_) (fun e_ => (by rw [e_]; exact GE365.out))))
                  (case side7 => exact HC0_3.out)
                  (case side8 => exact Kd.R_tight rfl HO_366004.out)
                  rintro e w41 ⟨v374, rfl, ho0, hi, hb, hkp⟩
                  refine ⟨_, rfl, ?_⟩
                  have n0_ := Goto.m0 (blk_kept (Goto.bx BK361) hkp (fun hs_ => Or.elim hs_ (fun hs_ => (fun e_ => (Kd.R_ne HO_366004.out BK361.out (by decide)) e_) hs_) (fun e_ => NB361_365.out e_)))
                  have n1_ := Goto.m0 (hi)
                  have n2_ := Goto.m0 (Kd.R_mono (ok' := fun k_ => True) ho0 (fun k_ hk_ => trivial))
                  have n3_ := Goto.m0 (hb)
                  clear BK361; clear BK365; clear HB; clear HO_366004; have BK361 := n0_; have BK365 := n1_; have HO375 := n2_; have HB := n3_; clear n0_ n1_ n2_ n3_
                  (try clear hb)
                  (try clear hkp)
                  (try clear ho0)
                  refine hK.out _ _ ⟨(blk_cell BK361.out 0).trans rfl, (blk_cell BK361.out 1).trans rfl, (blk_cell BK361.out 2).trans rfl, (blk_cell BK361.out 3).trans rfl, (Goto.kc HB.out hw382_0), (Goto.kc HB.out hw382_1), (Goto.kc HB.out hw382_2), (Goto.kc HB.out hw382_3), (Goto.kc HB.out hw382_4), (Goto.kc HB.out hw382_5), (Goto.kc HB.out hw382_6), (Goto.kc HB.out hw382_7), (Goto.kc HB.out hw382_8), (Goto.kc HB.out hw382_9), (Goto.kc HB.out hw383_0)⟩ (fun hHeld => ?_)
                  clear hK K
                  refine norm_ (a' := ?_) ?_ ?_
                  rotate_left
                  ·
                   show Act.put _ (some 47) _ = _
                   exact Goto.ap
                  refine pure_ (i := 6) (N := some 51) (v := ?_) (a' := ?_) (Goto.bs 25 127) rfl rfl (any_of HT_.out (by kernel_rfl)) (fun _ _ _ h => h) (Or.inl ⟨by rfl, ?_⟩) ?_ ?_
                  rotate_left
                  ·
                   intro w'
                   go_simp
                   with_reducible rfl
                  rotate_left
                  ·
                   exact Goto.ap
                  refine pure_ (i := 7) (N := some 52) (v := ?_) (a' := ?_) (Goto.bs 25 255) rfl rfl (any_of HT_.out (by kernel_rfl)) (fun _ _ _ h => h) (Or.inl ⟨by rfl, ?_⟩) ?_ ?_
                  rotate_left
                  ·
                   intro w'
                   go_simp
                   with_reducible rfl
                  rotate_left
                  ·
                   exact Goto.ap
                  refine pure_ (i := 8) (N := some 53) (v := ?_) (a' := ?_) (Goto.bs 25 511) rfl rfl (any_of HT_.out (by kernel_rfl)) (fun _ _ _ h => h) (Or.inl ⟨by rfl, ?_⟩) ?_ ?_
                  rotate_left
                  ·
                   intro w'
                   go_simp
                   with_reducible rfl
                  rotate_left
                  ·
                   exact Goto.ap
                  refine pure_ (i := 9) (N := some 54) (v := ?_) (a' := ?_) (Goto.bs 25 1023) rfl rfl (any_of HT_.out (by kernel_rfl)) (fun _ _ _ h => h) (Or.inl ⟨by rfl, ?_⟩) ?_ ?_
                  rotate_left
                  ·
                   intro w'
                   go_simp
                   with_reducible rfl
                  rotate_left
                  ·
                   exact Goto.ap
                  refine pure_ (i := 11) (N := some 56) (v := ?_) (a' := ?_) (Goto.bs 25 3071) rfl rfl (any_of HT_.out (by kernel_rfl)) (fun _ _ _ h => h) (Or.inl ⟨by rfl, ?_⟩) ?_ ?_
                  rotate_left
                  ·
                   intro w'
                   go_simp
                   with_reducible rfl
                  rotate_left
                  ·
                   exact Goto.ap
                  refine pure_ (i := 13) (N := some 58) (v := ?_) (a' := ?_) (Goto.bs 25 11263) rfl rfl (any_of HT_.out (by kernel_rfl)) (fun _ _ _ h => h) (Or.inl ⟨by rfl, ?_⟩) ?_ ?_
                  rotate_left
                  ·
                   intro w'
                   go_simp
                   with_reducible rfl
                  rotate_left
                  ·
                   exact Goto.ap
                  refine pure_ (i := 17) (N := some 62) (v := ?_) (a' := ?_) (Goto.bs 25 142335) rfl rfl (any_of HT_.out (by kernel_rfl)) (fun _ _ _ h => h) (Or.inl ⟨by rfl, ?_⟩) ?_ ?_
                  rotate_left
                  ·
                   intro w'
                   go_simp
                   with_reducible rfl
                  rotate_left
                  ·
                   exact Goto.ap
                  refine pure_ (i := 18) (N := some 63) (v := ?_) (a' := ?_) (Goto.bs 25 404479) rfl rfl (any_of HT_.out (by kernel_rfl)) (fun _ _ _ h => h) (Or.inl ⟨by rfl, ?_⟩) ?_ ?_
                  rotate_left
                  ·
                   intro w'
                   go_simp
                   with_reducible rfl
                  rotate_left
                  ·
                   exact Goto.ap
                  refine pure_ (i := 19) (N := some 64) (v := ?_) (a' := ?_) (Goto.bs 25 928767) rfl rfl (any_of HT_.out (by kernel_rfl)) (fun _ _ _ h => h) (Or.inl ⟨by rfl, ?_⟩) ?_ ?_
                  rotate_left
                  ·
                   intro w'
                   go_simp
                   with_reducible rfl
                  rotate_left
                  ·
                   exact Goto.ap
                  refine take_ (i := 12) (N := some 57) (v := ?_) (a' := ?_) (Goto.bs 25 932863) rfl rfl (take_ofW HT_.out HW_.out (by kernel_rfl)) (fun _ _ _ h => h) (Or.inl ⟨by rfl, ?_⟩) hHeld ?_ ?_
                  rotate_left
                  ·
                   rintro w' ⟨s0, s1, s2, s3, s4, s5, s6, s7, s8, s9, s10, s11, s12, s13, s14⟩
                   go_simp
                   with_reducible rfl
                  rotate_left
                  ·
                   exact Goto.ap
                  refine pure_ (i := 14) (N := some 59) (v := ?_) (a' := ?_) (Goto.bs 25 949247) rfl rfl (any_of HT_.out (by kernel_rfl)) (fun _ _ _ h => h) (Or.inl ⟨by rfl, ?_⟩) ?_ ?_
                  rotate_left
                  ·
                   intro w'
                   go_simp
                   with_reducible rfl
                  rotate_left
                  ·
                   exact Goto.ap
                  refine pure_ (i := 15) (N := some 60) (v := ?_) (a' := ?_) (Goto.bs 25 982015) rfl rfl (any_of HT_.out (by kernel_rfl)) (fun _ _ _ h => h) (Or.inl ⟨by rfl, ?_⟩) ?_ ?_
                  rotate_left
                  ·
                   intro w'
                   go_simp
                   with_reducible rfl
                  rotate_left
                  ·
                   exact Goto.ap
                  refine take_ (i := 16) (N := some 61) (v := ?_) (a' := ?_) (Goto.bs 25 1047551) rfl rfl (take_ofW HT_.out HW_.out (by kernel_rfl)) (fun _ _ _ h => h) (Or.inl ⟨by rfl, ?_⟩) hHeld ?_ ?_
                  rotate_left
                  ·
                   rintro w' ⟨s0, s1, s2, s3, s4, s5, s6, s7, s8, s9, s10, s11, s12, s13, s14⟩
                   go_simp
                   with_reducible rfl
                  rotate_left
                  ·
                   exact Goto.ap
                  refine pure_ (i := 20) (N := some 65) (v := ?_) (a' := ?_) (Goto.bs 25 2096127) rfl rfl (any_of HT_.out (by kernel_rfl)) (fun _ _ _ h => h) (Or.inl ⟨by rfl, ?_⟩) ?_ ?_
                  rotate_left
                  ·
                   intro w'
                   go_simp
                   with_reducible rfl
                  rotate_left
                  ·
                   exact Goto.ap
                  refine take_ (i := 21) (N := some 66) (v := ?_) (a' := ?_) (Goto.bs 25 4193279) rfl rfl (take_ofW HT_.out HW_.out (by kernel_rfl)) (fun _ _ _ h => h) (Or.inl ⟨by rfl, ?_⟩) hHeld ?_ ?_
                  rotate_left
                  ·
                   rintro w' ⟨s0, s1, s2, s3, s4, s5, s6, s7, s8, s9, s10, s11, s12, s13, s14⟩
                   go_simp
                   with_reducible rfl
                  rotate_left
                  ·
                   exact Goto.ap
                  refine one_ (i := 10) (N := some 55) (Goto.bs 25 4194303) rfl rfl (one_of HT_.out (by kernel_rfl)) (by decide) (fun K hK => ?_)
                  refine goes_ Try.func20 (by kernel_rfl) rfl #[.pointer (some ⟨gb365, 0, none⟩), .int .i64 ji21] (by rfl) rfl rfl (by (try simp only [List.map_toArray, List.map_cons, List.map_nil]); first | done | (simp only [hji21]; rfl) | rfl | (simp only [List.length_drop, List.length_take]; rfl)) ?_
                  with_reducible refine (route_Routes_Offer.calls gb365 t366 t367 A0_2 c0_2 l0_2 (some ad371) c0_3 l0_3 (fun k_ => some k_ = (v374 : Value).ownBlock) v374 t373 ji21 t376 t379 w _ ?side1 ?side2 ?side3 ?side4 ?side5 ?side6 ?side7 ?side8 A32.out).mono ?_
                  (case side1 => exact by (with_reducible repeat first | refine blk_drewN ?_ _ | refine blk_drew ?_ | refine blk_alloc ?_ _); exact BK365.out)
                  (case side2 => exact GE365.out)
                  (case side3 => repeat (first | (with_reducible first | exact HB.out | apply below_alloc | apply pw_below_drewN | apply below_drew1 | refine below_set ?_ GE361.out | refine below_set ?_ GE365.out) | exact HB.out))
                  (case side4 => exact Kd.C_kept_came (Kd.heap_slice 3 (Kd.heap_int .i64)) HR0_2.out (Goto.hx HB) (fun k_ hs_ => Or.elim hs_ (fun hs_ => (fun e_ => Kd.R_base HO375.out k_ e_.symm) hs_) (fun e_ => (by rw [e_]; exact GE365.out))))
                  (case side5 => exact HC0_2.out)
                  (case side6 => exact Kd.C_kept_came k44_heap HR0_3.out (Goto.hx HB) (fun k_ hs_ => Or.elim hs_ (fun hs_ => (fun e_ => Kd.R_base HO375.out k_ e_.symm) hs_) (fun e_ => (by rw [e_]; exact GE365.out))))
                  (case side7 => exact HC0_3.out)
                  (case side8 => exact Kd.R_tight rfl HO375.out)
                  rintro e w42 ⟨v377, v380, rfl, ho0, ho1, hi, hb, hkp⟩
                  refine ⟨_, rfl, ?_⟩
                  have n0_ := Goto.m0 (blk_kept (Goto.bx BK361) hkp (fun hs_ => Or.elim hs_ (fun hs_ => (fun e_ => (Kd.R_ne HO375.out BK361.out (by decide)) e_) hs_) (fun e_ => NB361_365.out e_)))
                  have n1_ := Goto.m0 (hi)
                  have n2_ := Goto.m0 (Kd.R_mono (ok' := fun k_ => some k_ ≠ (v380 : Value).ownBlock) ho0 (fun k_ hk_ => hk_.2))
                  have n3_ := Goto.m0 (Kd.R_mono (ok' := fun k_ => some k_ ≠ (v377 : Value).ownBlock) ho1 (fun k_ hk_ => hk_.2))
                  have n4_ := Goto.m0 (hb)
                  clear BK361; clear BK365; clear HB; clear HO375; have BK361 := n0_; have BK365 := n1_; have HO378 := n2_; have HO381 := n3_; have HB := n4_; clear n0_ n1_ n2_ n3_ n4_
                  (try clear hb)
                  (try clear hkp)
                  (try clear ho0)
                  (try clear ho1)
                  obtain ⟨Ao43, co43, eo43⟩ := Kd.R_slice HO378.out
                  (first | subst eo43 | (injection eo43 with f1_ f2_ f3_; have f4_ := f1_.symm; have f5_ := f3_.symm; clear f1_ f2_ f3_; subst f4_; subst f5_))
                  refine hK.out _ _ ⟨(blk_cell BK361.out 0).trans rfl, (blk_cell BK361.out 1).trans rfl, (blk_cell BK361.out 2).trans rfl, (blk_cell BK361.out 3).trans rfl, (Goto.kc HB.out hw382_0), (Goto.kc HB.out hw382_1), (Goto.kc HB.out hw382_2), (Goto.kc HB.out hw382_3), (Goto.kc HB.out hw382_4), (Goto.kc HB.out hw382_5), (Goto.kc HB.out hw382_6), (Goto.kc HB.out hw382_7), (Goto.kc HB.out hw382_8), (Goto.kc HB.out hw382_9), (Goto.kc HB.out hw383_0)⟩ (fun hHeld => ?_)
                  clear hK K
                  refine norm_ (a' := ?_) ?_ ?_
                  rotate_left
                  ·
                   show Act.put _ (some 55) _ = _
                   exact Goto.ap
                  refine one_ (i := 22) (N := some 67) (Goto.bs 25 8388607) rfl rfl (one_of HT_.out (by kernel_rfl)) (by decide) (fun K hK => ?_)
                  refine goes_ Try.func17 (by kernel_rfl) rfl #[.slice Ao43 t376.length co43, .slice A383_0 (rd_L1 ((rd_T44 l0_3 ji21).f1) (ji35)).length c383_0] (by rfl) rfl rfl (by (try simp only [List.map_toArray, List.map_cons, List.map_nil]); first | done | (simp only [hji21, hji35]; rfl) | rfl | (simp only [List.length_drop, List.length_take]; rfl)) ?_
                  with_reducible refine (tontineref1_SameInts.calls k2 _ _ t376 _ _ (rd_L1 ((rd_T44 l0_3 ji21).f1) (ji35)) true _ ?side1 ?side2 ?side3 ?side4 A38.out).mono ?_
                  (case side1 => repeat (first | exact (Kd.R_reads' HO378.out).2.2 | (with_reducible refine Kd.C_alloc ?_ _) | (with_reducible refine Kd.C_drewN ?_ _) | (with_reducible refine Kd.C_drew ?_)))
                  (case side2 => exact (Kd.R_reads' HO378.out).2.1)
                  (case side3 => repeat (first | exact (Kd.C_below HR383_0.out HB.out) | (with_reducible refine Kd.C_alloc ?_ _) | (with_reducible refine Kd.C_drewN ?_ _) | (with_reducible refine Kd.C_drew ?_)))
                  (case side4 => exact HC383_0.out)
                  rintro e w' ⟨rfl, ⟨nd, rfl⟩⟩
                  refine ⟨_, rfl, ?_⟩
                  refine hK.out _ _ ⟨(blk_cell BK361.out 0).trans rfl, (blk_cell BK361.out 1).trans rfl, (blk_cell BK361.out 2).trans rfl, (blk_cell BK361.out 3).trans rfl, (Goto.kc HB.out hw382_0), (Goto.kc HB.out hw382_1), (Goto.kc HB.out hw382_2), (Goto.kc HB.out hw382_3), (Goto.kc HB.out hw382_4), (Goto.kc HB.out hw382_5), (Goto.kc HB.out hw382_6), (Goto.kc HB.out hw382_7), (Goto.kc HB.out hw382_8), (Goto.kc HB.out hw382_9), (Goto.kc HB.out hw383_0)⟩ (fun hHeld => ?_)
                  clear hK K
                  refine norm_ (a' := ?_) ?_ ?_
                  rotate_left
                  ·
                   show Act.put _ (some 67) _ = _
                   exact Goto.ap
                  refine pure_ (i := 23) (N := some 68) (v := ?_) (a' := ?_) (Goto.bs 25 16777215) rfl rfl (any_of HT_.out (by kernel_rfl)) (fun _ _ _ h => h) (Or.inl ⟨by rfl, ?_⟩) ?_ ?_
                  rotate_left
                  ·
                   intro w'
                   go_simp
                   with_reducible rfl
                  rotate_left
                  ·
                   exact Goto.ap
                  refine pure_ (i := 24) (N := some 69) (v := ?_) (a' := ?_) (Goto.bs 25 33554431) rfl rfl (any_of HT_.out (by kernel_rfl)) (fun _ _ _ h => h) (Or.inl ⟨by rfl, ?_⟩) ?_ ?_
                  rotate_left
                  ·
                   intro w'
                   go_simp
                   with_reducible rfl
                  rotate_left
                  ·
                   exact Goto.ap
                  refine done_ (done_of HT_.out (by kernel_rfl)) ?_
                  try go_wp2
                  go_roundg k2
                  case measure => have := HJ5.out; have := HK2.out; omega
                  case rel => exact ⟨(wrap64 (x10_2 + 1)), (t379), (v380), (by first | rfl | (simp; done) | (simp [*]; done)), H', ⟨by have := HJ5.out; have := HK2.out; omega⟩, ⟨by (with_reducible repeat (first | apply Kd.R_alloc | apply Kd.R_drewN | apply Kd.R_drew)); exact Kd.R_mono HO381.out (fun _ hk => trivial)⟩, ⟨Goto.bx BK361⟩, ⟨Goto.bx BK365⟩, ⟨Goto.hx HB⟩⟩
                 ·
                  replace c39 := Bool.eq_false_iff.mpr c39
                  subst c39
                  rw [if_neg (show ¬ (false = true) by decide)] at H
                  exact absurd ((Option.some.inj H).trans HRT.out) (by decide)
                ·
                 rw [if_neg c37] at H
                 exact absurd H (by simp)
               ·
                rw [if_neg c36] at H
                exact absurd H (by simp)
              ·
               rw [if_neg c34] at H
               exact absurd H (by simp)
             ·
              rw [if_neg c33] at H
              exact absurd H (by simp)
            ·
             rw [if_neg c31] at H
             have c31b0 : (t372 == (Int.tmod x10_2 (((rd_T44 l0_3 (ji21)).f1).length : Int))) = false := beq_eq_false_iff_ne.mpr c31
             have c31b1 : (t372 != (Int.tmod x10_2 (((rd_T44 l0_3 (ji21)).f1).length : Int))) = true := bne_iff_ne.mpr c31
             exact absurd ((Option.some.inj H).trans HRT.out) (by decide)
          ·
           rw [if_neg c28] at H
           have c28b0 : decide (x10_2 < (wrap64 ((wrap64 (Int.tmod a2 10)) * (((rd_T44 l0_3 (ji21)).f1).length : Int)))) = false := decide_eq_false c28
           clear c28
           have H' := Goto.m0 H
           clear H
           go_wp2
           go_loopg [11] k2 (fun kq v11 w' => ∃ (x11_3 : Int) (x366004_3 : List Int) (u366004 : Value), v11 = .int .i64 x11_3 ∧ Aside0 (tontinelaw16_RouteRounds.l1 kq x11_3 a0_0 a0_1 l0_2 l0_3 t366 t367 l0_2 l0_3 x366004_3 = some r) ∧ Aside0 (kq ≤ k2) ∧ Aside0 (Kd.R (Kd.int .i64) 3 w' w.heap.size (fun _ => True) u366004 x366004_3) ∧ Aside0 (w'.heap[gb361]? = some (.cells #[.int .i64 a0_0, .int .i64 a0_1, (.slice A0_2 l0_2.length c0_2), (.slice (some ad371) l0_3.length c0_3)] 25 (0, 0))) ∧ Aside0 (w'.heap[gb365]? = some (.cells #[.int .i64 t366, .int .i64 t367, (.slice A0_2 l0_2.length c0_2), (.slice (some ad371) l0_3.length c0_3), u366004] 74 (0, 0))) ∧ Aside0 (Below w.heap.size w w'))
           case atStart => exact ⟨(0), (x366004_2), (u366004), (by first | rfl | (simp; done) | (simp [*]; done)), H', ⟨Nat.le_refl _⟩, ⟨by (with_reducible repeat (first | apply Kd.R_alloc | apply Kd.R_drewN | apply Kd.R_drew)); exact HO_366004.out⟩, ⟨Goto.bx BK361⟩, ⟨Goto.bx BK365⟩, ⟨Goto.hx HB⟩⟩
           case round =>
            clear H'
            try clear c1; try clear c2; try clear p2; try clear c3; try clear p3; try clear q3; try clear hx3; try clear c4; try clear c5; try clear p6; try clear c10; try clear c12; try clear c13; try clear c15; try clear c17; try clear c18; try clear c20; try clear c20b0; try clear c20b1; try clear c20b2; try clear c22; try clear c22b0; try clear c23; try clear c23b0; try clear c26; try clear c28; try clear c28b0; try clear c30; try clear c30b0; try clear c30b1; try clear c30b2; try clear c31; try clear c31b0; try clear c31b1; try clear c33; try clear c33b0; try clear c34; try clear c34b0; try clear c36; try clear c36b0; try clear c37; try clear c37b0; try clear p37; try clear q37; try clear hx37; try clear c38; try clear p38; try clear q38; try clear hx38; try clear c39; try clear hcz11_0; try clear hcz11_1; try clear hcz11_2; try clear hcz11_3; try clear hcz14_0; try clear hcz14_1; try clear hcz14_2; try clear hcz14_3; try clear hcz16_0; try clear hcz16_1; try clear hcz16_2; try clear hcz16_3; try clear hcz24_0; try clear hcz24_1; try clear hcz24_2; try clear hcz24_3; try clear hcz27_0; try clear hcz27_1; try clear hcz27_2; try clear hcz27_3; try clear hfz11_0; try clear hfz11_1; try clear hfz11_2; try clear hfz11_3; try clear hfz14_0; try clear hfz14_1; try clear hfz14_2; try clear hfz14_3; try clear hfz16_0; try clear hfz16_1; try clear hfz16_2; try clear hfz16_3; try clear hfz24_0; try clear hfz24_1; try clear hfz24_2; try clear hfz24_3; try clear hfz27_0; try clear hfz27_1; try clear hfz27_2; try clear hfz27_3; try clear hx371_0; try clear hx371_1; try clear hx371_2; try clear hx371_3; try clear hx371_4; try clear hx371_5; try clear hx371_6; try clear hx371_7; try clear hx371_8; try clear hx371_9; try clear hx382_0; try clear hx382_1; try clear hx382_2; try clear hx382_3; try clear hx382_4; try clear hx382_5; try clear hx382_6; try clear hx382_7; try clear hx382_8; try clear hx382_9; try clear hx383_0; try clear p2; try clear p3; try clear p371; try clear p382; try clear p383; try clear p6; try clear q3; try clear q371; try clear q382; try clear q383
            obtain ⟨x11_3, x366004_3, u366004, rfl, HA, HK3, HO_366004, BK361, BK365, HB⟩ := hrel
            cases gk with
            | zero => exact absurd HA.out (by simp [tontinelaw16_RouteRounds.l1])
            | succ k3 =>
             have H := HA.out; clear HA
             simp only [tontinelaw16_RouteRounds.l1] at H
             by_cases c44 : x11_3 < (l0_3.length : Int)
             ·
              rw [if_pos c44] at H
              have c44b0 : decide (x11_3 < (l0_3.length : Int)) = true := decide_eq_true c44
              clear c44
              replace H := Option.bind_eq_some_iff.mp H
              obtain ⟨⟨t385, t386⟩, A450, H⟩ := H
              replace H : (if t385 = 0 then (tontinelaw16_RouteRounds.l1 k3 (wrap64 (x11_3 + 1)) a0_0 a0_1 l0_2 l0_3 t366 t367 l0_2 l0_3 t386) else (some false)) = some r := H
              have A45 := Goto.m0 A450
              clear A450
              by_cases c46 : t385 = 0
              ·
               rw [if_pos c46] at H
               have c46b0 : (t385 == 0) = true := beq_iff_eq.mpr c46
               have c46b1 : (t385 != 0) = false := bne_eq_false_iff_eq.mpr c46
               clear c46
               have H' := Goto.m0 H
               clear H; have hnb47 := NB361_365.out; have hnc47 := NB365_361.out; have hcz48_0 : wr.cell? ⟨gb361, 0, none⟩ = some (.int .i64 a0_0) := (blk_cell BK361.out 0).trans rfl; have hcz48_1 : wr.cell? ⟨gb361, 1, none⟩ = some (.int .i64 a0_1) := (blk_cell BK361.out 1).trans rfl; have hcz48_2 : wr.cell? ⟨gb361, 2, none⟩ = some (.slice A0_2 l0_2.length c0_2) := (blk_cell BK361.out 2).trans rfl
               have hcz48_3 : wr.cell? ⟨gb361, 3, none⟩ = some (.slice (some ad371) l0_3.length c0_3) := (blk_cell BK361.out 3).trans rfl
               have hfz48_0 := blk_frozen BK361.out 0; have hfz48_1 := blk_frozen BK361.out 1; have hfz48_2 := blk_frozen BK361.out 2; have hfz48_3 := blk_frozen BK361.out 3
               go_wp2_with (first | ((with_reducible refine gate_callee (f := 22) rfl ?_); refine goesL_ (some 79) rfl rfl Try.func22 (by kernel_rfl) rfl #[.pointer (some ⟨gb365, 0, none⟩), .int .i64 x11_3] rfl (by (try simp only [List.map_toArray, List.map_cons, List.map_nil]); first | done | rfl | (simp only [List.length_drop, List.length_take]; rfl)) ?_; (with_reducible refine (route_Routes_Turn.calls gb365 t366 t367 A0_2 c0_2 l0_2 (some ad371) c0_3 l0_3 (fun k_ => some k_ = (u366004 : Value).ownBlock) u366004 x366004_3 x11_3 t385 t386 w _ ?side1 ?side2 ?side3 ?side4 ?side5 ?side6 ?side7 ?side8 A45.out).mono ?_); (case side1 => exact by (with_reducible repeat first | refine blk_drewN ?_ _ | refine blk_drew ?_ | refine blk_alloc ?_ _); exact BK365.out); (case side2 => exact GE365.out); (case side3 => repeat (first | (with_reducible first | exact HB.out | apply below_alloc | apply pw_below_drewN | apply below_drew1 | refine below_set ?_ GE361.out | refine below_set ?_ GE365.out) | exact HB.out)); (case side4 => exact Kd.C_kept_came (Kd.heap_slice 3 (Kd.heap_int .i64)) HR0_2.out (Goto.hx HB) (fun k_ hs_ => Or.elim hs_ (fun hs_ => (fun e_ => Kd.R_base HO_366004.out k_ e_.symm) hs_) (fun e_ => (by rw [e_]; exact GE365.out)))); (case side5 => exact HC0_2.out); (case side6 => exact Kd.C_kept_came k44_heap HR0_3.out (Goto.hx HB) (fun k_ hs_ => Or.elim hs_ (fun hs_ => (fun e_ => Kd.R_base HO_366004.out k_ e_.symm) hs_) (fun e_ => (by rw [e_]; exact GE365.out)))); (case side7 => exact HC0_3.out); (case side8 => exact Kd.R_tight rfl HO_366004.out); rintro e w49 ⟨v387, rfl, ho0, hi, hb, hkp⟩; refine ⟨_, rfl, ?_⟩; have n0_ := Goto.m0 (blk_kept (Goto.bx BK361) hkp (fun hs_ => Or.elim hs_ (fun hs_ => (fun e_ => (Kd.R_ne HO_366004.out BK361.out (by decide)) e_) hs_) (fun e_ => NB361_365.out e_))); have n1_ := Goto.m0 (hi); have n2_ := Goto.m0 (Kd.R_mono (ok' := fun k_ => True) ho0 (fun k_ hk_ => trivial)); have n3_ := Goto.m0 (hb); clear BK361; clear BK365; clear HB; clear HO_366004; have BK361 := n0_; have BK365 := n1_; have HO388 := n2_; have HB := n3_; clear n0_ n1_ n2_ n3_; (try clear hb); (try clear hkp); (try clear ho0)))
               go_roundg k3
               case measure => have := HJ5.out; have := HK2.out; have := HK3.out; omega
               case rel => exact ⟨(wrap64 (x11_3 + 1)), (t386), (v387), (by first | rfl | (simp; done) | (simp [*]; done)), H', ⟨by have := HJ5.out; have := HK2.out; have := HK3.out; omega⟩, ⟨by (with_reducible repeat (first | apply Kd.R_alloc | apply Kd.R_drewN | apply Kd.R_drew)); exact HO388.out⟩, ⟨Goto.bx BK361⟩, ⟨Goto.bx BK365⟩, ⟨Goto.hx HB⟩⟩
              ·
               rw [if_neg c46] at H
               have c46b0 : (t385 == 0) = false := beq_eq_false_iff_ne.mpr c46
               have c46b1 : (t385 != 0) = true := bne_iff_ne.mpr c46
               exact absurd ((Option.some.inj H).trans HRT.out) (by decide)
             ·
              rw [if_neg c44] at H
              have c44b0 : decide (x11_3 < (l0_3.length : Int)) = false := decide_eq_false c44
              clear c44
              obtain rfl := Option.some.inj H
              have hnb50 := NB361_365.out; have hnc50 := NB365_361.out; have hcz51_0 : wr.cell? ⟨gb361, 0, none⟩ = some (.int .i64 a0_0) := (blk_cell BK361.out 0).trans rfl; have hcz51_1 : wr.cell? ⟨gb361, 1, none⟩ = some (.int .i64 a0_1) := (blk_cell BK361.out 1).trans rfl; have hcz51_2 : wr.cell? ⟨gb361, 2, none⟩ = some (.slice A0_2 l0_2.length c0_2) := (blk_cell BK361.out 2).trans rfl
              have hcz51_3 : wr.cell? ⟨gb361, 3, none⟩ = some (.slice (some ad371) l0_3.length c0_3) := (blk_cell BK361.out 3).trans rfl
              have hfz51_0 := blk_frozen BK361.out 0; have hfz51_1 := blk_frozen BK361.out 1; have hfz51_2 := blk_frozen BK361.out 2; have hfz51_3 := blk_frozen BK361.out 3
              go_wp2
              go_ret
              exact ⟨by first | rfl | (simp [errW_none, errW_some] <;> rfl) | (simp only [← hji21]; first | rfl | (simp [errW_none, errW_some] <;> rfl)) | (simp [*, errW_none, errW_some] <;> rfl), by repeat (first | (with_reducible first | exact HB.out | apply below_alloc | apply pw_below_drewN | apply below_drew1 | refine below_set ?_ GE361.out | refine below_set ?_ GE365.out) | exact HB.out)⟩
       ·
        rw [if_neg c23] at H
        exact absurd H (by simp)
      ·
       rw [if_neg c22] at H
       exact absurd H (by simp)
 ·
  replace c5 := Bool.eq_false_iff.mpr c5
  subst c5
  rw [if_neg (show ¬ (false = true) by decide)] at H
  exact absurd ((Option.some.inj H).trans HRT.out) (by decide)

end Go.Proofs.Ytbhfkhcedjgpdaa.P
