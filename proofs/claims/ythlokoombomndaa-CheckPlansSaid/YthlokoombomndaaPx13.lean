/- Printed by a program of this workplace (a turned copy of the kit's optional print), out of the translation; not trusted: Lean checks it. -/
import Derived.Test.YthlokoombomndaaPx0
import Derived.Test.YthlokoombomndaaPx2
import Derived.Test.YthlokoombomndaaPx8
import Derived.Test.YthlokoombomndaaPx11
import Derived.Test.YthlokoombomndaaPx12
import Derived.Test.YthlokoombomndaaErrIs
namespace Go.Proofs.Ythlokoombomndaa.P
open Go.RowKit Go.Proofs.YthlokoombomndaaW.PrintWords Go.Proofs.YthlokoombomndaaW.PrintLast Go.Proofs.YthlokoombomndaaW.PrintMore
attribute [local go_sem] max2_int min2_int max_two min_two max_three min_three max_four min_four   -- for this text's walks alone
set_option linter.unusedVariables false
set_option linter.unusedSimpArgs false

/-! ### tontinelaw20_CheckPlans: function 8 -/
mutual
def tontinelaw20_CheckPlans.j0 : Nat → Int → Bool → Int → Int → List (List Int) → List (S44) → Option (Bool)
  | 0, _, _, _, _, _, _ => none
  | k + 1, x1, x17, x272000, x272001, x272002, x272003 => if x17 = true then (some true) else (if (x272003.length : Int) = 0 then (none) else (tontinelaw20_CheckPlans.l0 k (Int.tmod (wrap64 (x1)) (x272003.length : Int)) true 0 x272000 x272001 x272002 x272003))
def tontinelaw20_CheckPlans.l0 : Nat → Int → Bool → Int → Int → Int → List (List Int) → List (S44) → Option (Bool)
  | 0, _, _, _, _, _, _, _ => none
  | k + 1, x5, x6, x7, x272000, x272001, x272002, x272003 => if x7 < (x272003.length : Int) then (if x6 = true then ((check_Send.f k x272000 x272001 x272002 x272003 x5 x7).bind fun t275 => (if t275.isNone = true then (tontinelaw20_CheckPlans.l0 k x5 true (wrap64 (x7 + 1)) x272000 x272001 x272002 x272003) else (tontinelaw20_CheckPlans.l0 k x5 false (wrap64 (x7 + 1)) x272000 x272001 x272002 x272003))) else (tontinelaw20_CheckPlans.l0 k x5 false (wrap64 (x7 + 1)) x272000 x272001 x272002 x272003)) else ((check_Plan.f k x272000 x272001 x272002 x272003 x5 0).bind fun t277 => (if t277.isNone = true then (if (true == x6) = true then (if x6 = true then ((check_Plan.f k x272000 x272001 x272002 x272003 x5 (x272002.length : Int)).bind fun t279 => ((errors_Is.f t279 (some 10)).bind fun t280 => (some t280))) else ((errors_Is.f none (some 15)).bind fun t281 => (if t281 = true then (some true) else (some false)))) else (some false)) else (if (false == x6) = true then (if x6 = true then ((check_Plan.f k x272000 x272001 x272002 x272003 x5 (x272002.length : Int)).bind fun t282 => ((errors_Is.f t282 (some 10)).bind fun t283 => (some t283))) else ((errors_Is.f (some (t277.getD 0)) (some 15)).bind fun t284 => (if t284 = true then (some true) else (some false)))) else (some false))))
end
def tontinelaw20_CheckPlans.f (k : Nat) (a0_0 : Int) (a0_1 : Int) (l0_2 : List (List Int)) (l0_3 : List (S44)) (a1 : Int) : Option (Bool) := (tontinelaw20_known.f k).bind fun t272 => (if t272 = true then ((tontinehelp_WideConf.f k a0_0 a0_1 l0_2 l0_3).bind fun t273 => (if t273 = true then (tontinelaw20_CheckPlans.j0 k a1 true a0_0 a0_1 l0_2 l0_3) else ((tontineref1_IsConf.f k a0_0 a0_1 l0_2 l0_3).bind fun t274 => (tontinelaw20_CheckPlans.j0 k a1 (t274 != 0) a0_0 a0_1 l0_2 l0_3)))) else (some false))
theorem tontinelaw20_CheckPlans.mono_l : ∀ k, (∀ y0 y1 y2 y3 y4 y5, LeO (tontinelaw20_CheckPlans.j0 k y0 y1 y2 y3 y4 y5) (tontinelaw20_CheckPlans.j0 (k + 1) y0 y1 y2 y3 y4 y5)) ∧ (∀ y0 y1 y2 y3 y4 y5 y6, LeO (tontinelaw20_CheckPlans.l0 k y0 y1 y2 y3 y4 y5 y6) (tontinelaw20_CheckPlans.l0 (k + 1) y0 y1 y2 y3 y4 y5 y6))
  | 0 => ⟨fun _ _ _ _ _ _ r h => by simp [tontinelaw20_CheckPlans.j0] at h, fun _ _ _ _ _ _ _ r h => by simp [tontinelaw20_CheckPlans.l0] at h⟩
  | k + 1 => by
    obtain ⟨ih0, ih1⟩ := tontinelaw20_CheckPlans.mono_l k
    refine ⟨?_, ?_⟩
    · intro y0 y1 y2 y3 y4 y5
      unfold tontinelaw20_CheckPlans.j0
      repeat' first
      | (with_reducible exact ih0 _ _ _ _ _ _)
      | (with_reducible exact ih1 _ _ _ _ _ _ _)
      | (with_reducible exact check_Plan.mono _ _ _ _ _ _ _)
      | (with_reducible exact check_Send.mono _ _ _ _ _ _ _)
      | (with_reducible exact tontinehelp_WideConf.mono _ _ _ _ _)
      | (with_reducible exact tontinelaw20_known.mono _)
      | (with_reducible exact tontineref1_IsConf.mono _ _ _ _ _)
      | (with_reducible exact LeO.refl _)
      | (with_reducible exact LeO.none _)
      | (with_reducible refine LeO.ite ?_ ?_)
      | (with_reducible refine LeO.bind ?_ (fun _ => ?_))
      | exact ih0 _ _ _ _ _ _
      | exact ih1 _ _ _ _ _ _ _
      | exact check_Plan.mono _ _ _ _ _ _ _
      | exact check_Send.mono _ _ _ _ _ _ _
      | exact tontinehelp_WideConf.mono _ _ _ _ _
      | exact tontinelaw20_known.mono _
      | exact tontineref1_IsConf.mono _ _ _ _ _
      | exact LeO.none _
      | refine LeO.ite ?_ ?_
      | refine LeO.bind ?_ (fun _ => ?_)
    · intro y0 y1 y2 y3 y4 y5 y6
      unfold tontinelaw20_CheckPlans.l0
      repeat' first
      | (with_reducible exact ih0 _ _ _ _ _ _)
      | (with_reducible exact ih1 _ _ _ _ _ _ _)
      | (with_reducible exact check_Plan.mono _ _ _ _ _ _ _)
      | (with_reducible exact check_Send.mono _ _ _ _ _ _ _)
      | (with_reducible exact tontinehelp_WideConf.mono _ _ _ _ _)
      | (with_reducible exact tontinelaw20_known.mono _)
      | (with_reducible exact tontineref1_IsConf.mono _ _ _ _ _)
      | (with_reducible exact LeO.refl _)
      | (with_reducible exact LeO.none _)
      | (with_reducible refine LeO.ite ?_ ?_)
      | (with_reducible refine LeO.bind ?_ (fun _ => ?_))
      | exact ih0 _ _ _ _ _ _
      | exact ih1 _ _ _ _ _ _ _
      | exact check_Plan.mono _ _ _ _ _ _ _
      | exact check_Send.mono _ _ _ _ _ _ _
      | exact tontinehelp_WideConf.mono _ _ _ _ _
      | exact tontinelaw20_known.mono _
      | exact tontineref1_IsConf.mono _ _ _ _ _
      | exact LeO.none _
      | refine LeO.ite ?_ ?_
      | refine LeO.bind ?_ (fun _ => ?_)
theorem tontinelaw20_CheckPlans.mono : ∀ a0 a1 a2 a3 a4 k, LeO (tontinelaw20_CheckPlans.f k a0 a1 a2 a3 a4) (tontinelaw20_CheckPlans.f (k + 1) a0 a1 a2 a3 a4) := by
 intro a0 a1 a2 a3 a4 k
 obtain ⟨ih0, ih1⟩ := tontinelaw20_CheckPlans.mono_l k
 unfold tontinelaw20_CheckPlans.f
 repeat' first
   | (with_reducible exact ih0 _ _ _ _ _ _)
   | (with_reducible exact ih1 _ _ _ _ _ _ _)
   | (with_reducible exact check_Plan.mono _ _ _ _ _ _ _)
   | (with_reducible exact check_Send.mono _ _ _ _ _ _ _)
   | (with_reducible exact tontinehelp_WideConf.mono _ _ _ _ _)
   | (with_reducible exact tontinelaw20_known.mono _)
   | (with_reducible exact tontineref1_IsConf.mono _ _ _ _ _)
   | (with_reducible exact LeO.refl _)
   | (with_reducible exact LeO.none _)
   | (with_reducible refine LeO.ite ?_ ?_)
   | (with_reducible refine LeO.bind ?_ (fun _ => ?_))
   | exact ih0 _ _ _ _ _ _
   | exact ih1 _ _ _ _ _ _ _
   | exact check_Plan.mono _ _ _ _ _ _ _
   | exact check_Send.mono _ _ _ _ _ _ _
   | exact tontinehelp_WideConf.mono _ _ _ _ _
   | exact tontinelaw20_known.mono _
   | exact tontineref1_IsConf.mono _ _ _ _ _
   | exact LeO.none _
   | refine LeO.ite ?_ ?_
   | refine LeO.bind ?_ (fun _ => ?_)
set_option maxHeartbeats 8000000 in
set_option maxRecDepth 100000 in
theorem tontinelaw20_CheckPlans.calls (k : Nat) (a0_0 : Int) (a0_1 : Int) (A0_2 : Option Addr) (c0_2 : Nat) (l0_2 : List (List Int)) (A0_3 : Option Addr) (c0_3 : Nat) (l0_3 : List (S44)) (a1 : Int) (r : Bool) (hrt : r = true) (w : World) (hr0_2 : Kd.C (Kd.slice 3 (Kd.int .i64)) w A0_2 l0_2.length l0_2) (hc0_2 : l0_2.length ≤ c0_2) (hr0_3 : Kd.C k44 w A0_3 l0_3.length l0_3) (hc0_3 : l0_3.length ≤ c0_3) (h : tontinelaw20_CheckPlans.f k a0_0 a0_1 l0_2 l0_3 a1 = some r) :
    Calls Try.prog 8 #[.agg #[.int .i64 a0_0, .int .i64 a0_1, .slice A0_2 l0_2.length c0_2, .slice A0_3 l0_3.length c0_3], .int .u8 a1] w fun e w' => e = .returned (.bool r) ∧ Below w.heap.size w w' := by
 have hu25 := Try.underlying25; have hu50 := Try.underlying50; have hu54 := Try.underlying54
 have HR0_2 := Goto.m0 hr0_2
 have HC0_2 := Goto.m0 hc0_2
 clear hr0_2 hc0_2
 have HR0_3 := Goto.m0 hr0_3
 have HC0_3 := Goto.m0 hc0_3
 clear hr0_3 hc0_3
 have HB := Goto.m0 (Below.refl w.heap.size w)
 have HRT := Goto.m0 hrt
 clear hrt
 have H : ((tontinelaw20_known.f k).bind fun t272 => (if t272 = true then ((tontinehelp_WideConf.f k a0_0 a0_1 l0_2 l0_3).bind fun t273 => (if t273 = true then (tontinelaw20_CheckPlans.j0 k a1 true a0_0 a0_1 l0_2 l0_3) else ((tontineref1_IsConf.f k a0_0 a0_1 l0_2 l0_3).bind fun t274 => (tontinelaw20_CheckPlans.j0 k a1 (t274 != 0) a0_0 a0_1 l0_2 l0_3)))) else (some false))) = some r := h
 clear h
 replace H := Option.bind_eq_some_iff.mp H
 obtain ⟨t272, A30, H⟩ := H
 have A3 := Goto.m0 A30
 clear A30
 by_cases c4 : t272 = true
 ·
  subst c4
  rw [if_pos rfl] at H
  have HC5 := Goto.m0 H
  clear H
  go_enter Try.func8, Try.ntmps8
  go_upto_region 3 with (first | ((with_reducible refine gate_dst (N := 2) rfl ?_); (try (refine gate_guard (by rfl) ?_; dsimp only)); refine box_event ?hg (N := 2) ?hd (cs := #[.int .i64 a0_0, .int .i64 a0_1, .slice A0_2 l0_2.length c0_2, .slice A0_3 l0_3.length c0_3]) (t := 25) ?hr ?_; (case hd => rfl); (case hg => rfl); (case hr => first | (go_simp; done) | (go_simp; rfl)); intro gb271 hg w6 hbox hb; have n0_ := Goto.m0 (below_step (by repeat (first | (with_reducible first | exact HB.out | apply below_alloc | apply pw_below_drewN | apply below_drew1) | exact HB.out)) hb); have n1_ := Goto.m0 (hbox); have n2_ := Goto.m0 ((by rw [hg]; exact (below_size (by repeat (first | (with_reducible first | exact HB.out | apply below_alloc | apply pw_below_drewN | apply below_drew1) | exact HB.out))) : w.heap.size ≤ gb271)); have n3_ := Goto.m0 ((by rw [hg]; exact (below_size (by repeat (first | (with_reducible first | exact HB.out | apply below_alloc | apply pw_below_drewN | apply below_drew1) | exact HB.out))) : w.heap.size ≤ gb271)); clear HB; have HB := n0_; have BK271 := n1_; have GW271 := n2_; have GE271 := n3_; clear n0_ n1_ n2_ n3_; clear hb hbox hg) | ((with_reducible refine gate_callee (f := 26) rfl ?_); refine goesL_ (some 9) rfl rfl Try.func26 (by kernel_rfl) rfl #[] rfl (by (try simp only [List.map_toArray, List.map_cons, List.map_nil]); first | done | rfl | (simp only [List.length_drop, List.length_take]; rfl)) ?_; (with_reducible refine (tontinelaw20_known.calls k  true (by first | rfl | assumption | (simp only [Bool.not_eq_true, Bool.not_eq_false] at *; assumption)) _ A3.out).mono ?_); rintro e w7 ⟨rfl, hb⟩; refine ⟨_, rfl, ?_⟩; have n0_ := Goto.m0 (blk_below (g := gb271) (o := .cells #[.int .i64 a0_0, .int .i64 a0_1, .slice A0_2 l0_2.length c0_2, .slice A0_3 l0_3.length c0_3] 25 (0, 0)) (by (with_reducible repeat first | refine blk_drewN ?_ _ | refine blk_drew ?_ | refine blk_alloc ?_ _); exact BK271.out) hb); have n1_ := Goto.m0 (below_step (by repeat (first | (with_reducible first | exact HB.out | apply below_alloc | apply pw_below_drewN | apply below_drew1 | refine below_set ?_ GE271.out) | exact HB.out)) hb); clear BK271; clear HB; have BK271 := n0_; have HB := n1_; clear n0_ n1_; (try clear hb); (try clear hb2); (try clear hk); (try clear hi)))
  (try simp only [Act.put, List.setIfInBounds_toArray, List.set_cons_zero, List.set_cons_succ])
  go_cut [17] (fun v17 wc => ∃ (kq : Nat) (x17_4 : Bool), v17 = .bool x17_4 ∧ Aside0 (tontinelaw20_CheckPlans.j0 kq a1 x17_4 a0_0 a0_1 l0_2 l0_3 = some r) ∧ Aside0 (kq ≤ k) ∧ Aside0 (wc.heap[gb271]? = some (.cells #[.int .i64 a0_0, .int .i64 a0_1, (.slice A0_2 l0_2.length c0_2), (.slice A0_3 l0_3.length c0_3)] 25 (0, 0))) ∧ Aside0 (Below w.heap.size w wc))
  case first =>
   have H := HC5.out; clear HC5
   replace H := Option.bind_eq_some_iff.mp H
   obtain ⟨t273, A80, H⟩ := H
   have A8 := Goto.m0 A80
   clear A80
   by_cases c9 : t273 = true
   ·
    subst c9
    rw [if_pos rfl] at H
    have H' := Goto.m0 H
    clear H; have hcz10_0 : w7.cell? ⟨gb271, 0, none⟩ = some (.int .i64 a0_0) := (blk_cell BK271.out 0).trans rfl; have hcz10_1 : w7.cell? ⟨gb271, 1, none⟩ = some (.int .i64 a0_1) := (blk_cell BK271.out 1).trans rfl; have hcz10_2 : w7.cell? ⟨gb271, 2, none⟩ = some (.slice A0_2 l0_2.length c0_2) := (blk_cell BK271.out 2).trans rfl; have hcz10_3 : w7.cell? ⟨gb271, 3, none⟩ = some (.slice A0_3 l0_3.length c0_3) := (blk_cell BK271.out 3).trans rfl; have hfz10_0 := blk_frozen BK271.out 0; have hfz10_1 := blk_frozen BK271.out 1; have hfz10_2 := blk_frozen BK271.out 2; have hfz10_3 := blk_frozen BK271.out 3
    go_wp2_with (first | ((with_reducible refine gate_callee (f := 13) rfl ?_); refine goesL_ (some 12) rfl rfl Try.func13 (by kernel_rfl) rfl #[.agg #[.int .i64 a0_0, .int .i64 a0_1, .slice A0_2 l0_2.length c0_2, .slice A0_3 l0_3.length c0_3]] rfl (by (try simp only [List.map_toArray, List.map_cons, List.map_nil]); first | done | rfl | (simp only [List.length_drop, List.length_take]; rfl)) ?_; (with_reducible refine (tontinehelp_WideConf.calls k a0_0 a0_1 _ _ l0_2 _ _ l0_3 true _ ?side1 ?side2 ?side3 ?side4 A8.out).mono ?_); (case side1 => repeat (first | exact (Kd.C_below HR0_2.out HB.out) | (with_reducible refine Kd.C_alloc ?_ _) | (with_reducible refine Kd.C_drewN ?_ _) | (with_reducible refine Kd.C_drew ?_))); (case side2 => exact HC0_2.out); (case side3 => repeat (first | exact (Kd.C_below HR0_3.out HB.out) | (with_reducible refine Kd.C_alloc ?_ _) | (with_reducible refine Kd.C_drewN ?_ _) | (with_reducible refine Kd.C_drew ?_))); (case side4 => exact HC0_3.out); rintro e w11 ⟨rfl, hb⟩; refine ⟨_, rfl, ?_⟩; have n0_ := Goto.m0 (blk_below (g := gb271) (o := .cells #[.int .i64 a0_0, .int .i64 a0_1, .slice A0_2 l0_2.length c0_2, .slice A0_3 l0_3.length c0_3] 25 (0, 0)) (by (with_reducible repeat first | refine blk_drewN ?_ _ | refine blk_drew ?_ | refine blk_alloc ?_ _); exact BK271.out) hb); have n1_ := Goto.m0 (below_step (by repeat (first | (with_reducible first | exact HB.out | apply below_alloc | apply pw_below_drewN | apply below_drew1 | refine below_set ?_ GE271.out) | exact HB.out)) hb); clear BK271; clear HB; have BK271 := n0_; have HB := n1_; clear n0_ n1_; (try clear hb); (try clear hb2); (try clear hk); (try clear hi)))
    go_meet
    case rel => exact ⟨_, (true), (by first | rfl | (simp; done) | (simp [*]; done)), H', ⟨by first | omega | exact Nat.le_refl _⟩, ⟨by (with_reducible repeat first | refine blk_drewN ?_ _ | refine blk_drew ?_ | refine blk_alloc ?_ _); exact BK271.out⟩, ⟨by repeat (first | (with_reducible first | exact HB.out | apply below_alloc | apply pw_below_drewN | apply below_drew1 | refine below_set ?_ GE271.out) | exact HB.out)⟩⟩
   ·
    replace c9 := Bool.eq_false_iff.mpr c9
    subst c9
    rw [if_neg (show ¬ (false = true) by decide)] at H
    replace H := Option.bind_eq_some_iff.mp H
    obtain ⟨t274, A120, H⟩ := H
    have A12 := Goto.m0 A120
    clear A120
    have H' := Goto.m0 H
    clear H; have hcz13_0 : w7.cell? ⟨gb271, 0, none⟩ = some (.int .i64 a0_0) := (blk_cell BK271.out 0).trans rfl; have hcz13_1 : w7.cell? ⟨gb271, 1, none⟩ = some (.int .i64 a0_1) := (blk_cell BK271.out 1).trans rfl; have hcz13_2 : w7.cell? ⟨gb271, 2, none⟩ = some (.slice A0_2 l0_2.length c0_2) := (blk_cell BK271.out 2).trans rfl; have hcz13_3 : w7.cell? ⟨gb271, 3, none⟩ = some (.slice A0_3 l0_3.length c0_3) := (blk_cell BK271.out 3).trans rfl; have hfz13_0 := blk_frozen BK271.out 0; have hfz13_1 := blk_frozen BK271.out 1; have hfz13_2 := blk_frozen BK271.out 2; have hfz13_3 := blk_frozen BK271.out 3
    go_wp2_with (first | ((with_reducible refine gate_callee (f := 13) rfl ?_); refine goesL_ (some 12) rfl rfl Try.func13 (by kernel_rfl) rfl #[.agg #[.int .i64 a0_0, .int .i64 a0_1, .slice A0_2 l0_2.length c0_2, .slice A0_3 l0_3.length c0_3]] rfl (by (try simp only [List.map_toArray, List.map_cons, List.map_nil]); first | done | rfl | (simp only [List.length_drop, List.length_take]; rfl)) ?_; (with_reducible refine (tontinehelp_WideConf.calls k a0_0 a0_1 _ _ l0_2 _ _ l0_3 false _ ?side1 ?side2 ?side3 ?side4 A8.out).mono ?_); (case side1 => repeat (first | exact (Kd.C_below HR0_2.out HB.out) | (with_reducible refine Kd.C_alloc ?_ _) | (with_reducible refine Kd.C_drewN ?_ _) | (with_reducible refine Kd.C_drew ?_))); (case side2 => exact HC0_2.out); (case side3 => repeat (first | exact (Kd.C_below HR0_3.out HB.out) | (with_reducible refine Kd.C_alloc ?_ _) | (with_reducible refine Kd.C_drewN ?_ _) | (with_reducible refine Kd.C_drew ?_))); (case side4 => exact HC0_3.out); rintro e w14 ⟨rfl, hb⟩; refine ⟨_, rfl, ?_⟩; have n0_ := Goto.m0 (blk_below (g := gb271) (o := .cells #[.int .i64 a0_0, .int .i64 a0_1, .slice A0_2 l0_2.length c0_2, .slice A0_3 l0_3.length c0_3] 25 (0, 0)) (by (with_reducible repeat first | refine blk_drewN ?_ _ | refine blk_drew ?_ | refine blk_alloc ?_ _); exact BK271.out) hb); have n1_ := Goto.m0 (below_step (by repeat (first | (with_reducible first | exact HB.out | apply below_alloc | apply pw_below_drewN | apply below_drew1 | refine below_set ?_ GE271.out) | exact HB.out)) hb); clear BK271; clear HB; have BK271 := n0_; have HB := n1_; clear n0_ n1_; (try clear hb); (try clear hb2); (try clear hk); (try clear hi); have hcz15_0 : w14.cell? ⟨gb271, 0, none⟩ = some (.int .i64 a0_0) := (blk_cell BK271.out 0).trans rfl; have hcz15_1 : w14.cell? ⟨gb271, 1, none⟩ = some (.int .i64 a0_1) := (blk_cell BK271.out 1).trans rfl; have hcz15_2 : w14.cell? ⟨gb271, 2, none⟩ = some (.slice A0_2 l0_2.length c0_2) := (blk_cell BK271.out 2).trans rfl; have hcz15_3 : w14.cell? ⟨gb271, 3, none⟩ = some (.slice A0_3 l0_3.length c0_3) := (blk_cell BK271.out 3).trans rfl; have hfz15_0 := blk_frozen BK271.out 0; have hfz15_1 := blk_frozen BK271.out 1; have hfz15_2 := blk_frozen BK271.out 2; have hfz15_3 := blk_frozen BK271.out 3) | (go_at_call 14; (with_reducible refine (tontineref1_IsConf.calls k a0_0 a0_1 _ _ l0_2 _ _ l0_3 t274 _ ?side1 ?side2 ?side3 ?side4 A12.out).mono ?_); (case side1 => repeat (first | exact (Kd.C_below HR0_2.out HB.out) | (with_reducible refine Kd.C_alloc ?_ _) | (with_reducible refine Kd.C_drewN ?_ _) | (with_reducible refine Kd.C_drew ?_))); (case side2 => exact HC0_2.out); (case side3 => repeat (first | exact (Kd.C_below HR0_3.out HB.out) | (with_reducible refine Kd.C_alloc ?_ _) | (with_reducible refine Kd.C_drewN ?_ _) | (with_reducible refine Kd.C_drew ?_))); (case side4 => exact HC0_3.out); rintro e w16 ⟨rfl, hb⟩; have n0_ := Goto.m0 (blk_below (g := gb271) (o := .cells #[.int .i64 a0_0, .int .i64 a0_1, .slice A0_2 l0_2.length c0_2, .slice A0_3 l0_3.length c0_3] 25 (0, 0)) (by (with_reducible repeat first | refine blk_drewN ?_ _ | refine blk_drew ?_ | refine blk_alloc ?_ _); exact BK271.out) hb); have n1_ := Goto.m0 (below_step (by repeat (first | (with_reducible first | exact HB.out | apply below_alloc | apply pw_below_drewN | apply below_drew1 | refine below_set ?_ GE271.out) | exact HB.out)) hb); clear BK271; clear HB; have BK271 := n0_; have HB := n1_; clear n0_ n1_; (try clear hb); (try clear hb2); (try clear hk); (try clear hi)))
    go_meet
    case rel => exact ⟨_, ((t274 != 0)), (by first | rfl | (simp; done) | (simp [*]; done)), H', ⟨by first | omega | exact Nat.le_refl _⟩, ⟨by (with_reducible repeat first | refine blk_drewN ?_ _ | refine blk_drew ?_ | refine blk_alloc ?_ _); exact BK271.out⟩, ⟨by repeat (first | (with_reducible first | exact HB.out | apply below_alloc | apply pw_below_drewN | apply below_drew1 | refine below_set ?_ GE271.out) | exact HB.out)⟩⟩
  case rest =>
   clear HC5; try clear c1; try clear c2; try clear p2; try clear c4; try clear c8; try clear c9; try clear c13; try clear hcz10_0; try clear hcz10_1; try clear hcz10_2; try clear hcz10_3; try clear hcz13_0; try clear hcz13_1; try clear hcz13_2; try clear hcz13_3; try clear hcz15_0; try clear hcz15_1; try clear hcz15_2; try clear hcz15_3; try clear hfz10_0; try clear hfz10_1; try clear hfz10_2; try clear hfz10_3; try clear hfz13_0; try clear hfz13_1; try clear hfz13_2; try clear hfz13_3; try clear hfz15_0; try clear hfz15_1; try clear hfz15_2; try clear hfz15_3
   obtain ⟨kq, x17_4, rfl, HA, HJ4, BK271, HB⟩ := hcut
   cases kq with
   | zero => exact absurd HA.out (by simp [tontinelaw20_CheckPlans.j0])
   | succ kj4 =>
    have H := HA.out; clear HA
    simp only [tontinelaw20_CheckPlans.j0] at H
    by_cases c17 : x17_4 = true
    ·
     subst c17
     rw [if_pos rfl] at H
     obtain rfl := Option.some.inj H
     go_wp2
     go_ret
     exact ⟨by first | rfl | (simp [errW_none, errW_some] <;> rfl) | (simp [*, errW_none, errW_some] <;> rfl), by repeat (first | (with_reducible first | exact HB.out | apply below_alloc | apply pw_below_drewN | apply below_drew1 | refine below_set ?_ GE271.out) | exact HB.out)⟩
    ·
     replace c17 := Bool.eq_false_iff.mpr c17
     subst c17
     rw [if_neg (show ¬ (false = true) by decide)] at H
     by_cases c18 : (l0_3.length : Int) = 0
     ·
      rw [if_pos c18] at H
      exact absurd H (by simp)
     ·
      rw [if_neg c18] at H
      have c18b0 : ((l0_3.length : Int) == 0) = false := beq_eq_false_iff_ne.mpr c18
      have c18b1 : ((l0_3.length : Int) != 0) = true := bne_iff_ne.mpr c18
      have c18b2 : ¬ (l0_3 = []) := fun h_ => c18 (by rw [h_]; rfl)
      have H' := Goto.m0 H
      clear H; have hcz19_0 : wc.cell? ⟨gb271, 0, none⟩ = some (.int .i64 a0_0) := (blk_cell BK271.out 0).trans rfl; have hcz19_1 : wc.cell? ⟨gb271, 1, none⟩ = some (.int .i64 a0_1) := (blk_cell BK271.out 1).trans rfl; have hcz19_2 : wc.cell? ⟨gb271, 2, none⟩ = some (.slice A0_2 l0_2.length c0_2) := (blk_cell BK271.out 2).trans rfl; have hcz19_3 : wc.cell? ⟨gb271, 3, none⟩ = some (.slice A0_3 l0_3.length c0_3) := (blk_cell BK271.out 3).trans rfl; have hfz19_0 := blk_frozen BK271.out 0; have hfz19_1 := blk_frozen BK271.out 1; have hfz19_2 := blk_frozen BK271.out 2; have hfz19_3 := blk_frozen BK271.out 3
      go_wp2
      go_loopg [6, 7] kj4 (fun kq v6 v7 w' => ∃ (x6_2 : Bool) (x7_2 : Int), v6 = .bool x6_2 ∧ v7 = .int .i64 x7_2 ∧ Aside0 (tontinelaw20_CheckPlans.l0 kq (Int.tmod (wrap64 (a1)) (l0_3.length : Int)) x6_2 x7_2 a0_0 a0_1 l0_2 l0_3 = some r) ∧ Aside0 (kq ≤ kj4) ∧ Aside0 (w'.heap[gb271]? = some (.cells #[.int .i64 a0_0, .int .i64 a0_1, (.slice A0_2 l0_2.length c0_2), (.slice A0_3 l0_3.length c0_3)] 25 (0, 0))) ∧ Aside0 (Below w.heap.size w w'))
      case atStart => exact ⟨(true), (0), (by first | rfl | (simp; done) | (simp [*]; done)), (by first | rfl | (simp; done) | (simp [*]; done)), H', ⟨Nat.le_refl _⟩, ⟨by (with_reducible repeat first | refine blk_drewN ?_ _ | refine blk_drew ?_ | refine blk_alloc ?_ _); exact BK271.out⟩, ⟨by repeat (first | (with_reducible first | exact HB.out | apply below_alloc | apply pw_below_drewN | apply below_drew1 | refine below_set ?_ GE271.out) | exact HB.out)⟩⟩
      case round =>
       clear H'
       try clear c1; try clear c2; try clear p2; try clear c4; try clear p6; try clear c8; try clear c9; try clear c13; try clear c17; try clear c18; try clear c18b0; try clear c18b1; try clear c18b2; try clear hcz10_0; try clear hcz10_1; try clear hcz10_2; try clear hcz10_3; try clear hcz13_0; try clear hcz13_1; try clear hcz13_2; try clear hcz13_3; try clear hcz15_0; try clear hcz15_1; try clear hcz15_2; try clear hcz15_3; try clear hcz19_0; try clear hcz19_1; try clear hcz19_2; try clear hcz19_3; try clear hfz10_0; try clear hfz10_1; try clear hfz10_2; try clear hfz10_3; try clear hfz13_0; try clear hfz13_1; try clear hfz13_2; try clear hfz13_3; try clear hfz15_0; try clear hfz15_1; try clear hfz15_2; try clear hfz15_3; try clear hfz19_0; try clear hfz19_1; try clear hfz19_2; try clear hfz19_3; try clear p2
       obtain ⟨x6_2, x7_2, rfl, rfl, HA, HK2, BK271, HB⟩ := hrel
       cases gk with
       | zero => exact absurd HA.out (by simp [tontinelaw20_CheckPlans.l0])
       | succ k2 =>
        have H := HA.out; clear HA
        simp only [tontinelaw20_CheckPlans.l0] at H
        by_cases c20 : x7_2 < (l0_3.length : Int)
        ·
         rw [if_pos c20] at H
         have c20b0 : decide (x7_2 < (l0_3.length : Int)) = true := decide_eq_true c20
         clear c20
         by_cases c21 : x6_2 = true
         ·
          subst c21
          rw [if_pos rfl] at H
          replace H := Option.bind_eq_some_iff.mp H
          obtain ⟨t275, A220, H⟩ := H
          have A22 := Goto.m0 A220
          clear A220
          rcases t275 with _ | q276
          ·
           have H1 : (tontinelaw20_CheckPlans.l0 k2 (Int.tmod (wrap64 (a1)) (l0_3.length : Int)) true (wrap64 (x7_2 + 1)) a0_0 a0_1 l0_2 l0_3) = some r := by rw [if_pos (show (none : Option Int).isNone = true by rfl)] at H; exact H
           clear H; have H := H1; clear H1
           try simp only [errW_none, errW_some]
           have H' := Goto.m0 H
           clear H; have hcz23_0 : wr.cell? ⟨gb271, 0, none⟩ = some (.int .i64 a0_0) := (blk_cell BK271.out 0).trans rfl; have hcz23_1 : wr.cell? ⟨gb271, 1, none⟩ = some (.int .i64 a0_1) := (blk_cell BK271.out 1).trans rfl; have hcz23_2 : wr.cell? ⟨gb271, 2, none⟩ = some (.slice A0_2 l0_2.length c0_2) := (blk_cell BK271.out 2).trans rfl; have hcz23_3 : wr.cell? ⟨gb271, 3, none⟩ = some (.slice A0_3 l0_3.length c0_3) := (blk_cell BK271.out 3).trans rfl; have hfz23_0 := blk_frozen BK271.out 0; have hfz23_1 := blk_frozen BK271.out 1; have hfz23_2 := blk_frozen BK271.out 2; have hfz23_3 := blk_frozen BK271.out 3
           go_wp2_with (first | (go_at_call 28; (with_reducible refine (check_Send.calls k2 a0_0 a0_1 _ _ l0_2 _ _ l0_3 (Int.tmod (wrap64 (a1)) (l0_3.length : Int)) x7_2 none _ ?side1 ?side2 ?side3 ?side4 A22.out).mono ?_); (case side1 => repeat (first | exact (Kd.C_below HR0_2.out HB.out) | (with_reducible refine Kd.C_alloc ?_ _) | (with_reducible refine Kd.C_drewN ?_ _) | (with_reducible refine Kd.C_drew ?_))); (case side2 => exact HC0_2.out); (case side3 => repeat (first | exact (Kd.C_below HR0_3.out HB.out) | (with_reducible refine Kd.C_alloc ?_ _) | (with_reducible refine Kd.C_drewN ?_ _) | (with_reducible refine Kd.C_drew ?_))); (case side4 => exact HC0_3.out); rintro e w24 ⟨rfl, hb⟩; have n0_ := Goto.m0 (blk_below (g := gb271) (o := .cells #[.int .i64 a0_0, .int .i64 a0_1, .slice A0_2 l0_2.length c0_2, .slice A0_3 l0_3.length c0_3] 25 (0, 0)) (by (with_reducible repeat first | refine blk_drewN ?_ _ | refine blk_drew ?_ | refine blk_alloc ?_ _); exact BK271.out) hb); have n1_ := Goto.m0 (below_step (by repeat (first | (with_reducible first | exact HB.out | apply below_alloc | apply pw_below_drewN | apply below_drew1 | refine below_set ?_ GE271.out) | exact HB.out)) hb); clear BK271; clear HB; have BK271 := n0_; have HB := n1_; clear n0_ n1_; (try clear hb); (try clear hb2); (try clear hk); (try clear hi); (try simp only [errW_none, errW_some])))
           go_roundg k2
           case measure => have := HJ4.out; have := HK2.out; omega
           case rel => exact ⟨(true), (wrap64 (x7_2 + 1)), (by first | rfl | (simp; done) | (simp [*]; done)), (by first | rfl | (simp; done) | (simp [*]; done)), H', ⟨by have := HJ4.out; have := HK2.out; omega⟩, ⟨by (with_reducible repeat first | refine blk_drewN ?_ _ | refine blk_drew ?_ | refine blk_alloc ?_ _); exact BK271.out⟩, ⟨by repeat (first | (with_reducible first | exact HB.out | apply below_alloc | apply pw_below_drewN | apply below_drew1 | refine below_set ?_ GE271.out) | exact HB.out)⟩⟩
          ·
           have H1 : (tontinelaw20_CheckPlans.l0 k2 (Int.tmod (wrap64 (a1)) (l0_3.length : Int)) false (wrap64 (x7_2 + 1)) a0_0 a0_1 l0_2 l0_3) = some r := by rw [if_neg (show ¬ (some q276).isNone = true by simp)] at H; exact H
           clear H; have H := H1; clear H1
           try simp only [errW_none, errW_some]
           have H' := Goto.m0 H
           clear H; have hcz25_0 : wr.cell? ⟨gb271, 0, none⟩ = some (.int .i64 a0_0) := (blk_cell BK271.out 0).trans rfl; have hcz25_1 : wr.cell? ⟨gb271, 1, none⟩ = some (.int .i64 a0_1) := (blk_cell BK271.out 1).trans rfl; have hcz25_2 : wr.cell? ⟨gb271, 2, none⟩ = some (.slice A0_2 l0_2.length c0_2) := (blk_cell BK271.out 2).trans rfl; have hcz25_3 : wr.cell? ⟨gb271, 3, none⟩ = some (.slice A0_3 l0_3.length c0_3) := (blk_cell BK271.out 3).trans rfl; have hfz25_0 := blk_frozen BK271.out 0; have hfz25_1 := blk_frozen BK271.out 1; have hfz25_2 := blk_frozen BK271.out 2; have hfz25_3 := blk_frozen BK271.out 3
           go_wp2_with (first | (go_at_call 28; (with_reducible refine (check_Send.calls k2 a0_0 a0_1 _ _ l0_2 _ _ l0_3 (Int.tmod (wrap64 (a1)) (l0_3.length : Int)) x7_2 (some q276) _ ?side1 ?side2 ?side3 ?side4 A22.out).mono ?_); (case side1 => repeat (first | exact (Kd.C_below HR0_2.out HB.out) | (with_reducible refine Kd.C_alloc ?_ _) | (with_reducible refine Kd.C_drewN ?_ _) | (with_reducible refine Kd.C_drew ?_))); (case side2 => exact HC0_2.out); (case side3 => repeat (first | exact (Kd.C_below HR0_3.out HB.out) | (with_reducible refine Kd.C_alloc ?_ _) | (with_reducible refine Kd.C_drewN ?_ _) | (with_reducible refine Kd.C_drew ?_))); (case side4 => exact HC0_3.out); rintro e w26 ⟨rfl, hb⟩; have n0_ := Goto.m0 (blk_below (g := gb271) (o := .cells #[.int .i64 a0_0, .int .i64 a0_1, .slice A0_2 l0_2.length c0_2, .slice A0_3 l0_3.length c0_3] 25 (0, 0)) (by (with_reducible repeat first | refine blk_drewN ?_ _ | refine blk_drew ?_ | refine blk_alloc ?_ _); exact BK271.out) hb); have n1_ := Goto.m0 (below_step (by repeat (first | (with_reducible first | exact HB.out | apply below_alloc | apply pw_below_drewN | apply below_drew1 | refine below_set ?_ GE271.out) | exact HB.out)) hb); clear BK271; clear HB; have BK271 := n0_; have HB := n1_; clear n0_ n1_; (try clear hb); (try clear hb2); (try clear hk); (try clear hi); (try simp only [errW_none, errW_some])))
           go_roundg k2
           case measure => have := HJ4.out; have := HK2.out; omega
           case rel => exact ⟨(false), (wrap64 (x7_2 + 1)), (by first | rfl | (simp; done) | (simp [*]; done)), (by first | rfl | (simp; done) | (simp [*]; done)), H', ⟨by have := HJ4.out; have := HK2.out; omega⟩, ⟨by (with_reducible repeat first | refine blk_drewN ?_ _ | refine blk_drew ?_ | refine blk_alloc ?_ _); exact BK271.out⟩, ⟨by repeat (first | (with_reducible first | exact HB.out | apply below_alloc | apply pw_below_drewN | apply below_drew1 | refine below_set ?_ GE271.out) | exact HB.out)⟩⟩
         ·
          replace c21 := Bool.eq_false_iff.mpr c21
          subst c21
          rw [if_neg (show ¬ (false = true) by decide)] at H
          have H' := Goto.m0 H
          clear H; have hcz27_0 : wr.cell? ⟨gb271, 0, none⟩ = some (.int .i64 a0_0) := (blk_cell BK271.out 0).trans rfl; have hcz27_1 : wr.cell? ⟨gb271, 1, none⟩ = some (.int .i64 a0_1) := (blk_cell BK271.out 1).trans rfl; have hcz27_2 : wr.cell? ⟨gb271, 2, none⟩ = some (.slice A0_2 l0_2.length c0_2) := (blk_cell BK271.out 2).trans rfl; have hcz27_3 : wr.cell? ⟨gb271, 3, none⟩ = some (.slice A0_3 l0_3.length c0_3) := (blk_cell BK271.out 3).trans rfl; have hfz27_0 := blk_frozen BK271.out 0; have hfz27_1 := blk_frozen BK271.out 1; have hfz27_2 := blk_frozen BK271.out 2; have hfz27_3 := blk_frozen BK271.out 3
          go_wp2
          go_roundg k2
          case measure => have := HJ4.out; have := HK2.out; omega
          case rel => exact ⟨(false), (wrap64 (x7_2 + 1)), (by first | rfl | (simp; done) | (simp [*]; done)), (by first | rfl | (simp; done) | (simp [*]; done)), H', ⟨by have := HJ4.out; have := HK2.out; omega⟩, ⟨by (with_reducible repeat first | refine blk_drewN ?_ _ | refine blk_drew ?_ | refine blk_alloc ?_ _); exact BK271.out⟩, ⟨by repeat (first | (with_reducible first | exact HB.out | apply below_alloc | apply pw_below_drewN | apply below_drew1 | refine below_set ?_ GE271.out) | exact HB.out)⟩⟩
        ·
         rw [if_neg c20] at H
         have c20b0 : decide (x7_2 < (l0_3.length : Int)) = false := decide_eq_false c20
         clear c20
         replace H := Option.bind_eq_some_iff.mp H
         obtain ⟨t277, A280, H⟩ := H
         have A28 := Goto.m0 A280
         clear A280
         rcases t277 with _ | q278
         ·
          have H1 : (if (true == x6_2) = true then (if x6_2 = true then ((check_Plan.f k2 a0_0 a0_1 l0_2 l0_3 (Int.tmod (wrap64 (a1)) (l0_3.length : Int)) (l0_2.length : Int)).bind fun t279 => ((errors_Is.f t279 (some 10)).bind fun t280 => (some t280))) else ((errors_Is.f none (some 15)).bind fun t281 => (if t281 = true then (some true) else (some false)))) else (some false)) = some r := by rw [if_pos (show (none : Option Int).isNone = true by rfl)] at H; exact H
          clear H; have H := H1; clear H1
          try simp only [errW_none, errW_some]
          by_cases c29 : (true == x6_2) = true
          ·
           rw [if_pos c29] at H
           have c29b0 : (true == x6_2) = true := c29
           (try (have c29b1 : decide (true = x6_2) = true := by simpa using c29))
           (try (have c29b2 : (true == x6_2) = true := by simpa using c29))
           clear c29
           by_cases c30 : x6_2 = true
           ·
            subst c30
            rw [if_pos rfl] at H
            replace H := Option.bind_eq_some_iff.mp H
            obtain ⟨t279, A310, H⟩ := H
            have A31 := Goto.m0 A310
            clear A310
            replace H := Option.bind_eq_some_iff.mp H
            obtain ⟨t280, A320, H⟩ := H
            have A32 := Goto.m0 A320
            clear A320
            obtain rfl := Option.some.inj H
            have hcz33_0 : wr.cell? ⟨gb271, 0, none⟩ = some (.int .i64 a0_0) := (blk_cell BK271.out 0).trans rfl; have hcz33_1 : wr.cell? ⟨gb271, 1, none⟩ = some (.int .i64 a0_1) := (blk_cell BK271.out 1).trans rfl; have hcz33_2 : wr.cell? ⟨gb271, 2, none⟩ = some (.slice A0_2 l0_2.length c0_2) := (blk_cell BK271.out 2).trans rfl; have hcz33_3 : wr.cell? ⟨gb271, 3, none⟩ = some (.slice A0_3 l0_3.length c0_3) := (blk_cell BK271.out 3).trans rfl; have hfz33_0 := blk_frozen BK271.out 0; have hfz33_1 := blk_frozen BK271.out 1; have hfz33_2 := blk_frozen BK271.out 2; have hfz33_3 := blk_frozen BK271.out 3
            go_wp2_with (first | ((with_reducible refine gate_callee (f := 30) rfl ?_); refine goesL_ (some 41) rfl rfl Try.func30 (by kernel_rfl) rfl #[.agg #[.int .i64 a0_0, .int .i64 a0_1, .slice A0_2 l0_2.length c0_2, .slice A0_3 l0_3.length c0_3], .int .i64 (Int.tmod (wrap64 (a1)) (l0_3.length : Int)), .int .i64 0] rfl (by (try simp only [List.map_toArray, List.map_cons, List.map_nil]); first | done | rfl | (simp only [List.length_drop, List.length_take]; rfl)) ?_; (with_reducible refine (check_Plan.calls k2 a0_0 a0_1 _ _ l0_2 _ _ l0_3 (Int.tmod (wrap64 (a1)) (l0_3.length : Int)) 0 none _ ?side1 ?side2 ?side3 ?side4 A28.out).mono ?_); (case side1 => repeat (first | exact (Kd.C_below HR0_2.out HB.out) | (with_reducible refine Kd.C_alloc ?_ _) | (with_reducible refine Kd.C_drewN ?_ _) | (with_reducible refine Kd.C_drew ?_))); (case side2 => exact HC0_2.out); (case side3 => repeat (first | exact (Kd.C_below HR0_3.out HB.out) | (with_reducible refine Kd.C_alloc ?_ _) | (with_reducible refine Kd.C_drewN ?_ _) | (with_reducible refine Kd.C_drew ?_))); (case side4 => exact HC0_3.out); rintro e w34 ⟨rfl, hb⟩; refine ⟨_, rfl, ?_⟩; have n0_ := Goto.m0 (blk_below (g := gb271) (o := .cells #[.int .i64 a0_0, .int .i64 a0_1, .slice A0_2 l0_2.length c0_2, .slice A0_3 l0_3.length c0_3] 25 (0, 0)) (by (with_reducible repeat first | refine blk_drewN ?_ _ | refine blk_drew ?_ | refine blk_alloc ?_ _); exact BK271.out) hb); have n1_ := Goto.m0 (below_step (by repeat (first | (with_reducible first | exact HB.out | apply below_alloc | apply pw_below_drewN | apply below_drew1 | refine below_set ?_ GE271.out) | exact HB.out)) hb); clear BK271; clear HB; have BK271 := n0_; have HB := n1_; clear n0_ n1_; (try clear hb); (try clear hb2); (try clear hk); (try clear hi); (try simp only [errW_none, errW_some]); have hcz35_0 : w34.cell? ⟨gb271, 0, none⟩ = some (.int .i64 a0_0) := (blk_cell BK271.out 0).trans rfl; have hcz35_1 : w34.cell? ⟨gb271, 1, none⟩ = some (.int .i64 a0_1) := (blk_cell BK271.out 1).trans rfl; have hcz35_2 : w34.cell? ⟨gb271, 2, none⟩ = some (.slice A0_2 l0_2.length c0_2) := (blk_cell BK271.out 2).trans rfl; have hcz35_3 : w34.cell? ⟨gb271, 3, none⟩ = some (.slice A0_3 l0_3.length c0_3) := (blk_cell BK271.out 3).trans rfl; have hfz35_0 := blk_frozen BK271.out 0; have hfz35_1 := blk_frozen BK271.out 1; have hfz35_2 := blk_frozen BK271.out 2; have hfz35_3 := blk_frozen BK271.out 3) | (go_at_call 30; (with_reducible refine (check_Plan.calls k2 a0_0 a0_1 _ _ l0_2 _ _ l0_3 (Int.tmod (wrap64 (a1)) (l0_3.length : Int)) (l0_2.length : Int) t279 _ ?side1 ?side2 ?side3 ?side4 A31.out).mono ?_); (case side1 => repeat (first | exact (Kd.C_below HR0_2.out HB.out) | (with_reducible refine Kd.C_alloc ?_ _) | (with_reducible refine Kd.C_drewN ?_ _) | (with_reducible refine Kd.C_drew ?_))); (case side2 => exact HC0_2.out); (case side3 => repeat (first | exact (Kd.C_below HR0_3.out HB.out) | (with_reducible refine Kd.C_alloc ?_ _) | (with_reducible refine Kd.C_drewN ?_ _) | (with_reducible refine Kd.C_drew ?_))); (case side4 => exact HC0_3.out); rintro e w36 ⟨rfl, hb⟩; have n0_ := Goto.m0 (blk_below (g := gb271) (o := .cells #[.int .i64 a0_0, .int .i64 a0_1, .slice A0_2 l0_2.length c0_2, .slice A0_3 l0_3.length c0_3] 25 (0, 0)) (by (with_reducible repeat first | refine blk_drewN ?_ _ | refine blk_drew ?_ | refine blk_alloc ?_ _); exact BK271.out) hb); have n1_ := Goto.m0 (below_step (by repeat (first | (with_reducible first | exact HB.out | apply below_alloc | apply pw_below_drewN | apply below_drew1 | refine below_set ?_ GE271.out) | exact HB.out)) hb); clear BK271; clear HB; have BK271 := n0_; have HB := n1_; clear n0_ n1_; (try clear hb); (try clear hb2); (try clear hk); (try clear hi); (try simp only [errW_none, errW_some]); have CA32 := fun W => errors_Is.calls t279 (some 10) t280 W A32.out; try simp only [errW_none, errW_some] at CA32) | (go_at_call 31; (with_reducible refine (CA32 _).mono ?_); rintro e w' ⟨rfl, ⟨nd, rfl⟩⟩))
            go_ret
            exact ⟨by first | rfl | (simp [errW_none, errW_some] <;> rfl) | (simp [*, errW_none, errW_some] <;> rfl), by repeat (first | (with_reducible first | exact HB.out | apply below_alloc | apply pw_below_drewN | apply below_drew1 | refine below_set ?_ GE271.out) | exact HB.out)⟩
           ·
            replace c30 := Bool.eq_false_iff.mpr c30
            subst c30
            rw [if_neg (show ¬ (false = true) by decide)] at H
            replace H := Option.bind_eq_some_iff.mp H
            obtain ⟨t281, A370, H⟩ := H
            have A37 := Goto.m0 A370
            clear A370
            by_cases c38 : t281 = true
            ·
             subst c38
             rw [if_pos rfl] at H
             obtain rfl := Option.some.inj H
             have hcz39_0 : wr.cell? ⟨gb271, 0, none⟩ = some (.int .i64 a0_0) := (blk_cell BK271.out 0).trans rfl; have hcz39_1 : wr.cell? ⟨gb271, 1, none⟩ = some (.int .i64 a0_1) := (blk_cell BK271.out 1).trans rfl; have hcz39_2 : wr.cell? ⟨gb271, 2, none⟩ = some (.slice A0_2 l0_2.length c0_2) := (blk_cell BK271.out 2).trans rfl; have hcz39_3 : wr.cell? ⟨gb271, 3, none⟩ = some (.slice A0_3 l0_3.length c0_3) := (blk_cell BK271.out 3).trans rfl; have hfz39_0 := blk_frozen BK271.out 0; have hfz39_1 := blk_frozen BK271.out 1; have hfz39_2 := blk_frozen BK271.out 2; have hfz39_3 := blk_frozen BK271.out 3
             go_wp2_with (first | ((with_reducible refine gate_callee (f := 30) rfl ?_); refine goesL_ (some 41) rfl rfl Try.func30 (by kernel_rfl) rfl #[.agg #[.int .i64 a0_0, .int .i64 a0_1, .slice A0_2 l0_2.length c0_2, .slice A0_3 l0_3.length c0_3], .int .i64 (Int.tmod (wrap64 (a1)) (l0_3.length : Int)), .int .i64 0] rfl (by (try simp only [List.map_toArray, List.map_cons, List.map_nil]); first | done | rfl | (simp only [List.length_drop, List.length_take]; rfl)) ?_; (with_reducible refine (check_Plan.calls k2 a0_0 a0_1 _ _ l0_2 _ _ l0_3 (Int.tmod (wrap64 (a1)) (l0_3.length : Int)) 0 none _ ?side1 ?side2 ?side3 ?side4 A28.out).mono ?_); (case side1 => repeat (first | exact (Kd.C_below HR0_2.out HB.out) | (with_reducible refine Kd.C_alloc ?_ _) | (with_reducible refine Kd.C_drewN ?_ _) | (with_reducible refine Kd.C_drew ?_))); (case side2 => exact HC0_2.out); (case side3 => repeat (first | exact (Kd.C_below HR0_3.out HB.out) | (with_reducible refine Kd.C_alloc ?_ _) | (with_reducible refine Kd.C_drewN ?_ _) | (with_reducible refine Kd.C_drew ?_))); (case side4 => exact HC0_3.out); rintro e w40 ⟨rfl, hb⟩; refine ⟨_, rfl, ?_⟩; have n0_ := Goto.m0 (blk_below (g := gb271) (o := .cells #[.int .i64 a0_0, .int .i64 a0_1, .slice A0_2 l0_2.length c0_2, .slice A0_3 l0_3.length c0_3] 25 (0, 0)) (by (with_reducible repeat first | refine blk_drewN ?_ _ | refine blk_drew ?_ | refine blk_alloc ?_ _); exact BK271.out) hb); have n1_ := Goto.m0 (below_step (by repeat (first | (with_reducible first | exact HB.out | apply below_alloc | apply pw_below_drewN | apply below_drew1 | refine below_set ?_ GE271.out) | exact HB.out)) hb); clear BK271; clear HB; have BK271 := n0_; have HB := n1_; clear n0_ n1_; (try clear hb); (try clear hb2); (try clear hk); (try clear hi); (try simp only [errW_none, errW_some]); have CA37 := fun W => errors_Is.calls none (some 15) true W A37.out; try simp only [errW_none, errW_some] at CA37) | (go_at_call 31; (with_reducible refine (CA37 _).mono ?_); rintro e w' ⟨rfl, ⟨nd, rfl⟩⟩))
             go_ret
             exact ⟨by first | rfl | (simp [errW_none, errW_some] <;> rfl) | (simp [*, errW_none, errW_some] <;> rfl), by repeat (first | (with_reducible first | exact HB.out | apply below_alloc | apply pw_below_drewN | apply below_drew1 | refine below_set ?_ GE271.out) | exact HB.out)⟩
            ·
             replace c38 := Bool.eq_false_iff.mpr c38
             subst c38
             rw [if_neg (show ¬ (false = true) by decide)] at H
             exact absurd ((Option.some.inj H).trans HRT.out) (by decide)
          ·
           rw [if_neg c29] at H
           have c29b0 : (true == x6_2) = false := by simpa using c29
           (try (have c29b1 : decide (true = x6_2) = false := by simpa using c29))
           (try (have c29b2 : (true == x6_2) = false := by simpa using c29))
           (try (have c29b3 : ¬ (true = x6_2) := by simpa using c29))
           clear c29
           exact absurd ((Option.some.inj H).trans HRT.out) (by decide)
         ·
          have H1 : (if (false == x6_2) = true then (if x6_2 = true then ((check_Plan.f k2 a0_0 a0_1 l0_2 l0_3 (Int.tmod (wrap64 (a1)) (l0_3.length : Int)) (l0_2.length : Int)).bind fun t282 => ((errors_Is.f t282 (some 10)).bind fun t283 => (some t283))) else ((errors_Is.f (some q278) (some 15)).bind fun t284 => (if t284 = true then (some true) else (some false)))) else (some false)) = some r := by rw [if_neg (show ¬ (some q278).isNone = true by simp)] at H; exact H
          clear H; have H := H1; clear H1
          try simp only [errW_none, errW_some]
          by_cases c41 : (false == x6_2) = true
          ·
           rw [if_pos c41] at H
           have c41b0 : (false == x6_2) = true := c41
           (try (have c41b1 : decide (false = x6_2) = true := by simpa using c41))
           (try (have c41b2 : (false == x6_2) = true := by simpa using c41))
           clear c41
           by_cases c42 : x6_2 = true
           ·
            subst c42
            rw [if_pos rfl] at H
            replace H := Option.bind_eq_some_iff.mp H
            obtain ⟨t282, A430, H⟩ := H
            have A43 := Goto.m0 A430
            clear A430
            replace H := Option.bind_eq_some_iff.mp H
            obtain ⟨t283, A440, H⟩ := H
            have A44 := Goto.m0 A440
            clear A440
            obtain rfl := Option.some.inj H
            have hcz45_0 : wr.cell? ⟨gb271, 0, none⟩ = some (.int .i64 a0_0) := (blk_cell BK271.out 0).trans rfl; have hcz45_1 : wr.cell? ⟨gb271, 1, none⟩ = some (.int .i64 a0_1) := (blk_cell BK271.out 1).trans rfl; have hcz45_2 : wr.cell? ⟨gb271, 2, none⟩ = some (.slice A0_2 l0_2.length c0_2) := (blk_cell BK271.out 2).trans rfl; have hcz45_3 : wr.cell? ⟨gb271, 3, none⟩ = some (.slice A0_3 l0_3.length c0_3) := (blk_cell BK271.out 3).trans rfl; have hfz45_0 := blk_frozen BK271.out 0; have hfz45_1 := blk_frozen BK271.out 1; have hfz45_2 := blk_frozen BK271.out 2; have hfz45_3 := blk_frozen BK271.out 3
            go_wp2_with (first | ((with_reducible refine gate_callee (f := 30) rfl ?_); refine goesL_ (some 41) rfl rfl Try.func30 (by kernel_rfl) rfl #[.agg #[.int .i64 a0_0, .int .i64 a0_1, .slice A0_2 l0_2.length c0_2, .slice A0_3 l0_3.length c0_3], .int .i64 (Int.tmod (wrap64 (a1)) (l0_3.length : Int)), .int .i64 0] rfl (by (try simp only [List.map_toArray, List.map_cons, List.map_nil]); first | done | rfl | (simp only [List.length_drop, List.length_take]; rfl)) ?_; (with_reducible refine (check_Plan.calls k2 a0_0 a0_1 _ _ l0_2 _ _ l0_3 (Int.tmod (wrap64 (a1)) (l0_3.length : Int)) 0 (some q278) _ ?side1 ?side2 ?side3 ?side4 A28.out).mono ?_); (case side1 => repeat (first | exact (Kd.C_below HR0_2.out HB.out) | (with_reducible refine Kd.C_alloc ?_ _) | (with_reducible refine Kd.C_drewN ?_ _) | (with_reducible refine Kd.C_drew ?_))); (case side2 => exact HC0_2.out); (case side3 => repeat (first | exact (Kd.C_below HR0_3.out HB.out) | (with_reducible refine Kd.C_alloc ?_ _) | (with_reducible refine Kd.C_drewN ?_ _) | (with_reducible refine Kd.C_drew ?_))); (case side4 => exact HC0_3.out); rintro e w46 ⟨rfl, hb⟩; refine ⟨_, rfl, ?_⟩; have n0_ := Goto.m0 (blk_below (g := gb271) (o := .cells #[.int .i64 a0_0, .int .i64 a0_1, .slice A0_2 l0_2.length c0_2, .slice A0_3 l0_3.length c0_3] 25 (0, 0)) (by (with_reducible repeat first | refine blk_drewN ?_ _ | refine blk_drew ?_ | refine blk_alloc ?_ _); exact BK271.out) hb); have n1_ := Goto.m0 (below_step (by repeat (first | (with_reducible first | exact HB.out | apply below_alloc | apply pw_below_drewN | apply below_drew1 | refine below_set ?_ GE271.out) | exact HB.out)) hb); clear BK271; clear HB; have BK271 := n0_; have HB := n1_; clear n0_ n1_; (try clear hb); (try clear hb2); (try clear hk); (try clear hi); (try simp only [errW_none, errW_some]); have hcz47_0 : w46.cell? ⟨gb271, 0, none⟩ = some (.int .i64 a0_0) := (blk_cell BK271.out 0).trans rfl; have hcz47_1 : w46.cell? ⟨gb271, 1, none⟩ = some (.int .i64 a0_1) := (blk_cell BK271.out 1).trans rfl; have hcz47_2 : w46.cell? ⟨gb271, 2, none⟩ = some (.slice A0_2 l0_2.length c0_2) := (blk_cell BK271.out 2).trans rfl; have hcz47_3 : w46.cell? ⟨gb271, 3, none⟩ = some (.slice A0_3 l0_3.length c0_3) := (blk_cell BK271.out 3).trans rfl; have hfz47_0 := blk_frozen BK271.out 0; have hfz47_1 := blk_frozen BK271.out 1; have hfz47_2 := blk_frozen BK271.out 2; have hfz47_3 := blk_frozen BK271.out 3) | (go_at_call 30; (with_reducible refine (check_Plan.calls k2 a0_0 a0_1 _ _ l0_2 _ _ l0_3 (Int.tmod (wrap64 (a1)) (l0_3.length : Int)) (l0_2.length : Int) t282 _ ?side1 ?side2 ?side3 ?side4 A43.out).mono ?_); (case side1 => repeat (first | exact (Kd.C_below HR0_2.out HB.out) | (with_reducible refine Kd.C_alloc ?_ _) | (with_reducible refine Kd.C_drewN ?_ _) | (with_reducible refine Kd.C_drew ?_))); (case side2 => exact HC0_2.out); (case side3 => repeat (first | exact (Kd.C_below HR0_3.out HB.out) | (with_reducible refine Kd.C_alloc ?_ _) | (with_reducible refine Kd.C_drewN ?_ _) | (with_reducible refine Kd.C_drew ?_))); (case side4 => exact HC0_3.out); rintro e w48 ⟨rfl, hb⟩; have n0_ := Goto.m0 (blk_below (g := gb271) (o := .cells #[.int .i64 a0_0, .int .i64 a0_1, .slice A0_2 l0_2.length c0_2, .slice A0_3 l0_3.length c0_3] 25 (0, 0)) (by (with_reducible repeat first | refine blk_drewN ?_ _ | refine blk_drew ?_ | refine blk_alloc ?_ _); exact BK271.out) hb); have n1_ := Goto.m0 (below_step (by repeat (first | (with_reducible first | exact HB.out | apply below_alloc | apply pw_below_drewN | apply below_drew1 | refine below_set ?_ GE271.out) | exact HB.out)) hb); clear BK271; clear HB; have BK271 := n0_; have HB := n1_; clear n0_ n1_; (try clear hb); (try clear hb2); (try clear hk); (try clear hi); (try simp only [errW_none, errW_some]); have CA44 := fun W => errors_Is.calls t282 (some 10) t283 W A44.out; try simp only [errW_none, errW_some] at CA44) | (go_at_call 31; (with_reducible refine (CA44 _).mono ?_); rintro e w' ⟨rfl, ⟨nd, rfl⟩⟩))
            go_ret
            exact ⟨by first | rfl | (simp [errW_none, errW_some] <;> rfl) | (simp [*, errW_none, errW_some] <;> rfl), by repeat (first | (with_reducible first | exact HB.out | apply below_alloc | apply pw_below_drewN | apply below_drew1 | refine below_set ?_ GE271.out) | exact HB.out)⟩
           ·
            replace c42 := Bool.eq_false_iff.mpr c42
            subst c42
            rw [if_neg (show ¬ (false = true) by decide)] at H
            replace H := Option.bind_eq_some_iff.mp H
            obtain ⟨t284, A490, H⟩ := H
            have A49 := Goto.m0 A490
            clear A490
            by_cases c50 : t284 = true
            ·
             subst c50
             rw [if_pos rfl] at H
             obtain rfl := Option.some.inj H
             have hcz51_0 : wr.cell? ⟨gb271, 0, none⟩ = some (.int .i64 a0_0) := (blk_cell BK271.out 0).trans rfl; have hcz51_1 : wr.cell? ⟨gb271, 1, none⟩ = some (.int .i64 a0_1) := (blk_cell BK271.out 1).trans rfl; have hcz51_2 : wr.cell? ⟨gb271, 2, none⟩ = some (.slice A0_2 l0_2.length c0_2) := (blk_cell BK271.out 2).trans rfl; have hcz51_3 : wr.cell? ⟨gb271, 3, none⟩ = some (.slice A0_3 l0_3.length c0_3) := (blk_cell BK271.out 3).trans rfl; have hfz51_0 := blk_frozen BK271.out 0; have hfz51_1 := blk_frozen BK271.out 1; have hfz51_2 := blk_frozen BK271.out 2; have hfz51_3 := blk_frozen BK271.out 3
             go_wp2_with (first | ((with_reducible refine gate_callee (f := 30) rfl ?_); refine goesL_ (some 41) rfl rfl Try.func30 (by kernel_rfl) rfl #[.agg #[.int .i64 a0_0, .int .i64 a0_1, .slice A0_2 l0_2.length c0_2, .slice A0_3 l0_3.length c0_3], .int .i64 (Int.tmod (wrap64 (a1)) (l0_3.length : Int)), .int .i64 0] rfl (by (try simp only [List.map_toArray, List.map_cons, List.map_nil]); first | done | rfl | (simp only [List.length_drop, List.length_take]; rfl)) ?_; (with_reducible refine (check_Plan.calls k2 a0_0 a0_1 _ _ l0_2 _ _ l0_3 (Int.tmod (wrap64 (a1)) (l0_3.length : Int)) 0 (some q278) _ ?side1 ?side2 ?side3 ?side4 A28.out).mono ?_); (case side1 => repeat (first | exact (Kd.C_below HR0_2.out HB.out) | (with_reducible refine Kd.C_alloc ?_ _) | (with_reducible refine Kd.C_drewN ?_ _) | (with_reducible refine Kd.C_drew ?_))); (case side2 => exact HC0_2.out); (case side3 => repeat (first | exact (Kd.C_below HR0_3.out HB.out) | (with_reducible refine Kd.C_alloc ?_ _) | (with_reducible refine Kd.C_drewN ?_ _) | (with_reducible refine Kd.C_drew ?_))); (case side4 => exact HC0_3.out); rintro e w52 ⟨rfl, hb⟩; refine ⟨_, rfl, ?_⟩; have n0_ := Goto.m0 (blk_below (g := gb271) (o := .cells #[.int .i64 a0_0, .int .i64 a0_1, .slice A0_2 l0_2.length c0_2, .slice A0_3 l0_3.length c0_3] 25 (0, 0)) (by (with_reducible repeat first | refine blk_drewN ?_ _ | refine blk_drew ?_ | refine blk_alloc ?_ _); exact BK271.out) hb); have n1_ := Goto.m0 (below_step (by repeat (first | (with_reducible first | exact HB.out | apply below_alloc | apply pw_below_drewN | apply below_drew1 | refine below_set ?_ GE271.out) | exact HB.out)) hb); clear BK271; clear HB; have BK271 := n0_; have HB := n1_; clear n0_ n1_; (try clear hb); (try clear hb2); (try clear hk); (try clear hi); (try simp only [errW_none, errW_some]); have CA49 := fun W => errors_Is.calls (some q278) (some 15) true W A49.out; try simp only [errW_none, errW_some] at CA49) | (go_at_call 31; (with_reducible refine (CA49 _).mono ?_); rintro e w' ⟨rfl, ⟨nd, rfl⟩⟩))
             go_ret
             exact ⟨by first | rfl | (simp [errW_none, errW_some] <;> rfl) | (simp [*, errW_none, errW_some] <;> rfl), by repeat (first | (with_reducible first | exact HB.out | apply below_alloc | apply pw_below_drewN | apply below_drew1 | refine below_set ?_ GE271.out) | exact HB.out)⟩
            ·
             replace c50 := Bool.eq_false_iff.mpr c50
             subst c50
             rw [if_neg (show ¬ (false = true) by decide)] at H
             exact absurd ((Option.some.inj H).trans HRT.out) (by decide)
          ·
           rw [if_neg c41] at H
           have c41b0 : (false == x6_2) = false := by simpa using c41
           (try (have c41b1 : decide (false = x6_2) = false := by simpa using c41))
           (try (have c41b2 : (false == x6_2) = false := by simpa using c41))
           (try (have c41b3 : ¬ (false = x6_2) := by simpa using c41))
           clear c41
           exact absurd ((Option.some.inj H).trans HRT.out) (by decide)
 ·
  replace c4 := Bool.eq_false_iff.mpr c4
  subst c4
  rw [if_neg (show ¬ (false = true) by decide)] at H
  exact absurd ((Option.some.inj H).trans HRT.out) (by decide)

end Go.Proofs.Ythlokoombomndaa.P
