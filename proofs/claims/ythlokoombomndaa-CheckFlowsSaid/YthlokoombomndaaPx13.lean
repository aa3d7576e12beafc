/- Printed by a program of this workplace (a turned copy of the kit's optional print), out of the translation; not trusted: Lean checks it. -/
import Derived.Test.YthlokoombomndaaPx0
import Derived.Test.YthlokoombomndaaPx1
import Derived.Test.YthlokoombomndaaPx2
import Derived.Test.YthlokoombomndaaPx5
import Derived.Test.YthlokoombomndaaPx8
import Derived.Test.YthlokoombomndaaPx11
import Derived.Test.YthlokoombomndaaPx12
namespace Go.Proofs.Ythlokoombomndaa.P
open Go.RowKit Go.Proofs.YthlokoombomndaaW.PrintWords Go.Proofs.YthlokoombomndaaW.PrintLast Go.Proofs.YthlokoombomndaaW.PrintMore
attribute [local go_sem] max2_int min2_int max_two min_two max_three min_three max_four min_four   -- for this text's walks alone
set_option linter.unusedVariables false
set_option linter.unusedSimpArgs false

attribute [local go_sem high] eqA42
/-! ### tontinelaw20_CheckFlows: function 7 -/
mutual
def tontinelaw20_CheckFlows.j0 : Nat → Int → Int → Bool → Int → Int → List (List Int) → List (S44) → Option (Bool)
  | 0, _, _, _, _, _, _, _ => none
  | k + 1, x1, x2, x21, x250000, x250001, x250002, x250003 => if x21 = true then (some true) else (if (x250003.length : Int) = 0 then (none) else (if 0 ≤ (Int.tmod (wrap64 (x1)) (x250003.length : Int)) then (if (Int.tmod (wrap64 (x1)) (x250003.length : Int)) < (x250003.length : Int) then (if 0 ≤ (Int.tmod (wrap64 (x2)) (x250003.length : Int)) then (if (Int.tmod (wrap64 (x2)) (x250003.length : Int)) < (x250003.length : Int) then ((check_Read.f k x250000 x250001 x250002 x250003 (Int.tmod (wrap64 (x1)) (x250003.length : Int)) (Int.tmod (wrap64 (x2)) (x250003.length : Int))).bind fun t257 => (if t257.isNone = true then ((check_Send.f k x250000 x250001 x250002 x250003 (Int.tmod (wrap64 (x2)) (x250003.length : Int)) (Int.tmod (wrap64 (x1)) (x250003.length : Int))).bind fun t259 => (if t259.isNone = true then (tontinelaw20_CheckFlows.j1 k (Int.tmod (wrap64 (x1)) (x250003.length : Int)) (Int.tmod (wrap64 (x2)) (x250003.length : Int)) true true x250000 x250001 x250002 x250003 ((rd_T44 x250003 (Int.tmod (wrap64 (x1)) (x250003.length : Int))).f0.f0) ((rd_T44 x250003 (Int.tmod (wrap64 (x1)) (x250003.length : Int))).f0.f1) ((rd_T44 x250003 (Int.tmod (wrap64 (x2)) (x250003.length : Int))).f0.f0) ((rd_T44 x250003 (Int.tmod (wrap64 (x2)) (x250003.length : Int))).f0.f1)) else (tontinelaw20_CheckFlows.j1 k (Int.tmod (wrap64 (x1)) (x250003.length : Int)) (Int.tmod (wrap64 (x2)) (x250003.length : Int)) true false x250000 x250001 x250002 x250003 ((rd_T44 x250003 (Int.tmod (wrap64 (x1)) (x250003.length : Int))).f0.f0) ((rd_T44 x250003 (Int.tmod (wrap64 (x1)) (x250003.length : Int))).f0.f1) ((rd_T44 x250003 (Int.tmod (wrap64 (x2)) (x250003.length : Int))).f0.f0) ((rd_T44 x250003 (Int.tmod (wrap64 (x2)) (x250003.length : Int))).f0.f1)))) else ((check_Send.f k x250000 x250001 x250002 x250003 (Int.tmod (wrap64 (x2)) (x250003.length : Int)) (Int.tmod (wrap64 (x1)) (x250003.length : Int))).bind fun t261 => (if t261.isNone = true then (tontinelaw20_CheckFlows.j1 k (Int.tmod (wrap64 (x1)) (x250003.length : Int)) (Int.tmod (wrap64 (x2)) (x250003.length : Int)) false true x250000 x250001 x250002 x250003 ((rd_T44 x250003 (Int.tmod (wrap64 (x1)) (x250003.length : Int))).f0.f0) ((rd_T44 x250003 (Int.tmod (wrap64 (x1)) (x250003.length : Int))).f0.f1) ((rd_T44 x250003 (Int.tmod (wrap64 (x2)) (x250003.length : Int))).f0.f0) ((rd_T44 x250003 (Int.tmod (wrap64 (x2)) (x250003.length : Int))).f0.f1)) else (tontinelaw20_CheckFlows.j1 k (Int.tmod (wrap64 (x1)) (x250003.length : Int)) (Int.tmod (wrap64 (x2)) (x250003.length : Int)) false false x250000 x250001 x250002 x250003 ((rd_T44 x250003 (Int.tmod (wrap64 (x1)) (x250003.length : Int))).f0.f0) ((rd_T44 x250003 (Int.tmod (wrap64 (x1)) (x250003.length : Int))).f0.f1) ((rd_T44 x250003 (Int.tmod (wrap64 (x2)) (x250003.length : Int))).f0.f0) ((rd_T44 x250003 (Int.tmod (wrap64 (x2)) (x250003.length : Int))).f0.f1)))))) else (none)) else (none)) else (none)) else (none)))
def tontinelaw20_CheckFlows.j1 : Nat → Int → Int → Bool → Bool → Int → Int → List (List Int) → List (S44) → Int → Int → Int → Int → Option (Bool)
  | 0, _, _, _, _, _, _, _, _, _, _, _, _ => none
  | k + 1, x7, x8, x11, x12, x250000, x250001, x250002, x250003, x256000, x256001, x257000, x257001 => if (x11 == x12) = true then ((tontineref1_Leq.f x257000 x257001 x256000 x256001).bind fun t263 => (if (x11 == t263) = true then (if x11 = true then ((check_Read.f k x250000 x250001 x250002 x250003 x8 x7).bind fun t264 => (if t264.isNone = true then (some (true == (x256000 == x257000 && (x256001 == x257001)))) else (some (false == (x256000 == x257000 && (x256001 == x257001)))))) else (some (false == (x256000 == x257000 && (x256001 == x257001))))) else (some false))) else (some false)
end
def tontinelaw20_CheckFlows.f (k : Nat) (a0_0 : Int) (a0_1 : Int) (l0_2 : List (List Int)) (l0_3 : List (S44)) (a1 : Int) (a2 : Int) : Option (Bool) := (tontinelaw20_known.f k).bind fun t250 => (if t250 = true then ((tontinehelp_WideConf.f k a0_0 a0_1 l0_2 l0_3).bind fun t251 => (if t251 = true then (tontinelaw20_CheckFlows.j0 k a1 a2 true a0_0 a0_1 l0_2 l0_3) else ((tontineref1_IsConf.f k a0_0 a0_1 l0_2 l0_3).bind fun t252 => (tontinelaw20_CheckFlows.j0 k a1 a2 (t252 != 0) a0_0 a0_1 l0_2 l0_3)))) else (some false))
theorem tontinelaw20_CheckFlows.mono_l : ∀ k, (∀ y0 y1 y2 y3 y4 y5 y6, LeO (tontinelaw20_CheckFlows.j0 k y0 y1 y2 y3 y4 y5 y6) (tontinelaw20_CheckFlows.j0 (k + 1) y0 y1 y2 y3 y4 y5 y6)) ∧ (∀ y0 y1 y2 y3 y4 y5 y6 y7 y8 y9 y10 y11, LeO (tontinelaw20_CheckFlows.j1 k y0 y1 y2 y3 y4 y5 y6 y7 y8 y9 y10 y11) (tontinelaw20_CheckFlows.j1 (k + 1) y0 y1 y2 y3 y4 y5 y6 y7 y8 y9 y10 y11))
  | 0 => ⟨fun _ _ _ _ _ _ _ r h => by simp [tontinelaw20_CheckFlows.j0] at h, fun _ _ _ _ _ _ _ _ _ _ _ _ r h => by simp [tontinelaw20_CheckFlows.j1] at h⟩
  | k + 1 => by
    obtain ⟨ih0, ih1⟩ := tontinelaw20_CheckFlows.mono_l k
    refine ⟨?_, ?_⟩
    · intro y0 y1 y2 y3 y4 y5 y6
      unfold tontinelaw20_CheckFlows.j0
      repeat' first
      | (with_reducible exact ih0 _ _ _ _ _ _ _)
      | (with_reducible exact ih1 _ _ _ _ _ _ _ _ _ _ _ _)
      | (with_reducible exact check_Read.mono _ _ _ _ _ _ _)
      | (with_reducible exact check_Send.mono _ _ _ _ _ _ _)
      | (with_reducible exact tontinehelp_WideConf.mono _ _ _ _ _)
      | (with_reducible exact tontinelaw20_known.mono _)
      | (with_reducible exact tontineref1_IsConf.mono _ _ _ _ _)
      | (with_reducible exact LeO.refl _)
      | (with_reducible exact LeO.none _)
      | (with_reducible refine LeO.ite ?_ ?_)
      | (with_reducible refine LeO.bind ?_ (fun _ => ?_))
      | exact ih0 _ _ _ _ _ _ _
      | exact ih1 _ _ _ _ _ _ _ _ _ _ _ _
      | exact check_Read.mono _ _ _ _ _ _ _
      | exact check_Send.mono _ _ _ _ _ _ _
      | exact tontinehelp_WideConf.mono _ _ _ _ _
      | exact tontinelaw20_known.mono _
      | exact tontineref1_IsConf.mono _ _ _ _ _
      | exact LeO.none _
      | refine LeO.ite ?_ ?_
      | refine LeO.bind ?_ (fun _ => ?_)
    · intro y0 y1 y2 y3 y4 y5 y6 y7 y8 y9 y10 y11
      unfold tontinelaw20_CheckFlows.j1
      repeat' first
      | (with_reducible exact ih0 _ _ _ _ _ _ _)
      | (with_reducible exact ih1 _ _ _ _ _ _ _ _ _ _ _ _)
      | (with_reducible exact check_Read.mono _ _ _ _ _ _ _)
      | (with_reducible exact check_Send.mono _ _ _ _ _ _ _)
      | (with_reducible exact tontinehelp_WideConf.mono _ _ _ _ _)
      | (with_reducible exact tontinelaw20_known.mono _)
      | (with_reducible exact tontineref1_IsConf.mono _ _ _ _ _)
      | (with_reducible exact LeO.refl _)
      | (with_reducible exact LeO.none _)
      | (with_reducible refine LeO.ite ?_ ?_)
      | (with_reducible refine LeO.bind ?_ (fun _ => ?_))
      | exact ih0 _ _ _ _ _ _ _
      | exact ih1 _ _ _ _ _ _ _ _ _ _ _ _
      | exact check_Read.mono _ _ _ _ _ _ _
      | exact check_Send.mono _ _ _ _ _ _ _
      | exact tontinehelp_WideConf.mono _ _ _ _ _
      | exact tontinelaw20_known.mono _
      | exact tontineref1_IsConf.mono _ _ _ _ _
      | exact LeO.none _
      | refine LeO.ite ?_ ?_
      | refine LeO.bind ?_ (fun _ => ?_)
theorem tontinelaw20_CheckFlows.mono : ∀ a0 a1 a2 a3 a4 a5 k, LeO (tontinelaw20_CheckFlows.f k a0 a1 a2 a3 a4 a5) (tontinelaw20_CheckFlows.f (k + 1) a0 a1 a2 a3 a4 a5) := by
 intro a0 a1 a2 a3 a4 a5 k
 obtain ⟨ih0, ih1⟩ := tontinelaw20_CheckFlows.mono_l k
 unfold tontinelaw20_CheckFlows.f
 repeat' first
   | (with_reducible exact ih0 _ _ _ _ _ _ _)
   | (with_reducible exact ih1 _ _ _ _ _ _ _ _ _ _ _ _)
   | (with_reducible exact check_Read.mono _ _ _ _ _ _ _)
   | (with_reducible exact check_Send.mono _ _ _ _ _ _ _)
   | (with_reducible exact tontinehelp_WideConf.mono _ _ _ _ _)
   | (with_reducible exact tontinelaw20_known.mono _)
   | (with_reducible exact tontineref1_IsConf.mono _ _ _ _ _)
   | (with_reducible exact LeO.refl _)
   | (with_reducible exact LeO.none _)
   | (with_reducible refine LeO.ite ?_ ?_)
   | (with_reducible refine LeO.bind ?_ (fun _ => ?_))
   | exact ih0 _ _ _ _ _ _ _
   | exact ih1 _ _ _ _ _ _ _ _ _ _ _ _
   | exact check_Read.mono _ _ _ _ _ _ _
   | exact check_Send.mono _ _ _ _ _ _ _
   | exact tontinehelp_WideConf.mono _ _ _ _ _
   | exact tontinelaw20_known.mono _
   | exact tontineref1_IsConf.mono _ _ _ _ _
   | exact LeO.none _
   | refine LeO.ite ?_ ?_
   | refine LeO.bind ?_ (fun _ => ?_)
def tontinelaw20_CheckFlows.T5 : Bool × List (List Nat × List Nat) := (true, [([], []), ([0], [0]), ([], []), ([2], [2]), ([3], [3]), ([1, 4], [1, 4]), ([], []), ([6], [6]), ([], []), ([8], [8]), ([9], [9]), ([7, 10], [7, 10]), ([5, 0, 1, 2, 3, 4, 5], [5]), ([11, 12, 0, 1, 2, 3, 4, 5, 6, 7, 8, 9, 10, 11, 12], [11])])
def tontinelaw20_CheckFlows.B5 : List Nat := [0, 1, 0, 4, 12, 31, 0, 64, 0, 256, 768, 1984, 63, 8191]
theorem tontinelaw20_CheckFlows.tab5 : rtab .any (opsOf Try.f7 5) = tontinelaw20_CheckFlows.T5 := by kernel_rfl
theorem tontinelaw20_CheckFlows.bits5 : waitsOk tontinelaw20_CheckFlows.T5.2 tontinelaw20_CheckFlows.B5 = true := by kernel_rfl
def tontinelaw20_CheckFlows.T6 : Bool × List (List Nat × List Nat) := (true, [([], []), ([0], [0]), ([], []), ([1, 2], [1, 2]), ([3], [3]), ([4], [4]), ([], []), ([6], [6]), ([], []), ([7, 8], [7, 8]), ([9], [9]), ([10], [10]), ([], []), ([], []), ([12, 5, 0, 1, 2, 3, 4, 5, 12, 13], [5, 12]), ([13, 11, 14, 0, 1, 2, 3, 4, 5, 6, 7, 8, 9, 10, 11, 12, 13, 14], [11, 13])])
def tontinelaw20_CheckFlows.B6 : List Nat := [0, 1, 0, 7, 15, 31, 0, 64, 0, 448, 960, 1984, 0, 0, 12351, 32767]
theorem tontinelaw20_CheckFlows.tab6 : rtab .any (opsOf Try.f7 6) = tontinelaw20_CheckFlows.T6 := by kernel_rfl
theorem tontinelaw20_CheckFlows.bits6 : waitsOk tontinelaw20_CheckFlows.T6.2 tontinelaw20_CheckFlows.B6 = true := by kernel_rfl
def tontinelaw20_CheckFlows.T7 : Bool × List (List Nat × List Nat) := (true, [([], []), ([], []), ([], []), ([0, 1, 2], [0, 1, 2]), ([3], [3]), ([], []), ([], []), ([], []), ([5, 6, 7, 3], [5, 6, 7]), ([8], [8]), ([4, 8, 0, 1, 2, 3, 4], [4]), ([9, 10, 0, 1, 2, 3, 4, 5, 6, 7, 8, 9, 10], [9])])
def tontinelaw20_CheckFlows.B7 : List Nat := [0, 0, 0, 7, 15, 0, 0, 0, 239, 495, 511, 2047]
theorem tontinelaw20_CheckFlows.tab7 : rtab .any (opsOf Try.f7 7) = tontinelaw20_CheckFlows.T7 := by kernel_rfl
theorem tontinelaw20_CheckFlows.bits7 : waitsOk tontinelaw20_CheckFlows.T7.2 tontinelaw20_CheckFlows.B7 = true := by kernel_rfl
def tontinelaw20_CheckFlows.T8 : Bool × List (List Nat × List Nat) := (true, [([], []), ([], []), ([0, 1], [0, 1]), ([2], [2]), ([3], [3]), ([3], [3]), ([3], [3]), ([5, 6, 3, 3], [3, 5, 6]), ([4, 7, 3], [3, 4, 7]), ([3, 8], [3, 8]), ([9, 7], [9]), ([10], [10]), ([11, 10, 10], [10, 11]), ([12], [12]), ([12], [12]), ([12], [12]), ([13, 14, 15, 12, 12], [12, 13, 14, 15]), ([16, 12], [12, 16]), ([12, 17, 10], [10, 12, 17]), ([10], [10]), ([10], [10]), ([19, 20, 10], [10, 19, 20]), ([18, 21, 10], [10, 18, 21]), ([10, 22], [10, 22]), ([23, 16, 0, 1, 2, 3, 4, 5, 6, 7, 8, 9, 10, 11, 12, 13, 14, 15, 16, 17, 18, 19, 20, 21, 22, 23], [23])])
def tontinelaw20_CheckFlows.B8 : List Nat := [0, 0, 3, 7, 15, 15, 15, 111, 255, 511, 1023, 2047, 4095, 8191, 8191, 8191, 65535, 131071, 262143, 2047, 2047, 1574911, 4194303, 8388607, 16777215]
theorem tontinelaw20_CheckFlows.tab8 : rtab .any (opsOf Try.f7 8) = tontinelaw20_CheckFlows.T8 := by kernel_rfl
theorem tontinelaw20_CheckFlows.bits8 : waitsOk tontinelaw20_CheckFlows.T8.2 tontinelaw20_CheckFlows.B8 = true := by kernel_rfl
set_option maxHeartbeats 8000000 in
set_option maxRecDepth 100000 in
theorem tontinelaw20_CheckFlows.calls (k : Nat) (a0_0 : Int) (a0_1 : Int) (A0_2 : Option Addr) (c0_2 : Nat) (l0_2 : List (List Int)) (A0_3 : Option Addr) (c0_3 : Nat) (l0_3 : List (S44)) (a1 : Int) (a2 : Int) (r : Bool) (hrt : r = true) (w : World) (hr0_2 : Kd.C (Kd.slice 3 (Kd.int .i64)) w A0_2 l0_2.length l0_2) (hc0_2 : l0_2.length ≤ c0_2) (hr0_3 : Kd.C k44 w A0_3 l0_3.length l0_3) (hc0_3 : l0_3.length ≤ c0_3) (h : tontinelaw20_CheckFlows.f k a0_0 a0_1 l0_2 l0_3 a1 a2 = some r) :
    Calls Try.prog 7 #[.agg #[.int .i64 a0_0, .int .i64 a0_1, .slice A0_2 l0_2.length c0_2, .slice A0_3 l0_3.length c0_3], .int .u8 a1, .int .u8 a2] w fun e w' => e = .returned (.bool r) ∧ Below w.heap.size w w' := by
 have hu25 := Try.underlying25; have hu42 := Try.underlying42; have hu50 := Try.underlying50; have hu54 := Try.underlying54
 have HR0_2 := Goto.m0 hr0_2
 have HC0_2 := Goto.m0 hc0_2
 clear hr0_2 hc0_2
 have HR0_3 := Goto.m0 hr0_3
 have HC0_3 := Goto.m0 hc0_3
 clear hr0_3 hc0_3
 have HB := Goto.m0 (Below.refl w.heap.size w)
 have HRT := Goto.m0 hrt
 clear hrt
 have H : ((tontinelaw20_known.f k).bind fun t250 => (if t250 = true then ((tontinehelp_WideConf.f k a0_0 a0_1 l0_2 l0_3).bind fun t251 => (if t251 = true then (tontinelaw20_CheckFlows.j0 k a1 a2 true a0_0 a0_1 l0_2 l0_3) else ((tontineref1_IsConf.f k a0_0 a0_1 l0_2 l0_3).bind fun t252 => (tontinelaw20_CheckFlows.j0 k a1 a2 (t252 != 0) a0_0 a0_1 l0_2 l0_3)))) else (some false))) = some r := h
 clear h
 replace H := Option.bind_eq_some_iff.mp H
 obtain ⟨t250, A40, H⟩ := H
 have A4 := Goto.m0 A40
 clear A40
 by_cases c5 : t250 = true
 ·
  subst c5
  rw [if_pos rfl] at H
  have HC6 := Goto.m0 H
  clear H
  go_enter Try.func7, Try.ntmps7
  go_upto_region 3 with (first | ((with_reducible refine gate_dst (N := 3) rfl ?_); refine box_event ?hg (N := 3) ?hd (cs := #[.int .i64 a0_0, .int .i64 a0_1, .slice A0_2 l0_2.length c0_2, .slice A0_3 l0_3.length c0_3]) (t := 25) ?hr ?_; (case hd => rfl); (case hg => rfl); (case hr => first | (go_simp; done) | (go_simp; rfl)); intro gb249 hg w7 hbox hb; have BK249 := Goto.m0 (hbox); have GW249 := Goto.gs HB hg; have GE249 := Goto.gs HB hg; replace HB := Goto.hs HB hb; clear hb hbox hg) | ((with_reducible refine gate_callee (f := 26) rfl ?_); refine goesL_ (some 13) rfl rfl Try.func26 (by kernel_rfl) rfl #[] rfl (by (try simp only [List.map_toArray, List.map_cons, List.map_nil]); first | done | rfl | (simp only [List.length_drop, List.length_take]; rfl)) ?_; (with_reducible refine (tontinelaw20_known.calls k  true (by first | rfl | assumption | (simp only [Bool.not_eq_true, Bool.not_eq_false] at *; assumption)) _ A4.out).mono ?_); rintro e w8 ⟨rfl, hb⟩; refine ⟨_, rfl, ?_⟩; replace BK249 := Goto.bb BK249 hb; replace HB := Goto.hs HB hb; (try clear hb); (try clear hb2); (try clear hk); (try clear hi)))
  (try simp only [Act.put, List.setIfInBounds_toArray, List.set_cons_zero, List.set_cons_succ])
  go_cut [21] (fun v21 wc => ∃ (kq : Nat) (x21_5 : Bool), v21 = .bool x21_5 ∧ Aside0 (tontinelaw20_CheckFlows.j0 kq a1 a2 x21_5 a0_0 a0_1 l0_2 l0_3 = some r) ∧ Aside0 (kq ≤ k) ∧ Aside0 (wc.heap[gb249]? = some (.cells #[.int .i64 a0_0, .int .i64 a0_1, (.slice A0_2 l0_2.length c0_2), (.slice A0_3 l0_3.length c0_3)] 25 (0, 0))) ∧ Aside0 (Below w.heap.size w wc))
  case first =>
   have H := HC6.out; clear HC6
   replace H := Option.bind_eq_some_iff.mp H
   obtain ⟨t251, A90, H⟩ := H
   have A9 := Goto.m0 A90
   clear A90
   by_cases c10 : t251 = true
   ·
    subst c10
    rw [if_pos rfl] at H
    have H' := Goto.m0 H
    clear H; have hcz11_0 : w8.cell? ⟨gb249, 0, none⟩ = some (.int .i64 a0_0) := (blk_cell BK249.out 0).trans rfl; have hcz11_1 : w8.cell? ⟨gb249, 1, none⟩ = some (.int .i64 a0_1) := (blk_cell BK249.out 1).trans rfl; have hcz11_2 : w8.cell? ⟨gb249, 2, none⟩ = some (.slice A0_2 l0_2.length c0_2) := (blk_cell BK249.out 2).trans rfl; have hcz11_3 : w8.cell? ⟨gb249, 3, none⟩ = some (.slice A0_3 l0_3.length c0_3) := (blk_cell BK249.out 3).trans rfl; have hfz11_0 := blk_frozen BK249.out 0; have hfz11_1 := blk_frozen BK249.out 1; have hfz11_2 := blk_frozen BK249.out 2; have hfz11_3 := blk_frozen BK249.out 3
    go_wp2_with (first | ((with_reducible refine gate_callee (f := 13) rfl ?_); refine goesL_ (some 16) rfl rfl Try.func13 (by kernel_rfl) rfl #[.agg #[.int .i64 a0_0, .int .i64 a0_1, .slice A0_2 l0_2.length c0_2, .slice A0_3 l0_3.length c0_3]] rfl (by (try simp only [List.map_toArray, List.map_cons, List.map_nil]); first | done | rfl | (simp only [List.length_drop, List.length_take]; rfl)) ?_; (with_reducible refine (tontinehelp_WideConf.calls k a0_0 a0_1 _ _ l0_2 _ _ l0_3 true _ ?side1 ?side2 ?side3 ?side4 A9.out).mono ?_); (case side1 => repeat (first | exact (Kd.C_below HR0_2.out HB.out) | (with_reducible refine Kd.C_alloc ?_ _) | (with_reducible refine Kd.C_drewN ?_ _) | (with_reducible refine Kd.C_drew ?_))); (case side2 => exact HC0_2.out); (case side3 => repeat (first | exact (Kd.C_below HR0_3.out HB.out) | (with_reducible refine Kd.C_alloc ?_ _) | (with_reducible refine Kd.C_drewN ?_ _) | (with_reducible refine Kd.C_drew ?_))); (case side4 => exact HC0_3.out); rintro e w12 ⟨rfl, hb⟩; refine ⟨_, rfl, ?_⟩; replace BK249 := Goto.bb BK249 hb; replace HB := Goto.hs HB hb; (try clear hb); (try clear hb2); (try clear hk); (try clear hi)))
    go_meet
    case rel => exact ⟨_, (true), (by first | rfl | (simp; done) | (simp [*]; done)), H', ⟨by first | omega | exact Nat.le_refl _⟩, ⟨Goto.bx BK249⟩, ⟨Goto.hx HB⟩⟩
   ·
    replace c10 := Bool.eq_false_iff.mpr c10
    subst c10
    rw [if_neg (show ¬ (false = true) by decide)] at H
    replace H := Option.bind_eq_some_iff.mp H
    obtain ⟨t252, A130, H⟩ := H
    have A13 := Goto.m0 A130
    clear A130
    have H' := Goto.m0 H
    clear H; have hcz14_0 : w8.cell? ⟨gb249, 0, none⟩ = some (.int .i64 a0_0) := (blk_cell BK249.out 0).trans rfl; have hcz14_1 : w8.cell? ⟨gb249, 1, none⟩ = some (.int .i64 a0_1) := (blk_cell BK249.out 1).trans rfl; have hcz14_2 : w8.cell? ⟨gb249, 2, none⟩ = some (.slice A0_2 l0_2.length c0_2) := (blk_cell BK249.out 2).trans rfl; have hcz14_3 : w8.cell? ⟨gb249, 3, none⟩ = some (.slice A0_3 l0_3.length c0_3) := (blk_cell BK249.out 3).trans rfl; have hfz14_0 := blk_frozen BK249.out 0; have hfz14_1 := blk_frozen BK249.out 1; have hfz14_2 := blk_frozen BK249.out 2; have hfz14_3 := blk_frozen BK249.out 3
    go_wp2_with (first | ((with_reducible refine gate_callee (f := 13) rfl ?_); refine goesL_ (some 16) rfl rfl Try.func13 (by kernel_rfl) rfl #[.agg #[.int .i64 a0_0, .int .i64 a0_1, .slice A0_2 l0_2.length c0_2, .slice A0_3 l0_3.length c0_3]] rfl (by (try simp only [List.map_toArray, List.map_cons, List.map_nil]); first | done | rfl | (simp only [List.length_drop, List.length_take]; rfl)) ?_; (with_reducible refine (tontinehelp_WideConf.calls k a0_0 a0_1 _ _ l0_2 _ _ l0_3 false _ ?side1 ?side2 ?side3 ?side4 A9.out).mono ?_); (case side1 => repeat (first | exact (Kd.C_below HR0_2.out HB.out) | (with_reducible refine Kd.C_alloc ?_ _) | (with_reducible refine Kd.C_drewN ?_ _) | (with_reducible refine Kd.C_drew ?_))); (case side2 => exact HC0_2.out); (case side3 => repeat (first | exact (Kd.C_below HR0_3.out HB.out) | (with_reducible refine Kd.C_alloc ?_ _) | (with_reducible refine Kd.C_drewN ?_ _) | (with_reducible refine Kd.C_drew ?_))); (case side4 => exact HC0_3.out); rintro e w15 ⟨rfl, hb⟩; refine ⟨_, rfl, ?_⟩; replace BK249 := Goto.bb BK249 hb; replace HB := Goto.hs HB hb; (try clear hb); (try clear hb2); (try clear hk); (try clear hi); have hcz16_0 : w15.cell? ⟨gb249, 0, none⟩ = some (.int .i64 a0_0) := (blk_cell BK249.out 0).trans rfl; have hcz16_1 : w15.cell? ⟨gb249, 1, none⟩ = some (.int .i64 a0_1) := (blk_cell BK249.out 1).trans rfl; have hcz16_2 : w15.cell? ⟨gb249, 2, none⟩ = some (.slice A0_2 l0_2.length c0_2) := (blk_cell BK249.out 2).trans rfl; have hcz16_3 : w15.cell? ⟨gb249, 3, none⟩ = some (.slice A0_3 l0_3.length c0_3) := (blk_cell BK249.out 3).trans rfl; have hfz16_0 := blk_frozen BK249.out 0; have hfz16_1 := blk_frozen BK249.out 1; have hfz16_2 := blk_frozen BK249.out 2; have hfz16_3 := blk_frozen BK249.out 3) | (go_at_call 14; (with_reducible refine (tontineref1_IsConf.calls k a0_0 a0_1 _ _ l0_2 _ _ l0_3 t252 _ ?side1 ?side2 ?side3 ?side4 A13.out).mono ?_); (case side1 => repeat (first | exact (Kd.C_below HR0_2.out HB.out) | (with_reducible refine Kd.C_alloc ?_ _) | (with_reducible refine Kd.C_drewN ?_ _) | (with_reducible refine Kd.C_drew ?_))); (case side2 => exact HC0_2.out); (case side3 => repeat (first | exact (Kd.C_below HR0_3.out HB.out) | (with_reducible refine Kd.C_alloc ?_ _) | (with_reducible refine Kd.C_drewN ?_ _) | (with_reducible refine Kd.C_drew ?_))); (case side4 => exact HC0_3.out); rintro e w17 ⟨rfl, hb⟩; replace BK249 := Goto.bb BK249 hb; replace HB := Goto.hs HB hb; (try clear hb); (try clear hb2); (try clear hk); (try clear hi)))
    go_meet
    case rel => exact ⟨_, ((t252 != 0)), (by first | rfl | (simp; done) | (simp [*]; done)), H', ⟨by first | omega | exact Nat.le_refl _⟩, ⟨Goto.bx BK249⟩, ⟨Goto.hx HB⟩⟩
  case rest =>
   clear HC6; try clear c1; try clear c2; try clear p2; try clear c5; try clear c7; try clear c10; try clear c13; try clear hcz11_0; try clear hcz11_1; try clear hcz11_2; try clear hcz11_3; try clear hcz14_0; try clear hcz14_1; try clear hcz14_2; try clear hcz14_3; try clear hcz16_0; try clear hcz16_1; try clear hcz16_2; try clear hcz16_3; try clear hfz11_0; try clear hfz11_1; try clear hfz11_2; try clear hfz11_3; try clear hfz14_0; try clear hfz14_1; try clear hfz14_2; try clear hfz14_3; try clear hfz16_0; try clear hfz16_1; try clear hfz16_2; try clear hfz16_3
   obtain ⟨kq, x21_5, rfl, HA, HJ5, BK249, HB⟩ := hcut
   cases kq with
   | zero => exact absurd HA.out (by simp [tontinelaw20_CheckFlows.j0])
   | succ kj5 =>
    have H := HA.out; clear HA
    simp only [tontinelaw20_CheckFlows.j0] at H
    by_cases c18 : x21_5 = true
    ·
     subst c18
     rw [if_pos rfl] at H
     obtain rfl := Option.some.inj H
     go_wp2
     go_ret
     exact ⟨by first | rfl | (simp [errW_none, errW_some] <;> rfl) | (simp [*, errW_none, errW_some] <;> rfl), by repeat (first | (with_reducible first | exact HB.out | apply below_alloc | apply pw_below_drewN | apply below_drew1 | refine below_set ?_ GE249.out) | exact HB.out)⟩
    ·
     replace c18 := Bool.eq_false_iff.mpr c18
     subst c18
     rw [if_neg (show ¬ (false = true) by decide)] at H
     by_cases c19 : (l0_3.length : Int) = 0
     ·
      rw [if_pos c19] at H
      exact absurd H (by simp)
     ·
      rw [if_neg c19] at H
      have c19b0 : ((l0_3.length : Int) == 0) = false := beq_eq_false_iff_ne.mpr c19
      have c19b1 : ((l0_3.length : Int) != 0) = true := bne_iff_ne.mpr c19
      have c19b2 : ¬ (l0_3 = []) := fun h_ => c19 (by rw [h_]; rfl)
      obtain ⟨ji20, hji20⟩ : ∃ j_ : Int, (Int.tmod (wrap64 (a1)) (l0_3.length : Int)) = j_ := ⟨_, rfl⟩
      replace H : (if 0 ≤ (ji20) then (if (ji20) < (l0_3.length : Int) then (if 0 ≤ (Int.tmod (wrap64 (a2)) (l0_3.length : Int)) then (if (Int.tmod (wrap64 (a2)) (l0_3.length : Int)) < (l0_3.length : Int) then ((check_Read.f kj5 a0_0 a0_1 l0_2 l0_3 (ji20) (Int.tmod (wrap64 (a2)) (l0_3.length : Int))).bind fun t257 => (if t257.isNone = true then ((check_Send.f kj5 a0_0 a0_1 l0_2 l0_3 (Int.tmod (wrap64 (a2)) (l0_3.length : Int)) (ji20)).bind fun t259 => (if t259.isNone = true then (tontinelaw20_CheckFlows.j1 kj5 ji20 (Int.tmod (wrap64 (a2)) (l0_3.length : Int)) true true a0_0 a0_1 l0_2 l0_3 ((rd_T44 l0_3 (ji20)).f0.f0) ((rd_T44 l0_3 (ji20)).f0.f1) ((rd_T44 l0_3 (Int.tmod (wrap64 (a2)) (l0_3.length : Int))).f0.f0) ((rd_T44 l0_3 (Int.tmod (wrap64 (a2)) (l0_3.length : Int))).f0.f1)) else (tontinelaw20_CheckFlows.j1 kj5 ji20 (Int.tmod (wrap64 (a2)) (l0_3.length : Int)) true false a0_0 a0_1 l0_2 l0_3 ((rd_T44 l0_3 (ji20)).f0.f0) ((rd_T44 l0_3 (ji20)).f0.f1) ((rd_T44 l0_3 (Int.tmod (wrap64 (a2)) (l0_3.length : Int))).f0.f0) ((rd_T44 l0_3 (Int.tmod (wrap64 (a2)) (l0_3.length : Int))).f0.f1)))) else ((check_Send.f kj5 a0_0 a0_1 l0_2 l0_3 (Int.tmod (wrap64 (a2)) (l0_3.length : Int)) (ji20)).bind fun t261 => (if t261.isNone = true then (tontinelaw20_CheckFlows.j1 kj5 ji20 (Int.tmod (wrap64 (a2)) (l0_3.length : Int)) false true a0_0 a0_1 l0_2 l0_3 ((rd_T44 l0_3 (ji20)).f0.f0) ((rd_T44 l0_3 (ji20)).f0.f1) ((rd_T44 l0_3 (Int.tmod (wrap64 (a2)) (l0_3.length : Int))).f0.f0) ((rd_T44 l0_3 (Int.tmod (wrap64 (a2)) (l0_3.length : Int))).f0.f1)) else (tontinelaw20_CheckFlows.j1 kj5 ji20 (Int.tmod (wrap64 (a2)) (l0_3.length : Int)) false false a0_0 a0_1 l0_2 l0_3 ((rd_T44 l0_3 (ji20)).f0.f0) ((rd_T44 l0_3 (ji20)).f0.f1) ((rd_T44 l0_3 (Int.tmod (wrap64 (a2)) (l0_3.length : Int))).f0.f0) ((rd_T44 l0_3 (Int.tmod (wrap64 (a2)) (l0_3.length : Int))).f0.f1)))))) else (none)) else (none)) else (none)) else (none)) = some r := by first | (rw [hji20] at H; exact H) | (simp only [hji20] at H ⊢; exact H)
      by_cases c21 : 0 ≤ (ji20)
      ·
       rw [if_pos c21] at H
       have c21b0 : decide (0 ≤ (ji20)) = true := decide_eq_true c21
       clear c21
       by_cases c22 : (ji20) < (l0_3.length : Int)
       ·
        rw [if_pos c22] at H
        have c22b0 : decide ((ji20) < (l0_3.length : Int)) = true := decide_eq_true c22
        clear c22
        obtain ⟨ji23, hji23⟩ : ∃ j_ : Int, (Int.tmod (wrap64 (a2)) (l0_3.length : Int)) = j_ := ⟨_, rfl⟩
        (try rw [hji23] at hji20)
        (try rw [hji23] at hji20w)
        replace H : (if 0 ≤ (ji23) then (if (ji23) < (l0_3.length : Int) then ((check_Read.f kj5 a0_0 a0_1 l0_2 l0_3 (ji20) (ji23)).bind fun t257 => (if t257.isNone = true then ((check_Send.f kj5 a0_0 a0_1 l0_2 l0_3 (ji23) (ji20)).bind fun t259 => (if t259.isNone = true then (tontinelaw20_CheckFlows.j1 kj5 ji20 ji23 true true a0_0 a0_1 l0_2 l0_3 ((rd_T44 l0_3 (ji20)).f0.f0) ((rd_T44 l0_3 (ji20)).f0.f1) ((rd_T44 l0_3 (ji23)).f0.f0) ((rd_T44 l0_3 (ji23)).f0.f1)) else (tontinelaw20_CheckFlows.j1 kj5 ji20 ji23 true false a0_0 a0_1 l0_2 l0_3 ((rd_T44 l0_3 (ji20)).f0.f0) ((rd_T44 l0_3 (ji20)).f0.f1) ((rd_T44 l0_3 (ji23)).f0.f0) ((rd_T44 l0_3 (ji23)).f0.f1)))) else ((check_Send.f kj5 a0_0 a0_1 l0_2 l0_3 (ji23) (ji20)).bind fun t261 => (if t261.isNone = true then (tontinelaw20_CheckFlows.j1 kj5 ji20 ji23 false true a0_0 a0_1 l0_2 l0_3 ((rd_T44 l0_3 (ji20)).f0.f0) ((rd_T44 l0_3 (ji20)).f0.f1) ((rd_T44 l0_3 (ji23)).f0.f0) ((rd_T44 l0_3 (ji23)).f0.f1)) else (tontinelaw20_CheckFlows.j1 kj5 ji20 ji23 false false a0_0 a0_1 l0_2 l0_3 ((rd_T44 l0_3 (ji20)).f0.f0) ((rd_T44 l0_3 (ji20)).f0.f1) ((rd_T44 l0_3 (ji23)).f0.f0) ((rd_T44 l0_3 (ji23)).f0.f1)))))) else (none)) else (none)) = some r := by first | (rw [hji23] at H; exact H) | (simp only [hji23] at H ⊢; exact H)
        by_cases c24 : 0 ≤ (ji23)
        ·
         rw [if_pos c24] at H
         have c24b0 : decide (0 ≤ (ji23)) = true := decide_eq_true c24
         clear c24
         by_cases c25 : (ji23) < (l0_3.length : Int)
         ·
          rw [if_pos c25] at H
          have c25b0 : decide ((ji23) < (l0_3.length : Int)) = true := decide_eq_true c25
          clear c25
          have HC26 := Goto.m0 H
          clear H
          try go_wp2
          replace BK249 := Goto.m0 (blk_drew BK249.out); replace HB := Goto.m0 (below_drew1 HB.out)
          refine start_ (n := 14) (S := fun w' => w'.cell? ⟨gb249, 0, none⟩ = some (.int .i64 a0_0) ∧ w'.cell? ⟨gb249, 1, none⟩ = some (.int .i64 a0_1) ∧ w'.cell? ⟨gb249, 2, none⟩ = some (.slice A0_2 l0_2.length c0_2) ∧ w'.cell? ⟨gb249, 3, none⟩ = some (.slice A0_3 l0_3.length c0_3)) (ds := []) (.replicate 14 false) (by kernel_rfl) rfl rfl ⟨(blk_cell BK249.out 0).trans rfl, (blk_cell BK249.out 1).trans rfl, (blk_cell BK249.out 2).trans rfl, (blk_cell BK249.out 3).trans rfl⟩ (fun hHeld => ?_); refine with_tabW tontinelaw20_CheckFlows.tab5 tontinelaw20_CheckFlows.bits5 (fun HT_ HW_ => ?_)
          generalize wc.drew = w27 at BK249 HB hHeld ⊢
          refine pure_ (i := 0) (N := some 22) (v := ?_) (a' := ?_) (Goto.bs 14 1) rfl rfl (any_of HT_.out (by kernel_rfl)) (fun _ _ _ h => h) (Or.inl ⟨by rfl, ?_⟩) ?_ ?_
          rotate_left
          ·
           intro w'
           go_simp
           with_reducible rfl
          rotate_left
          ·
           exact Goto.ap
          refine pure_ (i := 1) (N := some 23) (v := ?_) (a' := ?_) (Goto.bs 14 3) rfl rfl (any_of HT_.out (by kernel_rfl)) (fun _ _ _ h => h) (Or.inl ⟨by rfl, ?_⟩) ?_ ?_
          rotate_left
          ·
           intro w'
           go_simp
           with_reducible rfl
          rotate_left
          ·
           exact Goto.ap
          refine pure_ (i := 2) (N := some 24) (v := ?_) (a' := ?_) (Goto.bs 14 7) rfl rfl (any_of HT_.out (by kernel_rfl)) (fun _ _ _ h => h) (Or.inl ⟨by rfl, ?_⟩) ?_ ?_
          rotate_left
          ·
           intro w'
           go_simp
           with_reducible rfl
          rotate_left
          ·
           exact Goto.ap
          refine pure_ (i := 6) (N := some 28) (v := ?_) (a' := ?_) (Goto.bs 14 71) rfl rfl (any_of HT_.out (by kernel_rfl)) (fun _ _ _ h => h) (Or.inl ⟨by rfl, ?_⟩) ?_ ?_
          rotate_left
          ·
           intro w'
           go_simp
           with_reducible rfl
          rotate_left
          ·
           exact Goto.ap
          refine pure_ (i := 7) (N := some 29) (v := ?_) (a' := ?_) (Goto.bs 14 199) rfl rfl (any_of HT_.out (by kernel_rfl)) (fun _ _ _ h => h) (Or.inl ⟨by rfl, ?_⟩) ?_ ?_
          rotate_left
          ·
           intro w'
           go_simp
           with_reducible rfl
          rotate_left
          ·
           exact Goto.ap
          refine pure_ (i := 8) (N := some 30) (v := ?_) (a' := ?_) (Goto.bs 14 455) rfl rfl (any_of HT_.out (by kernel_rfl)) (fun _ _ _ h => h) (Or.inl ⟨by rfl, ?_⟩) ?_ ?_
          rotate_left
          ·
           intro w'
           go_simp
           with_reducible rfl
          rotate_left
          ·
           exact Goto.ap
          refine take_ (i := 3) (N := some 25) (v := ?_) (a' := ?_) (Goto.bs 14 463) rfl rfl (take_ofW HT_.out HW_.out (by kernel_rfl)) (fun _ _ _ h => h) (Or.inl ⟨by rfl, ?_⟩) hHeld ?_ ?_
          rotate_left
          ·
           rintro w' ⟨s0, s1, s2, s3⟩
           go_simp
           with_reducible rfl
          rotate_left
          ·
           exact Goto.ap
          refine pure_ (i := 4) (N := some 26) (v := ?_) (a' := ?_) (Goto.bs 14 479) rfl rfl (any_of HT_.out (by kernel_rfl)) (fun _ _ _ h => h) (Or.inl ⟨by rfl, ?_⟩) ?_ ?_
          rotate_left
          ·
           intro w'
           go_simp
           with_reducible rfl
          rotate_left
          ·
           exact Goto.ap
          refine pure_ (i := 5) (N := some 27) (v := ?_) (a' := ?_) (Goto.bs 14 511) rfl rfl (any_of HT_.out (by kernel_rfl)) (fun _ _ _ h => h) (Or.inl ⟨by rfl, ?_⟩) ?_ ?_
          rotate_left
          ·
           intro w'
           go_simp
           with_reducible rfl
          rotate_left
          ·
           exact Goto.ap
          refine pure_ (i := 12) (N := some 7) (v := ?_) (a' := ?_) (Goto.bs 14 4607) rfl rfl (any_of HT_.out (by kernel_rfl)) (fun _ _ _ h => h) (Or.inl ⟨by rfl, ?_⟩) ?_ ?_
          rotate_left
          ·
           intro w'
           go_simp
           with_reducible rfl
          rotate_left
          ·
           exact Goto.ap
          refine take_ (i := 9) (N := some 31) (v := ?_) (a' := ?_) (Goto.bs 14 5119) rfl rfl (take_ofW HT_.out HW_.out (by kernel_rfl)) (fun _ _ _ h => h) (Or.inl ⟨by rfl, ?_⟩) hHeld ?_ ?_
          rotate_left
          ·
           rintro w' ⟨s0, s1, s2, s3⟩
           go_simp
           with_reducible rfl
          rotate_left
          ·
           exact Goto.ap
          refine pure_ (i := 10) (N := some 32) (v := ?_) (a' := ?_) (Goto.bs 14 6143) rfl rfl (any_of HT_.out (by kernel_rfl)) (fun _ _ _ h => h) (Or.inl ⟨by rfl, ?_⟩) ?_ ?_
          rotate_left
          ·
           intro w'
           go_simp
           with_reducible rfl
          rotate_left
          ·
           exact Goto.ap
          refine pure_ (i := 11) (N := some 33) (v := ?_) (a' := ?_) (Goto.bs 14 8191) rfl rfl (any_of HT_.out (by kernel_rfl)) (fun _ _ _ h => h) (Or.inl ⟨by rfl, ?_⟩) ?_ ?_
          rotate_left
          ·
           intro w'
           go_simp
           with_reducible rfl
          rotate_left
          ·
           exact Goto.ap
          refine pure_ (i := 13) (N := some 8) (v := ?_) (a' := ?_) (Goto.bs 14 16383) rfl rfl (any_of HT_.out (by kernel_rfl)) (fun _ _ _ h => h) (Or.inl ⟨by rfl, ?_⟩) ?_ ?_
          rotate_left
          ·
           intro w'
           go_simp
           with_reducible rfl
          rotate_left
          ·
           exact Goto.ap
          refine done_ (done_of HT_.out (by kernel_rfl)) ?_
          try go_wp2
          replace BK249 := Goto.m0 (blk_drew BK249.out); replace HB := Goto.m0 (below_drew1 HB.out)
          have p253 : 0 ≤ ((ji20) : Int) := of_decide_eq_true (by first | (with_reducible assumption) | assumption)
          have q253 : (ji20) < (l0_3.length : Int) := of_decide_eq_true (by first | (with_reducible assumption) | assumption)
          obtain ⟨ad253, A253_2, c253_2, A253_3, c253_3, e253, hx253_0, hx253_1, hx253_2, hx253_3, hx253_4, hx253_5, hx253_6, hx253_7, hx253_8, hx253_9, hl253_2, hi253_2, hl253_3, hi253_3⟩ := at_T44 HR0_3.out (ji20) p253 q253
          have hw253_9 := hx253_9; have hw253_8 := hx253_8; have hw253_7 := hx253_7; have hw253_6 := hx253_6; have hw253_5 := hx253_5; have hw253_4 := hx253_4; have hw253_3 := hx253_3; have hw253_2 := hx253_2; have hw253_1 := hx253_1; have hw253_0 := hx253_0
          cases e253
          replace hx253_0 := Goto.kc HB.out hx253_0
          replace hx253_1 := Goto.kc HB.out hx253_1
          replace hx253_2 := Goto.kc HB.out hx253_2
          replace hx253_3 := Goto.kc HB.out hx253_3
          replace hx253_4 := Goto.kc HB.out hx253_4
          replace hx253_5 := Goto.kc HB.out hx253_5
          replace hx253_6 := Goto.kc HB.out hx253_6
          replace hx253_7 := Goto.kc HB.out hx253_7
          replace hx253_8 := Goto.kc HB.out hx253_8
          replace hx253_9 := Goto.kc HB.out hx253_9
          have HR253_2 := Goto.m0 hi253_2
          have HC253_2 := Goto.m0 hl253_2
          clear hi253_2 hl253_2
          have HR253_3 := Goto.m0 hi253_3
          have HC253_3 := Goto.m0 hl253_3
          clear hi253_3 hl253_3; replace p253 := eq_true p253; replace q253 := eq_true q253
          have p254 : 0 ≤ ((ji23) : Int) := of_decide_eq_true (by first | (with_reducible assumption) | assumption)
          have q254 : (ji23) < (l0_3.length : Int) := of_decide_eq_true (by first | (with_reducible assumption) | assumption)
          obtain ⟨ad254, A254_2, c254_2, A254_3, c254_3, e254, hx254_0, hx254_1, hx254_2, hx254_3, hx254_4, hx254_5, hx254_6, hx254_7, hx254_8, hx254_9, hl254_2, hi254_2, hl254_3, hi254_3⟩ := at_T44 HR0_3.out (ji23) p254 q254
          have hw254_9 := hx254_9; have hw254_8 := hx254_8; have hw254_7 := hx254_7; have hw254_6 := hx254_6; have hw254_5 := hx254_5; have hw254_4 := hx254_4; have hw254_3 := hx254_3; have hw254_2 := hx254_2; have hw254_1 := hx254_1; have hw254_0 := hx254_0
          obtain rfl : ad253 = ad254 := (by injection e254)
          replace hx254_0 := Goto.kc HB.out hx254_0
          replace hx254_1 := Goto.kc HB.out hx254_1
          replace hx254_2 := Goto.kc HB.out hx254_2
          replace hx254_3 := Goto.kc HB.out hx254_3
          replace hx254_4 := Goto.kc HB.out hx254_4
          replace hx254_5 := Goto.kc HB.out hx254_5
          replace hx254_6 := Goto.kc HB.out hx254_6
          replace hx254_7 := Goto.kc HB.out hx254_7
          replace hx254_8 := Goto.kc HB.out hx254_8
          replace hx254_9 := Goto.kc HB.out hx254_9
          have HR254_2 := Goto.m0 hi254_2
          have HC254_2 := Goto.m0 hl254_2
          clear hi254_2 hl254_2
          have HR254_3 := Goto.m0 hi254_3
          have HC254_3 := Goto.m0 hl254_3
          clear hi254_3 hl254_3; replace p254 := eq_true p254; replace q254 := eq_true q254
          refine start_ (n := 16) (S := fun w' => w'.cell? ⟨gb249, 0, none⟩ = some (.int .i64 a0_0) ∧ w'.cell? ⟨gb249, 1, none⟩ = some (.int .i64 a0_1) ∧ w'.cell? ⟨gb249, 2, none⟩ = some (.slice A0_2 l0_2.length c0_2) ∧ w'.cell? ⟨gb249, 3, none⟩ = some (.slice (some ad253) l0_3.length c0_3) ∧ w'.cell? (ad253.add (((ji20)).toNat * 10)) = some (.int .i64 ((rd_T44 l0_3 (ji20)).f0.f0)) ∧ w'.cell? ⟨(ad253.add (((ji20)).toNat * 10)).block, (ad253.add (((ji20)).toNat * 10)).off + 1, none⟩ = some (.int .u64 ((rd_T44 l0_3 (ji20)).f0.f1)) ∧ w'.cell? ⟨(ad253.add (((ji20)).toNat * 10)).block, (ad253.add (((ji20)).toNat * 10)).off + 2, none⟩ = some (.slice A253_2 ((rd_T44 l0_3 (ji20)).f1).length c253_2) ∧ w'.cell? ⟨(ad253.add (((ji20)).toNat * 10)).block, (ad253.add (((ji20)).toNat * 10)).off + 3, none⟩ = some (.slice A253_3 ((rd_T44 l0_3 (ji20)).f2).length c253_3) ∧ w'.cell? ⟨(ad253.add (((ji20)).toNat * 10)).block, (ad253.add (((ji20)).toNat * 10)).off + 4, none⟩ = some (.int .i64 ((rd_T44 l0_3 (ji20)).f3)) ∧ w'.cell? ⟨(ad253.add (((ji20)).toNat * 10)).block, (ad253.add (((ji20)).toNat * 10)).off + 5, none⟩ = some (.int .i64 ((rd_T44 l0_3 (ji20)).f4)) ∧ w'.cell? ⟨(ad253.add (((ji20)).toNat * 10)).block, (ad253.add (((ji20)).toNat * 10)).off + 6, none⟩ = some (.int .i64 ((rd_T44 l0_3 (ji20)).f5)) ∧ w'.cell? ⟨(ad253.add (((ji20)).toNat * 10)).block, (ad253.add (((ji20)).toNat * 10)).off + 7, none⟩ = some (.int .i64 ((rd_T44 l0_3 (ji20)).f6)) ∧ w'.cell? ⟨(ad253.add (((ji20)).toNat * 10)).block, (ad253.add (((ji20)).toNat * 10)).off + 8, none⟩ = some (.int .i64 ((rd_T44 l0_3 (ji20)).f7)) ∧ w'.cell? ⟨(ad253.add (((ji20)).toNat * 10)).block, (ad253.add (((ji20)).toNat * 10)).off + 9, none⟩ = some (.int .i64 ((rd_T44 l0_3 (ji20)).f8)) ∧ w'.cell? (ad253.add (((ji23)).toNat * 10)) = some (.int .i64 ((rd_T44 l0_3 (ji23)).f0.f0)) ∧ w'.cell? ⟨(ad253.add (((ji23)).toNat * 10)).block, (ad253.add (((ji23)).toNat * 10)).off + 1, none⟩ = some (.int .u64 ((rd_T44 l0_3 (ji23)).f0.f1)) ∧ w'.cell? ⟨(ad253.add (((ji23)).toNat * 10)).block, (ad253.add (((ji23)).toNat * 10)).off + 2, none⟩ = some (.slice A254_2 ((rd_T44 l0_3 (ji23)).f1).length c254_2) ∧ w'.cell? ⟨(ad253.add (((ji23)).toNat * 10)).block, (ad253.add (((ji23)).toNat * 10)).off + 3, none⟩ = some (.slice A254_3 ((rd_T44 l0_3 (ji23)).f2).length c254_3) ∧ w'.cell? ⟨(ad253.add (((ji23)).toNat * 10)).block, (ad253.add (((ji23)).toNat * 10)).off + 4, none⟩ = some (.int .i64 ((rd_T44 l0_3 (ji23)).f3)) ∧ w'.cell? ⟨(ad253.add (((ji23)).toNat * 10)).block, (ad253.add (((ji23)).toNat * 10)).off + 5, none⟩ = some (.int .i64 ((rd_T44 l0_3 (ji23)).f4)) ∧ w'.cell? ⟨(ad253.add (((ji23)).toNat * 10)).block, (ad253.add (((ji23)).toNat * 10)).off + 6, none⟩ = some (.int .i64 ((rd_T44 l0_3 (ji23)).f5)) ∧ w'.cell? ⟨(ad253.add (((ji23)).toNat * 10)).block, (ad253.add (((ji23)).toNat * 10)).off + 7, none⟩ = some (.int .i64 ((rd_T44 l0_3 (ji23)).f6)) ∧ w'.cell? ⟨(ad253.add (((ji23)).toNat * 10)).block, (ad253.add (((ji23)).toNat * 10)).off + 8, none⟩ = some (.int .i64 ((rd_T44 l0_3 (ji23)).f7)) ∧ w'.cell? ⟨(ad253.add (((ji23)).toNat * 10)).block, (ad253.add (((ji23)).toNat * 10)).off + 9, none⟩ = some (.int .i64 ((rd_T44 l0_3 (ji23)).f8))) (ds := []) (.replicate 16 false) (by kernel_rfl) rfl rfl ⟨(blk_cell BK249.out 0).trans rfl, (blk_cell BK249.out 1).trans rfl, (blk_cell BK249.out 2).trans rfl, (blk_cell BK249.out 3).trans rfl, (Goto.kc HB.out hw253_0), (Goto.kc HB.out hw253_1), (Goto.kc HB.out hw253_2), (Goto.kc HB.out hw253_3), (Goto.kc HB.out hw253_4), (Goto.kc HB.out hw253_5), (Goto.kc HB.out hw253_6), (Goto.kc HB.out hw253_7), (Goto.kc HB.out hw253_8), (Goto.kc HB.out hw253_9), (Goto.kc HB.out hw254_0), (Goto.kc HB.out hw254_1), (Goto.kc HB.out hw254_2), (Goto.kc HB.out hw254_3), (Goto.kc HB.out hw254_4), (Goto.kc HB.out hw254_5), (Goto.kc HB.out hw254_6), (Goto.kc HB.out hw254_7), (Goto.kc HB.out hw254_8), (Goto.kc HB.out hw254_9)⟩ (fun hHeld => ?_); refine with_tabW tontinelaw20_CheckFlows.tab6 tontinelaw20_CheckFlows.bits6 (fun HT_ HW_ => ?_)
          generalize w27.drew = w28 at BK249 HB HR253_2 HR253_3 HR254_2 HR254_3 hx253_0 hx253_1 hx253_2 hx253_3 hx253_4 hx253_5 hx253_6 hx253_7 hx253_8 hx253_9 hx254_0 hx254_1 hx254_2 hx254_3 hx254_4 hx254_5 hx254_6 hx254_7 hx254_8 hx254_9 hHeld ⊢
          refine pure_ (i := 0) (N := some 34) (v := ?_) (a' := ?_) (Goto.bs 16 1) rfl rfl (any_of HT_.out (by kernel_rfl)) (fun _ _ _ h => h) (Or.inl ⟨by rfl, ?_⟩) ?_ ?_
          rotate_left
          ·
           intro w'
           go_simp
           with_reducible rfl
          rotate_left
          ·
           exact Goto.ap
          refine pure_ (i := 2) (N := some 36) (v := ?_) (a' := ?_) (Goto.bs 16 5) rfl rfl (any_of HT_.out (by kernel_rfl)) (fun _ _ _ h => h) (Or.inl ⟨by rfl, ?_⟩) ?_ ?_
          rotate_left
          ·
           intro w'
           go_simp
           with_reducible rfl
          rotate_left
          ·
           exact Goto.ap
          refine pure_ (i := 6) (N := some 40) (v := ?_) (a' := ?_) (Goto.bs 16 69) rfl rfl (any_of HT_.out (by kernel_rfl)) (fun _ _ _ h => h) (Or.inl ⟨by rfl, ?_⟩) ?_ ?_
          rotate_left
          ·
           intro w'
           go_simp
           with_reducible rfl
          rotate_left
          ·
           exact Goto.ap
          refine pure_ (i := 8) (N := some 42) (v := ?_) (a' := ?_) (Goto.bs 16 325) rfl rfl (any_of HT_.out (by kernel_rfl)) (fun _ _ _ h => h) (Or.inl ⟨by rfl, ?_⟩) ?_ ?_
          rotate_left
          ·
           intro w'
           go_simp
           with_reducible rfl
          rotate_left
          ·
           exact Goto.ap
          refine take_ (i := 1) (N := some 35) (v := ?_) (a' := ?_) (Goto.bs 16 327) rfl rfl (take_ofW HT_.out HW_.out (by kernel_rfl)) (fun _ _ _ h => h) (Or.inl ⟨by rfl, ?_⟩) hHeld ?_ ?_
          rotate_left
          ·
           rintro w' ⟨s0, s1, s2, s3, s4, s5, s6, s7, s8, s9, s10, s11, s12, s13, s14, s15, s16, s17, s18, s19, s20, s21, s22, s23⟩
           go_simp
           with_reducible rfl
          rotate_left
          ·
           exact Goto.ap
          refine pure_ (i := 3) (N := some 37) (v := ?_) (a' := ?_) (Goto.bs 16 335) rfl rfl (any_of HT_.out (by kernel_rfl)) (fun _ _ _ h => h) (Or.inl ⟨by rfl, ?_⟩) ?_ ?_
          rotate_left
          ·
           intro w'
           go_simp
           with_reducible rfl
          rotate_left
          ·
           exact Goto.ap
          refine pure_ (i := 4) (N := some 38) (v := ?_) (a' := ?_) (Goto.bs 16 351) rfl rfl (any_of HT_.out (by kernel_rfl)) (fun _ _ _ h => h) (Or.inl ⟨by rfl, ?_⟩) ?_ ?_
          rotate_left
          ·
           intro w'
           go_simp
           with_reducible rfl
          rotate_left
          ·
           exact Goto.ap
          refine take_ (i := 5) (N := some 39) (v := ?_) (a' := ?_) (Goto.bs 16 383) rfl rfl (take_ofW HT_.out HW_.out (by kernel_rfl)) (fun _ _ _ h => h) (Or.inl ⟨by rfl, ?_⟩) hHeld ?_ ?_
          rotate_left
          ·
           rintro w' ⟨s0, s1, s2, s3, s4, s5, s6, s7, s8, s9, s10, s11, s12, s13, s14, s15, s16, s17, s18, s19, s20, s21, s22, s23⟩
           go_simp
           with_reducible rfl
          rotate_left
          ·
           exact Goto.ap
          refine take_ (i := 7) (N := some 41) (v := ?_) (a' := ?_) (Goto.bs 16 511) rfl rfl (take_ofW HT_.out HW_.out (by kernel_rfl)) (fun _ _ _ h => h) (Or.inl ⟨by rfl, ?_⟩) hHeld ?_ ?_
          rotate_left
          ·
           rintro w' ⟨s0, s1, s2, s3, s4, s5, s6, s7, s8, s9, s10, s11, s12, s13, s14, s15, s16, s17, s18, s19, s20, s21, s22, s23⟩
           go_simp
           with_reducible rfl
          rotate_left
          ·
           exact Goto.ap
          refine pure_ (i := 9) (N := some 43) (v := ?_) (a' := ?_) (Goto.bs 16 1023) rfl rfl (any_of HT_.out (by kernel_rfl)) (fun _ _ _ h => h) (Or.inl ⟨by rfl, ?_⟩) ?_ ?_
          rotate_left
          ·
           intro w'
           go_simp
           with_reducible rfl
          rotate_left
          ·
           exact Goto.ap
          refine pure_ (i := 10) (N := some 44) (v := ?_) (a' := ?_) (Goto.bs 16 2047) rfl rfl (any_of HT_.out (by kernel_rfl)) (fun _ _ _ h => h) (Or.inl ⟨by rfl, ?_⟩) ?_ ?_
          rotate_left
          ·
           intro w'
           go_simp
           with_reducible rfl
          rotate_left
          ·
           exact Goto.ap
          refine take_ (i := 11) (N := some 45) (v := ?_) (a' := ?_) (Goto.bs 16 4095) rfl rfl (take_ofW HT_.out HW_.out (by kernel_rfl)) (fun _ _ _ h => h) (Or.inl ⟨by rfl, ?_⟩) hHeld ?_ ?_
          rotate_left
          ·
           rintro w' ⟨s0, s1, s2, s3, s4, s5, s6, s7, s8, s9, s10, s11, s12, s13, s14, s15, s16, s17, s18, s19, s20, s21, s22, s23⟩
           go_simp
           with_reducible rfl
          rotate_left
          ·
           exact Goto.ap
          refine join_ (σ := Nat × Nat) 2 (Goto.bs 16 16383) (fun s_ => [(9, .pointer (some ⟨s_.1, 0, none⟩)), (10, .pointer (some ⟨s_.2, 0, none⟩))]) (fun s_ w' => (w'.cell? ⟨gb249, 0, none⟩ = some (.int .i64 a0_0) ∧ w'.cell? ⟨gb249, 1, none⟩ = some (.int .i64 a0_1) ∧ w'.cell? ⟨gb249, 2, none⟩ = some (.slice A0_2 l0_2.length c0_2) ∧ w'.cell? ⟨gb249, 3, none⟩ = some (.slice (some ad253) l0_3.length c0_3) ∧ w'.cell? (ad253.add (((ji20)).toNat * 10)) = some (.int .i64 ((rd_T44 l0_3 (ji20)).f0.f0)) ∧ w'.cell? ⟨(ad253.add (((ji20)).toNat * 10)).block, (ad253.add (((ji20)).toNat * 10)).off + 1, none⟩ = some (.int .u64 ((rd_T44 l0_3 (ji20)).f0.f1)) ∧ w'.cell? ⟨(ad253.add (((ji20)).toNat * 10)).block, (ad253.add (((ji20)).toNat * 10)).off + 2, none⟩ = some (.slice A253_2 ((rd_T44 l0_3 (ji20)).f1).length c253_2) ∧ w'.cell? ⟨(ad253.add (((ji20)).toNat * 10)).block, (ad253.add (((ji20)).toNat * 10)).off + 3, none⟩ = some (.slice A253_3 ((rd_T44 l0_3 (ji20)).f2).length c253_3) ∧ w'.cell? ⟨(ad253.add (((ji20)).toNat * 10)).block, (ad253.add (((ji20)).toNat * 10)).off + 4, none⟩ = some (.int .i64 ((rd_T44 l0_3 (ji20)).f3)) ∧ w'.cell? ⟨(ad253.add (((ji20)).toNat * 10)).block, (ad253.add (((ji20)).toNat * 10)).off + 5, none⟩ = some (.int .i64 ((rd_T44 l0_3 (ji20)).f4)) ∧ w'.cell? ⟨(ad253.add (((ji20)).toNat * 10)).block, (ad253.add (((ji20)).toNat * 10)).off + 6, none⟩ = some (.int .i64 ((rd_T44 l0_3 (ji20)).f5)) ∧ w'.cell? ⟨(ad253.add (((ji20)).toNat * 10)).block, (ad253.add (((ji20)).toNat * 10)).off + 7, none⟩ = some (.int .i64 ((rd_T44 l0_3 (ji20)).f6)) ∧ w'.cell? ⟨(ad253.add (((ji20)).toNat * 10)).block, (ad253.add (((ji20)).toNat * 10)).off + 8, none⟩ = some (.int .i64 ((rd_T44 l0_3 (ji20)).f7)) ∧ w'.cell? ⟨(ad253.add (((ji20)).toNat * 10)).block, (ad253.add (((ji20)).toNat * 10)).off + 9, none⟩ = some (.int .i64 ((rd_T44 l0_3 (ji20)).f8)) ∧ w'.cell? (ad253.add (((ji23)).toNat * 10)) = some (.int .i64 ((rd_T44 l0_3 (ji23)).f0.f0)) ∧ w'.cell? ⟨(ad253.add (((ji23)).toNat * 10)).block, (ad253.add (((ji23)).toNat * 10)).off + 1, none⟩ = some (.int .u64 ((rd_T44 l0_3 (ji23)).f0.f1)) ∧ w'.cell? ⟨(ad253.add (((ji23)).toNat * 10)).block, (ad253.add (((ji23)).toNat * 10)).off + 2, none⟩ = some (.slice A254_2 ((rd_T44 l0_3 (ji23)).f1).length c254_2) ∧ w'.cell? ⟨(ad253.add (((ji23)).toNat * 10)).block, (ad253.add (((ji23)).toNat * 10)).off + 3, none⟩ = some (.slice A254_3 ((rd_T44 l0_3 (ji23)).f2).length c254_3) ∧ w'.cell? ⟨(ad253.add (((ji23)).toNat * 10)).block, (ad253.add (((ji23)).toNat * 10)).off + 4, none⟩ = some (.int .i64 ((rd_T44 l0_3 (ji23)).f3)) ∧ w'.cell? ⟨(ad253.add (((ji23)).toNat * 10)).block, (ad253.add (((ji23)).toNat * 10)).off + 5, none⟩ = some (.int .i64 ((rd_T44 l0_3 (ji23)).f4)) ∧ w'.cell? ⟨(ad253.add (((ji23)).toNat * 10)).block, (ad253.add (((ji23)).toNat * 10)).off + 6, none⟩ = some (.int .i64 ((rd_T44 l0_3 (ji23)).f5)) ∧ w'.cell? ⟨(ad253.add (((ji23)).toNat * 10)).block, (ad253.add (((ji23)).toNat * 10)).off + 7, none⟩ = some (.int .i64 ((rd_T44 l0_3 (ji23)).f6)) ∧ w'.cell? ⟨(ad253.add (((ji23)).toNat * 10)).block, (ad253.add (((ji23)).toNat * 10)).off + 8, none⟩ = some (.int .i64 ((rd_T44 l0_3 (ji23)).f7)) ∧ w'.cell? ⟨(ad253.add (((ji23)).toNat * 10)).block, (ad253.add (((ji23)).toNat * 10)).off + 9, none⟩ = some (.int .i64 ((rd_T44 l0_3 (ji23)).f8))) ∧ (w'.heap[gb249]? = some (.cells #[.int .i64 a0_0, .int .i64 a0_1, .slice A0_2 l0_2.length c0_2, .slice (some ad253) l0_3.length c0_3] 25 (0, 0))) ∧ (w'.heap[s_.1]? = some (.cells #[.int .i64 0, .int .u64 0] 42 (0, 0))) ∧ (w'.heap[s_.2]? = some (.cells #[.int .i64 0, .int .u64 0] 42 (0, 0))) ∧ (w.heap.size ≤ s_.1) ∧ (w.heap.size ≤ s_.1) ∧ (gb249 ≠ s_.1) ∧ (s_.1 ≠ gb249) ∧ (s_.2 ≠ s_.1) ∧ (s_.1 ≠ s_.2) ∧ (w.heap.size ≤ s_.2) ∧ (w.heap.size ≤ s_.2) ∧ (gb249 ≠ s_.2) ∧ (s_.2 ≠ gb249) ∧ (Below w.heap.size w w')) ?_ ?_
          rotate_left
          ·
           intro hCont
           refine two_ (i := 12) (j := 13) (Ni := some 9) (Nj := some 10) (Goto.bs 16 8191) (Goto.bs 16 12287) rfl rfl rfl rfl (two_of HT_.out (by kernel_rfl)) (by decide) (by decide) (fun K hK => ?_) (fun K hK => ?_)
           ·
            skip
            refine box_step ?hg (N := 9) ?hd (cs := #[.int .i64 0, .int .u64 0]) (t := 42) ?hr ?_; (case hd => rfl); (case hg => rfl); (case hr => first | (go_simp; done) | (go_simp; rfl))
            intro gb255 hg w29 hbox hb
            have BK255 := Goto.m0 (hbox); have GW255 := Goto.gs HB hg; have GE255 := Goto.gs HB hg; have NB249_255 := Goto.nl BK249 hg; have NB255_249 := Goto.nr BK249 hg; replace BK249 := Goto.bb BK249 hb; replace HB := Goto.hs HB hb; clear hb hbox hg
            refine hK.out _ _ ⟨(blk_cell BK249.out 0).trans rfl, (blk_cell BK249.out 1).trans rfl, (blk_cell BK249.out 2).trans rfl, (blk_cell BK249.out 3).trans rfl, (Goto.kc HB.out hw253_0), (Goto.kc HB.out hw253_1), (Goto.kc HB.out hw253_2), (Goto.kc HB.out hw253_3), (Goto.kc HB.out hw253_4), (Goto.kc HB.out hw253_5), (Goto.kc HB.out hw253_6), (Goto.kc HB.out hw253_7), (Goto.kc HB.out hw253_8), (Goto.kc HB.out hw253_9), (Goto.kc HB.out hw254_0), (Goto.kc HB.out hw254_1), (Goto.kc HB.out hw254_2), (Goto.kc HB.out hw254_3), (Goto.kc HB.out hw254_4), (Goto.kc HB.out hw254_5), (Goto.kc HB.out hw254_6), (Goto.kc HB.out hw254_7), (Goto.kc HB.out hw254_8), (Goto.kc HB.out hw254_9)⟩ (fun hHeld => ?_)
            clear hK K
            refine norm_ (a' := ?_) ?_ ?_
            rotate_left
            ·
             show Act.put _ (some 9) _ = _
             exact Goto.ap
            refine one_ (i := 13) (N := some 10) (Goto.bs 16 16383) rfl rfl (one_of HT_.out (by kernel_rfl)) (by decide) (fun K hK => ?_)
            refine box_step ?hg (N := 10) ?hd (cs := #[.int .i64 0, .int .u64 0]) (t := 42) ?hr ?_; (case hd => rfl); (case hg => rfl); (case hr => first | (go_simp; done) | (go_simp; rfl))
            intro gb256 hg w30 hbox hb
            have BK256 := Goto.m0 (hbox); have GW256 := Goto.gs HB hg; have GE256 := Goto.gs HB hg; have NB249_256 := Goto.nl BK249 hg; have NB256_249 := Goto.nr BK249 hg; have NB255_256 := Goto.nl BK255 hg; have NB256_255 := Goto.nr BK255 hg; replace BK249 := Goto.bb BK249 hb; replace BK255 := Goto.bb BK255 hb; replace HB := Goto.hs HB hb; clear hb hbox hg
            refine hK.out _ _ ⟨(blk_cell BK249.out 0).trans rfl, (blk_cell BK249.out 1).trans rfl, (blk_cell BK249.out 2).trans rfl, (blk_cell BK249.out 3).trans rfl, (Goto.kc HB.out hw253_0), (Goto.kc HB.out hw253_1), (Goto.kc HB.out hw253_2), (Goto.kc HB.out hw253_3), (Goto.kc HB.out hw253_4), (Goto.kc HB.out hw253_5), (Goto.kc HB.out hw253_6), (Goto.kc HB.out hw253_7), (Goto.kc HB.out hw253_8), (Goto.kc HB.out hw253_9), (Goto.kc HB.out hw254_0), (Goto.kc HB.out hw254_1), (Goto.kc HB.out hw254_2), (Goto.kc HB.out hw254_3), (Goto.kc HB.out hw254_4), (Goto.kc HB.out hw254_5), (Goto.kc HB.out hw254_6), (Goto.kc HB.out hw254_7), (Goto.kc HB.out hw254_8), (Goto.kc HB.out hw254_9)⟩ (fun hHeld => ?_)
            clear hK K
            refine norm_ (a' := ?_) ?_ ?_
            rotate_left
            ·
             show Act.put _ (some 10) _ = _
             exact Goto.ap
            exact norm_ (by simp only [putAll, Act.put, List.setIfInBounds_toArray, List.set_cons_zero, List.set_cons_succ]) (hCont (gb255, gb256) _ ⟨hHeld, (Goto.bx BK249), (Goto.bx BK255), (Goto.bx BK256), GW255.out, GE255.out, NB249_255.out, NB255_249.out, NB256_255.out, NB255_256.out, GW256.out, GE256.out, NB249_256.out, NB256_249.out, (Goto.hx HB)⟩)
           ·
            skip
            refine box_step ?hg (N := 10) ?hd (cs := #[.int .i64 0, .int .u64 0]) (t := 42) ?hr ?_; (case hd => rfl); (case hg => rfl); (case hr => first | (go_simp; done) | (go_simp; rfl))
            intro gb256 hg w29 hbox hb
            have BK256 := Goto.m0 (hbox); have GW256 := Goto.gs HB hg; have GE256 := Goto.gs HB hg; have NB249_256 := Goto.nl BK249 hg; have NB256_249 := Goto.nr BK249 hg; replace BK249 := Goto.bb BK249 hb; replace HB := Goto.hs HB hb; clear hb hbox hg
            refine hK.out _ _ ⟨(blk_cell BK249.out 0).trans rfl, (blk_cell BK249.out 1).trans rfl, (blk_cell BK249.out 2).trans rfl, (blk_cell BK249.out 3).trans rfl, (Goto.kc HB.out hw253_0), (Goto.kc HB.out hw253_1), (Goto.kc HB.out hw253_2), (Goto.kc HB.out hw253_3), (Goto.kc HB.out hw253_4), (Goto.kc HB.out hw253_5), (Goto.kc HB.out hw253_6), (Goto.kc HB.out hw253_7), (Goto.kc HB.out hw253_8), (Goto.kc HB.out hw253_9), (Goto.kc HB.out hw254_0), (Goto.kc HB.out hw254_1), (Goto.kc HB.out hw254_2), (Goto.kc HB.out hw254_3), (Goto.kc HB.out hw254_4), (Goto.kc HB.out hw254_5), (Goto.kc HB.out hw254_6), (Goto.kc HB.out hw254_7), (Goto.kc HB.out hw254_8), (Goto.kc HB.out hw254_9)⟩ (fun hHeld => ?_)
            clear hK K
            refine norm_ (a' := ?_) ?_ ?_
            rotate_left
            ·
             show Act.put _ (some 10) _ = _
             exact Goto.ap
            refine one_ (i := 12) (N := some 9) (Goto.bs 16 16383) rfl rfl (one_of HT_.out (by kernel_rfl)) (by decide) (fun K hK => ?_)
            refine box_step ?hg (N := 9) ?hd (cs := #[.int .i64 0, .int .u64 0]) (t := 42) ?hr ?_; (case hd => rfl); (case hg => rfl); (case hr => first | (go_simp; done) | (go_simp; rfl))
            intro gb255 hg w30 hbox hb
            have BK255 := Goto.m0 (hbox); have GW255 := Goto.gs HB hg; have GE255 := Goto.gs HB hg; have NB249_255 := Goto.nl BK249 hg; have NB255_249 := Goto.nr BK249 hg; have NB256_255 := Goto.nl BK256 hg; have NB255_256 := Goto.nr BK256 hg; replace BK249 := Goto.bb BK249 hb; replace BK256 := Goto.bb BK256 hb; replace HB := Goto.hs HB hb; clear hb hbox hg
            refine hK.out _ _ ⟨(blk_cell BK249.out 0).trans rfl, (blk_cell BK249.out 1).trans rfl, (blk_cell BK249.out 2).trans rfl, (blk_cell BK249.out 3).trans rfl, (Goto.kc HB.out hw253_0), (Goto.kc HB.out hw253_1), (Goto.kc HB.out hw253_2), (Goto.kc HB.out hw253_3), (Goto.kc HB.out hw253_4), (Goto.kc HB.out hw253_5), (Goto.kc HB.out hw253_6), (Goto.kc HB.out hw253_7), (Goto.kc HB.out hw253_8), (Goto.kc HB.out hw253_9), (Goto.kc HB.out hw254_0), (Goto.kc HB.out hw254_1), (Goto.kc HB.out hw254_2), (Goto.kc HB.out hw254_3), (Goto.kc HB.out hw254_4), (Goto.kc HB.out hw254_5), (Goto.kc HB.out hw254_6), (Goto.kc HB.out hw254_7), (Goto.kc HB.out hw254_8), (Goto.kc HB.out hw254_9)⟩ (fun hHeld => ?_)
            clear hK K
            refine norm_ (a' := ?_) ?_ ?_
            rotate_left
            ·
             show Act.put _ (some 9) _ = _
             exact Goto.ap
            exact norm_ (by simp only [putAll, Act.put, List.setIfInBounds_toArray, List.set_cons_zero, List.set_cons_succ]) (hCont (gb255, gb256) _ ⟨hHeld, (Goto.bx BK249), (Goto.bx BK255), (Goto.bx BK256), GW255.out, GE255.out, NB249_255.out, NB255_249.out, NB256_255.out, NB255_256.out, GW256.out, GE256.out, NB249_256.out, NB256_249.out, (Goto.hx HB)⟩)
          rintro ⟨gb255, gb256⟩ w31 ⟨hS_, h0_, h1_, h2_, h3_, h4_, h5_, h6_, h7_, h8_, h9_, h10_, h11_, h12_, h13_⟩
          have n0_ : Aside0 (w31.heap[gb249]? = some (.cells #[.int .i64 a0_0, .int .i64 a0_1, .slice A0_2 l0_2.length c0_2, .slice (some ad253) l0_3.length c0_3] 25 (0, 0))) := ⟨h0_⟩
          have n1_ : Aside0 (w31.heap[gb255]? = some (.cells #[.int .i64 0, .int .u64 0] 42 (0, 0))) := ⟨h1_⟩
          have n2_ : Aside0 (w31.heap[gb256]? = some (.cells #[.int .i64 0, .int .u64 0] 42 (0, 0))) := ⟨h2_⟩
          have n3_ : Aside0 (w.heap.size ≤ gb255) := ⟨h3_⟩
          have n4_ : Aside0 (w.heap.size ≤ gb255) := ⟨h4_⟩
          have n5_ : Aside0 (gb249 ≠ gb255) := ⟨h5_⟩
          have n6_ : Aside0 (gb255 ≠ gb249) := ⟨h6_⟩
          have n7_ : Aside0 (gb256 ≠ gb255) := ⟨h7_⟩
          have n8_ : Aside0 (gb255 ≠ gb256) := ⟨h8_⟩
          have n9_ : Aside0 (w.heap.size ≤ gb256) := ⟨h9_⟩
          have n10_ : Aside0 (w.heap.size ≤ gb256) := ⟨h10_⟩
          have n11_ : Aside0 (gb249 ≠ gb256) := ⟨h11_⟩
          have n12_ : Aside0 (gb256 ≠ gb249) := ⟨h12_⟩
          have n13_ : Aside0 (Below w.heap.size w w31) := ⟨h13_⟩
          clear BK249; clear HB; clear h0_ h1_ h2_ h3_ h4_ h5_ h6_ h7_ h8_ h9_ h10_ h11_ h12_ h13_; have BK249 := n0_; have BK255 := n1_; have BK256 := n2_; have GW255 := n3_; have GE255 := n4_; have NB249_255 := n5_; have NB255_249 := n6_; have NB256_255 := n7_; have NB255_256 := n8_; have GW256 := n9_; have GE256 := n10_; have NB249_256 := n11_; have NB256_249 := n12_; have HB := n13_; clear n0_ n1_ n2_ n3_ n4_ n5_ n6_ n7_ n8_ n9_ n10_ n11_ n12_ n13_
          have hHeld : w31.cell? ⟨gb249, 0, none⟩ = some (.int .i64 a0_0) ∧ w31.cell? ⟨gb249, 1, none⟩ = some (.int .i64 a0_1) ∧ w31.cell? ⟨gb249, 2, none⟩ = some (.slice A0_2 l0_2.length c0_2) ∧ w31.cell? ⟨gb249, 3, none⟩ = some (.slice (some ad253) l0_3.length c0_3) ∧ w31.cell? (ad253.add (((ji20)).toNat * 10)) = some (.int .i64 ((rd_T44 l0_3 (ji20)).f0.f0)) ∧ w31.cell? ⟨(ad253.add (((ji20)).toNat * 10)).block, (ad253.add (((ji20)).toNat * 10)).off + 1, none⟩ = some (.int .u64 ((rd_T44 l0_3 (ji20)).f0.f1)) ∧ w31.cell? ⟨(ad253.add (((ji20)).toNat * 10)).block, (ad253.add (((ji20)).toNat * 10)).off + 2, none⟩ = some (.slice A253_2 ((rd_T44 l0_3 (ji20)).f1).length c253_2) ∧ w31.cell? ⟨(ad253.add (((ji20)).toNat * 10)).block, (ad253.add (((ji20)).toNat * 10)).off + 3, none⟩ = some (.slice A253_3 ((rd_T44 l0_3 (ji20)).f2).length c253_3) ∧ w31.cell? ⟨(ad253.add (((ji20)).toNat * 10)).block, (ad253.add (((ji20)).toNat * 10)).off + 4, none⟩ = some (.int .i64 ((rd_T44 l0_3 (ji20)).f3)) ∧ w31.cell? ⟨(ad253.add (((ji20)).toNat * 10)).block, (ad253.add (((ji20)).toNat * 10)).off + 5, none⟩ = some (.int .i64 ((rd_T44 l0_3 (ji20)).f4)) ∧ w31.cell? ⟨(ad253.add (((ji20)).toNat * 10)).block, (ad253.add (((ji20)).toNat * 10)).off + 6, none⟩ = some (.int .i64 ((rd_T44 l0_3 (ji20)).f5)) ∧ w31.cell? ⟨(ad253.add (((ji20)).toNat * 10)).block, (ad253.add (((ji20)).toNat * 10)).off + 7, none⟩ = some (.int .i64 ((rd_T44 l0_3 (ji20)).f6)) ∧ w31.cell? ⟨(ad253.add (((ji20)).toNat * 10)).block, (ad253.add (((ji20)).toNat * 10)).off + 8, none⟩ = some (.int .i64 ((rd_T44 l0_3 (ji20)).f7)) ∧ w31.cell? ⟨(ad253.add (((ji20)).toNat * 10)).block, (ad253.add (((ji20)).toNat * 10)).off + 9, none⟩ = some (.int .i64 ((rd_T44 l0_3 (ji20)).f8)) ∧ w31.cell? (ad253.add (((ji23)).toNat * 10)) = some (.int .i64 ((rd_T44 l0_3 (ji23)).f0.f0)) ∧ w31.cell? ⟨(ad253.add (((ji23)).toNat * 10)).block, (ad253.add (((ji23)).toNat * 10)).off + 1, none⟩ = some (.int .u64 ((rd_T44 l0_3 (ji23)).f0.f1)) ∧ w31.cell? ⟨(ad253.add (((ji23)).toNat * 10)).block, (ad253.add (((ji23)).toNat * 10)).off + 2, none⟩ = some (.slice A254_2 ((rd_T44 l0_3 (ji23)).f1).length c254_2) ∧ w31.cell? ⟨(ad253.add (((ji23)).toNat * 10)).block, (ad253.add (((ji23)).toNat * 10)).off + 3, none⟩ = some (.slice A254_3 ((rd_T44 l0_3 (ji23)).f2).length c254_3) ∧ w31.cell? ⟨(ad253.add (((ji23)).toNat * 10)).block, (ad253.add (((ji23)).toNat * 10)).off + 4, none⟩ = some (.int .i64 ((rd_T44 l0_3 (ji23)).f3)) ∧ w31.cell? ⟨(ad253.add (((ji23)).toNat * 10)).block, (ad253.add (((ji23)).toNat * 10)).off + 5, none⟩ = some (.int .i64 ((rd_T44 l0_3 (ji23)).f4)) ∧ w31.cell? ⟨(ad253.add (((ji23)).toNat * 10)).block, (ad253.add (((ji23)).toNat * 10)).off + 6, none⟩ = some (.int .i64 ((rd_T44 l0_3 (ji23)).f5)) ∧ w31.cell? ⟨(ad253.add (((ji23)).toNat * 10)).block, (ad253.add (((ji23)).toNat * 10)).off + 7, none⟩ = some (.int .i64 ((rd_T44 l0_3 (ji23)).f6)) ∧ w31.cell? ⟨(ad253.add (((ji23)).toNat * 10)).block, (ad253.add (((ji23)).toNat * 10)).off + 8, none⟩ = some (.int .i64 ((rd_T44 l0_3 (ji23)).f7)) ∧ w31.cell? ⟨(ad253.add (((ji23)).toNat * 10)).block, (ad253.add (((ji23)).toNat * 10)).off + 9, none⟩ = some (.int .i64 ((rd_T44 l0_3 (ji23)).f8)) := hS_
          refine norm_ (a' := ?_) ?_ ?_
          rotate_left
          ·
           simp only [putAll, Act.put, List.setIfInBounds_toArray, List.set_cons_zero, List.set_cons_succ]
           rfl
          refine one_ (i := 14) (N := none) (Goto.bs 16 32767) rfl rfl (one_of HT_.out (by kernel_rfl)) (by decide) (fun K hK => ?_)
          have hs32 : w31.cell? ⟨gb255, 0, none⟩ = some (.int .i64 0) := (blk_cell BK255.out 0).trans rfl; have hfs32 := blk_frozen BK255.out 0; have hns32_0 := NB249_255.out; have hns32_2 := NB256_255.out; have hms32_0 := NB255_249.out; have hms32_2 := NB255_256.out; have hs33 : w31.cell? ⟨gb255, 1, none⟩ = some (.int .u64 0) := (blk_cell BK255.out 1).trans rfl; have hfs33 := blk_frozen BK255.out 1; have hns33_0 := NB249_255.out; have hns33_2 := NB256_255.out; have hms33_0 := NB255_249.out; have hms33_2 := NB255_256.out
          refine skip_ (w1 := ?_) (by rfl) rfl ?_ ?_
          rotate_left
          ·
           go_simp
           rfl
          refine hK.out _ _ ⟨(Goto.cf2 NB249_255.out (hHeld.1)), (Goto.cf2 NB249_255.out (hHeld.2.1)), (Goto.cf2 NB249_255.out (hHeld.2.2.1)), (Goto.cf2 NB249_255.out (hHeld.2.2.2.1)), (Goto.cf2 (by first | exact Nat.ne_of_lt (Nat.lt_of_lt_of_le (by have := World.block_lt_of_cell? _ _ hw253_0; first | rwa [add_block] at this | exact this) GW255.out) | (rw [add_block]; exact Nat.ne_of_lt (Nat.lt_of_lt_of_le (by have := World.block_lt_of_cell? _ _ hw253_0; first | rwa [add_block] at this | exact this) GW255.out)) | (show (Addr.add _ _).block ≠ _; rw [add_block]; exact Nat.ne_of_lt (Nat.lt_of_lt_of_le (by have := World.block_lt_of_cell? _ _ hw253_0; first | rwa [add_block] at this | exact this) GW255.out)) | (dsimp only; exact Nat.ne_of_lt (Nat.lt_of_lt_of_le (by have := World.block_lt_of_cell? _ _ hw253_0; first | rwa [add_block] at this | exact this) GW255.out))) (hHeld.2.2.2.2.1)), (Goto.cf2 (by first | exact Nat.ne_of_lt (Nat.lt_of_lt_of_le (by have := World.block_lt_of_cell? _ _ hw253_1; first | rwa [add_block] at this | exact this) GW255.out) | (rw [add_block]; exact Nat.ne_of_lt (Nat.lt_of_lt_of_le (by have := World.block_lt_of_cell? _ _ hw253_1; first | rwa [add_block] at this | exact this) GW255.out)) | (show (Addr.add _ _).block ≠ _; rw [add_block]; exact Nat.ne_of_lt (Nat.lt_of_lt_of_le (by have := World.block_lt_of_cell? _ _ hw253_1; first | rwa [add_block] at this | exact this) GW255.out)) | (dsimp only; exact Nat.ne_of_lt (Nat.lt_of_lt_of_le (by have := World.block_lt_of_cell? _ _ hw253_1; first | rwa [add_block] at this | exact this) GW255.out))) (hHeld.2.2.2.2.2.1)), (Goto.cf2 (by first | exact Nat.ne_of_lt (Nat.lt_of_lt_of_le (by have := World.block_lt_of_cell? _ _ hw253_2; first | rwa [add_block] at this | exact this) GW255.out) | (rw [add_block]; exact Nat.ne_of_lt (Nat.lt_of_lt_of_le (by have := World.block_lt_of_cell? _ _ hw253_2; first | rwa [add_block] at this | exact this) GW255.out)) | (show (Addr.add _ _).block ≠ _; rw [add_block]; exact Nat.ne_of_lt (Nat.lt_of_lt_of_le (by have := World.block_lt_of_cell? _ _ hw253_2; first | rwa [add_block] at this | exact this) GW255.out)) | (dsimp only; exact Nat.ne_of_lt (Nat.lt_of_lt_of_le (by have := World.block_lt_of_cell? _ _ hw253_2; first | rwa [add_block] at this | exact this) GW255.out))) (hHeld.2.2.2.2.2.2.1)), (Goto.cf2 (by first | exact Nat.ne_of_lt (Nat.lt_of_lt_of_le (by have := World.block_lt_of_cell? _ _ hw253_3; first | rwa [add_block] at this | exact this) GW255.out) | (rw [add_block]; exact Nat.ne_of_lt (Nat.lt_of_lt_of_le (by have := World.block_lt_of_cell? _ _ hw253_3; first | rwa [add_block] at this | exact this) GW255.out)) | (show (Addr.add _ _).block ≠ _; rw [add_block]; exact Nat.ne_of_lt (Nat.lt_of_lt_of_le (by have := World.block_lt_of_cell? _ _ hw253_3; first | rwa [add_block] at this | exact this) GW255.out)) | (dsimp only; exact Nat.ne_of_lt (Nat.lt_of_lt_of_le (by have := World.block_lt_of_cell? _ _ hw253_3; first | rwa [add_block] at this | exact this) GW255.out))) (hHeld.2.2.2.2.2.2.2.1)), (Goto.cf2 (by first | exact Nat.ne_of_lt (Nat.lt_of_lt_of_le (by have := World.block_lt_of_cell? _ _ hw253_4; first | rwa [add_block] at this | exact this) GW255.out) | (rw [add_block]; exact Nat.ne_of_lt (Nat.lt_of_lt_of_le (by have := World.block_lt_of_cell? _ _ hw253_4; first | rwa [add_block] at this | exact this) GW255.out)) | (show (Addr.add _ _).block ≠ _; rw [add_block]; exact Nat.ne_of_lt (Nat.lt_of_lt_of_le (by have := World.block_lt_of_cell? _ _ hw253_4; first | rwa [add_block] at this | exact this) GW255.out)) | (dsimp only; exact Nat.ne_of_lt (Nat.lt_of_lt_of_le (by have := World.block_lt_of_cell? _ _ hw253_4; first | rwa [add_block] at this | exact this) GW255.out))) (hHeld.2.2.2.2.2.2.2.2.1)), (Goto.cf2 (by first | exact Nat.ne_of_lt (Nat.lt_of_lt_of_le (by have := World.block_lt_of_cell? _ _ hw253_5; first | rwa [add_block] at this | exact this) GW255.out) | (rw [add_block]; exact Nat.ne_of_lt (Nat.lt_of_lt_of_le (by have := World.block_lt_of_cell? _ _ hw253_5; first | rwa [add_block] at this | exact this) GW255.out)) | (show (Addr.add _ _).block ≠ _; rw [add_block]; exact Nat.ne_of_lt (Nat.lt_of_lt_of_le (by have := World.block_lt_of_cell? _ _ hw253_5; first | rwa [add_block] at this | exact this) GW255.out)) | (dsimp only; exact Nat.ne_of_lt (Nat.lt_of_lt_of_le (by have := World.block_lt_of_cell? _ _ hw253_5; first | rwa [add_block] at this | exact this) GW255.out))) (hHeld.2.2.2.2.2.2.2.2.2.1)), (Goto.cf2 (by first | exact Nat.ne_of_lt (Nat.lt_of_lt_of_le (by have := World.block_lt_of_cell? _ _ hw253_6; first | rwa [add_block] at this | exact this) GW255.out) | (rw [add_block]; exact Nat.ne_of_lt (Nat.lt_of_lt_of_le (by have := World.block_lt_of_cell? _ _ hw253_6; first | rwa [add_block] at this | exact this) GW255.out)) | (show (Addr.add _ _).block ≠ _; rw [add_block]; exact Nat.ne_of_lt (Nat.lt_of_lt_of_le (by have := World.block_lt_of_cell? _ _ hw253_6; first | rwa [add_block] at this | exact this) GW255.out)) | (dsimp only; exact Nat.ne_of_lt (Nat.lt_of_lt_of_le (by have := World.block_lt_of_cell? _ _ hw253_6; first | rwa [add_block] at this | exact this) GW255.out))) (hHeld.2.2.2.2.2.2.2.2.2.2.1)), (Goto.cf2 (by first | exact Nat.ne_of_lt (Nat.lt_of_lt_of_le (by have := World.block_lt_of_cell? _ _ hw253_7; first | rwa [add_block] at this | exact this) GW255.out) | (rw [add_block]; exact Nat.ne_of_lt (Nat.lt_of_lt_of_le (by have := World.block_lt_of_cell? _ _ hw253_7; first | rwa [add_block] at this | exact this) GW255.out)) | (show (Addr.add _ _).block ≠ _; rw [add_block]; exact Nat.ne_of_lt (Nat.lt_of_lt_of_le (by have := World.block_lt_of_cell? _ _ hw253_7; first | rwa [add_block] at this | exact this) GW255.out)) | (dsimp only; exact Nat.ne_of_lt (Nat.lt_of_lt_of_le (by have := World.block_lt_of_cell? _ _ hw253_7; first | rwa [add_block] at this | exact this) GW255.out))) (hHeld.2.2.2.2.2.2.2.2.2.2.2.1)), (Goto.cf2 (by first | exact Nat.ne_of_lt (Nat.lt_of_lt_of_le (by have := World.block_lt_of_cell? _ _ hw253_8; first | rwa [add_block] at this | exact this) GW255.out) | (rw [add_block]; exact Nat.ne_of_lt (Nat.lt_of_lt_of_le (by have := World.block_lt_of_cell? _ _ hw253_8; first | rwa [add_block] at this | exact this) GW255.out)) | (show (Addr.add _ _).block ≠ _; rw [add_block]; exact Nat.ne_of_lt (Nat.lt_of_lt_of_le (by have := World.block_lt_of_cell? _ _ hw253_8; first | rwa [add_block] at this | exact this) GW255.out)) | (dsimp only; exact Nat.ne_of_lt (Nat.lt_of_lt_of_le (by have := World.block_lt_of_cell? _ _ hw253_8; first | rwa [add_block] at this | exact this) GW255.out))) (hHeld.2.2.2.2.2.2.2.2.2.2.2.2.1)), (Goto.cf2 (by first | exact Nat.ne_of_lt (Nat.lt_of_lt_of_le (by have := World.block_lt_of_cell? _ _ hw253_9; first | rwa [add_block] at this | exact this) GW255.out) | (rw [add_block]; exact Nat.ne_of_lt (Nat.lt_of_lt_of_le (by have := World.block_lt_of_cell? _ _ hw253_9; first | rwa [add_block] at this | exact this) GW255.out)) | (show (Addr.add _ _).block ≠ _; rw [add_block]; exact Nat.ne_of_lt (Nat.lt_of_lt_of_le (by have := World.block_lt_of_cell? _ _ hw253_9; first | rwa [add_block] at this | exact this) GW255.out)) | (dsimp only; exact Nat.ne_of_lt (Nat.lt_of_lt_of_le (by have := World.block_lt_of_cell? _ _ hw253_9; first | rwa [add_block] at this | exact this) GW255.out))) (hHeld.2.2.2.2.2.2.2.2.2.2.2.2.2.1)), (Goto.cf2 (by first | exact Nat.ne_of_lt (Nat.lt_of_lt_of_le (by have := World.block_lt_of_cell? _ _ hw254_0; first | rwa [add_block] at this | exact this) GW255.out) | (rw [add_block]; exact Nat.ne_of_lt (Nat.lt_of_lt_of_le (by have := World.block_lt_of_cell? _ _ hw254_0; first | rwa [add_block] at this | exact this) GW255.out)) | (show (Addr.add _ _).block ≠ _; rw [add_block]; exact Nat.ne_of_lt (Nat.lt_of_lt_of_le (by have := World.block_lt_of_cell? _ _ hw254_0; first | rwa [add_block] at this | exact this) GW255.out)) | (dsimp only; exact Nat.ne_of_lt (Nat.lt_of_lt_of_le (by have := World.block_lt_of_cell? _ _ hw254_0; first | rwa [add_block] at this | exact this) GW255.out))) (hHeld.2.2.2.2.2.2.2.2.2.2.2.2.2.2.1)), (Goto.cf2 (by first | exact Nat.ne_of_lt (Nat.lt_of_lt_of_le (by have := World.block_lt_of_cell? _ _ hw254_1; first | rwa [add_block] at this | exact this) GW255.out) | (rw [add_block]; exact Nat.ne_of_lt (Nat.lt_of_lt_of_le (by have := World.block_lt_of_cell? _ _ hw254_1; first | rwa [add_block] at this | exact this) GW255.out)) | (show (Addr.add _ _).block ≠ _; rw [add_block]; exact Nat.ne_of_lt (Nat.lt_of_lt_of_le (by have := World.block_lt_of_cell? _ _ hw254_1; first | rwa [add_block] at this | exact this) GW255.out)) | (dsimp only; exact Nat.ne_of_lt (Nat.lt_of_lt_of_le (by have := World.block_lt_of_cell? _ _ hw254_1; first | rwa [add_block] at this | exact this) GW255.out))) (hHeld.2.2.2.2.2.2.2.2.2.2.2.2.2.2.2.1)), (Goto.cf2 (by first | exact Nat.ne_of_lt (Nat.lt_of_lt_of_le (by have := World.block_lt_of_cell? _ _ hw254_2; first | rwa [add_block] at this | exact this) GW255.out) | (rw [add_block]; exact Nat.ne_of_lt (Nat.lt_of_lt_of_le (by have := World.block_lt_of_cell? _ _ hw254_2; first | rwa [add_block] at this | exact this) GW255.out)) | (show (Addr.add _ _).block ≠ _; rw [add_block]; exact Nat.ne_of_lt (Nat.lt_of_lt_of_le (by have := World.block_lt_of_cell? _ _ hw254_2; first | rwa [add_block] at this | exact this) GW255.out)) | (dsimp only; exact Nat.ne_of_lt (Nat.lt_of_lt_of_le (by have := World.block_lt_of_cell? _ _ hw254_2; first | rwa [add_block] at this | exact this) GW255.out))) (hHeld.2.2.2.2.2.2.2.2.2.2.2.2.2.2.2.2.1)), (Goto.cf2 (by first | exact Nat.ne_of_lt (Nat.lt_of_lt_of_le (by have := World.block_lt_of_cell? _ _ hw254_3; first | rwa [add_block] at this | exact this) GW255.out) | (rw [add_block]; exact Nat.ne_of_lt (Nat.lt_of_lt_of_le (by have := World.block_lt_of_cell? _ _ hw254_3; first | rwa [add_block] at this | exact this) GW255.out)) | (show (Addr.add _ _).block ≠ _; rw [add_block]; exact Nat.ne_of_lt (Nat.lt_of_lt_of_le (by have := World.block_lt_of_cell? _ _ hw254_3; first | rwa [add_block] at this | exact this) GW255.out)) | (dsimp only; exact Nat.ne_of_lt (Nat.lt_of_lt_of_le (by have := World.block_lt_of_cell? _ _ hw254_3; first | rwa [add_block] at this | exact this) GW255.out))) (hHeld.2.2.2.2.2.2.2.2.2.2.2.2.2.2.2.2.2.1)), (Goto.cf2 (by first | exact Nat.ne_of_lt (Nat.lt_of_lt_of_le (by have := World.block_lt_of_cell? _ _ hw254_4; first | rwa [add_block] at this | exact this) GW255.out) | (rw [add_block]; exact Nat.ne_of_lt (Nat.lt_of_lt_of_le (by have := World.block_lt_of_cell? _ _ hw254_4; first | rwa [add_block] at this | exact this) GW255.out)) | (show (Addr.add _ _).block ≠ _; rw [add_block]; exact Nat.ne_of_lt (Nat.lt_of_lt_of_le (by have := World.block_lt_of_cell? _ _ hw254_4; first | rwa [add_block] at this | exact this) GW255.out)) | (dsimp only; exact Nat.ne_of_lt (Nat.lt_of_lt_of_le (by have := World.block_lt_of_cell? _ _ hw254_4; first | rwa [add_block] at this | exact this) GW255.out))) (hHeld.2.2.2.2.2.2.2.2.2.2.2.2.2.2.2.2.2.2.1)), (Goto.cf2 (by first | exact Nat.ne_of_lt (Nat.lt_of_lt_of_le (by have := World.block_lt_of_cell? _ _ hw254_5; first | rwa [add_block] at this | exact this) GW255.out) | (rw [add_block]; exact Nat.ne_of_lt (Nat.lt_of_lt_of_le (by have := World.block_lt_of_cell? _ _ hw254_5; first | rwa [add_block] at this | exact this) GW255.out)) | (show (Addr.add _ _).block ≠ _; rw [add_block]; exact Nat.ne_of_lt (Nat.lt_of_lt_of_le (by have := World.block_lt_of_cell? _ _ hw254_5; first | rwa [add_block] at this | exact this) GW255.out)) | (dsimp only; exact Nat.ne_of_lt (Nat.lt_of_lt_of_le (by have := World.block_lt_of_cell? _ _ hw254_5; first | rwa [add_block] at this | exact this) GW255.out))) (hHeld.2.2.2.2.2.2.2.2.2.2.2.2.2.2.2.2.2.2.2.1)), (Goto.cf2 (by first | exact Nat.ne_of_lt (Nat.lt_of_lt_of_le (by have := World.block_lt_of_cell? _ _ hw254_6; first | rwa [add_block] at this | exact this) GW255.out) | (rw [add_block]; exact Nat.ne_of_lt (Nat.lt_of_lt_of_le (by have := World.block_lt_of_cell? _ _ hw254_6; first | rwa [add_block] at this | exact this) GW255.out)) | (show (Addr.add _ _).block ≠ _; rw [add_block]; exact Nat.ne_of_lt (Nat.lt_of_lt_of_le (by have := World.block_lt_of_cell? _ _ hw254_6; first | rwa [add_block] at this | exact this) GW255.out)) | (dsimp only; exact Nat.ne_of_lt (Nat.lt_of_lt_of_le (by have := World.block_lt_of_cell? _ _ hw254_6; first | rwa [add_block] at this | exact this) GW255.out))) (hHeld.2.2.2.2.2.2.2.2.2.2.2.2.2.2.2.2.2.2.2.2.1)), (Goto.cf2 (by first | exact Nat.ne_of_lt (Nat.lt_of_lt_of_le (by have := World.block_lt_of_cell? _ _ hw254_7; first | rwa [add_block] at this | exact this) GW255.out) | (rw [add_block]; exact Nat.ne_of_lt (Nat.lt_of_lt_of_le (by have := World.block_lt_of_cell? _ _ hw254_7; first | rwa [add_block] at this | exact this) GW255.out)) | (show (Addr.add _ _).block ≠ _; rw [add_block]; exact Nat.ne_of_lt (Nat.lt_of_lt_of_le (by have := World.block_lt_of_cell? _ _ hw254_7; first | rwa [add_block] at this | exact this) GW255.out)) | (dsimp only; exact Nat.ne_of_lt (Nat.lt_of_lt_of_le (by have := World.block_lt_of_cell? _ _ hw254_7; first | rwa [add_block] at this | exact this) GW255.out))) (hHeld.2.2.2.2.2.2.2.2.2.2.2.2.2.2.2.2.2.2.2.2.2.1)), (Goto.cf2 (by first | exact Nat.ne_of_lt (Nat.lt_of_lt_of_le (by have := World.block_lt_of_cell? _ _ hw254_8; first | rwa [add_block] at this | exact this) GW255.out) | (rw [add_block]; exact Nat.ne_of_lt (Nat.lt_of_lt_of_le (by have := World.block_lt_of_cell? _ _ hw254_8; first | rwa [add_block] at this | exact this) GW255.out)) | (show (Addr.add _ _).block ≠ _; rw [add_block]; exact Nat.ne_of_lt (Nat.lt_of_lt_of_le (by have := World.block_lt_of_cell? _ _ hw254_8; first | rwa [add_block] at this | exact this) GW255.out)) | (dsimp only; exact Nat.ne_of_lt (Nat.lt_of_lt_of_le (by have := World.block_lt_of_cell? _ _ hw254_8; first | rwa [add_block] at this | exact this) GW255.out))) (hHeld.2.2.2.2.2.2.2.2.2.2.2.2.2.2.2.2.2.2.2.2.2.2.1)), (Goto.cf2 (by first | exact Nat.ne_of_lt (Nat.lt_of_lt_of_le (by have := World.block_lt_of_cell? _ _ hw254_9; first | rwa [add_block] at this | exact this) GW255.out) | (rw [add_block]; exact Nat.ne_of_lt (Nat.lt_of_lt_of_le (by have := World.block_lt_of_cell? _ _ hw254_9; first | rwa [add_block] at this | exact this) GW255.out)) | (show (Addr.add _ _).block ≠ _; rw [add_block]; exact Nat.ne_of_lt (Nat.lt_of_lt_of_le (by have := World.block_lt_of_cell? _ _ hw254_9; first | rwa [add_block] at this | exact this) GW255.out)) | (dsimp only; exact Nat.ne_of_lt (Nat.lt_of_lt_of_le (by have := World.block_lt_of_cell? _ _ hw254_9; first | rwa [add_block] at this | exact this) GW255.out))) (hHeld.2.2.2.2.2.2.2.2.2.2.2.2.2.2.2.2.2.2.2.2.2.2.2))⟩ (fun hHeld => ?_)
          clear hK K
          refine one_ (i := 15) (N := none) (Goto.bs 16 65535) rfl rfl (one_of HT_.out (by kernel_rfl)) (by decide) (fun K hK => ?_)
          have hs34 : w31.cell? ⟨gb256, 0, none⟩ = some (.int .i64 0) := (blk_cell BK256.out 0).trans rfl; have hfs34 := blk_frozen BK256.out 0; have hns34_0 := NB249_256.out; have hns34_1 := NB255_256.out; have hms34_0 := NB256_249.out; have hms34_1 := NB256_255.out; have hs35 : w31.cell? ⟨gb256, 1, none⟩ = some (.int .u64 0) := (blk_cell BK256.out 1).trans rfl; have hfs35 := blk_frozen BK256.out 1; have hns35_0 := NB249_256.out; have hns35_1 := NB255_256.out; have hms35_0 := NB256_249.out; have hms35_1 := NB256_255.out
          refine skip_ (w1 := ?_) (by rfl) rfl ?_ ?_
          rotate_left
          ·
           go_simp
           rfl
          refine hK.out _ _ ⟨(Goto.cf2 NB249_256.out (hHeld.1)), (Goto.cf2 NB249_256.out (hHeld.2.1)), (Goto.cf2 NB249_256.out (hHeld.2.2.1)), (Goto.cf2 NB249_256.out (hHeld.2.2.2.1)), (Goto.cf2 (by first | exact Nat.ne_of_lt (Nat.lt_of_lt_of_le (by have := World.block_lt_of_cell? _ _ hw253_0; first | rwa [add_block] at this | exact this) GW256.out) | (rw [add_block]; exact Nat.ne_of_lt (Nat.lt_of_lt_of_le (by have := World.block_lt_of_cell? _ _ hw253_0; first | rwa [add_block] at this | exact this) GW256.out)) | (show (Addr.add _ _).block ≠ _; rw [add_block]; exact Nat.ne_of_lt (Nat.lt_of_lt_of_le (by have := World.block_lt_of_cell? _ _ hw253_0; first | rwa [add_block] at this | exact this) GW256.out)) | (dsimp only; exact Nat.ne_of_lt (Nat.lt_of_lt_of_le (by have := World.block_lt_of_cell? _ _ hw253_0; first | rwa [add_block] at this | exact this) GW256.out))) (hHeld.2.2.2.2.1)), (Goto.cf2 (by first | exact Nat.ne_of_lt (Nat.lt_of_lt_of_le (by have := World.block_lt_of_cell? _ _ hw253_1; first | rwa [add_block] at this | exact this) GW256.out) | (rw [add_block]; exact Nat.ne_of_lt (Nat.lt_of_lt_of_le (by have := World.block_lt_of_cell? _ _ hw253_1; first | rwa [add_block] at this | exact this) GW256.out)) | (show (Addr.add _ _).block ≠ _; rw [add_block]; exact Nat.ne_of_lt (Nat.lt_of_lt_of_le (by have := World.block_lt_of_cell? _ _ hw253_1; first | rwa [add_block] at this | exact this) GW256.out)) | (dsimp only; exact Nat.ne_of_lt (Nat.lt_of_lt_of_le (by have := World.block_lt_of_cell? _ _ hw253_1; first | rwa [add_block] at this | exact this) GW256.out))) (hHeld.2.2.2.2.2.1)), (Goto.cf2 (by first | exact Nat.ne_of_lt (Nat.lt_of_lt_of_le (by have := World.block_lt_of_cell? _ _ hw253_2; first | rwa [add_block] at this | exact this) GW256.out) | (rw [add_block]; exact Nat.ne_of_lt (Nat.lt_of_lt_of_le (by have := World.block_lt_of_cell? _ _ hw253_2; first | rwa [add_block] at this | exact this) GW256.out)) | (show (Addr.add _ _).block ≠ _; rw [add_block]; exact Nat.ne_of_lt (Nat.lt_of_lt_of_le (by have := World.block_lt_of_cell? _ _ hw253_2; first | rwa [add_block] at this | exact this) GW256.out)) | (dsimp only; exact Nat.ne_of_lt (Nat.lt_of_lt_of_le (by have := World.block_lt_of_cell? _ _ hw253_2; first | rwa [add_block] at this | exact this) GW256.out))) (hHeld.2.2.2.2.2.2.1)), (Goto.cf2 (by first | exact Nat.ne_of_lt (Nat.lt_of_lt_of_le (by have := World.block_lt_of_cell? _ _ hw253_3; first | rwa [add_block] at this | exact this) GW256.out) | (rw [add_block]; exact Nat.ne_of_lt (Nat.lt_of_lt_of_le (by have := World.block_lt_of_cell? _ _ hw253_3; first | rwa [add_block] at this | exact this) GW256.out)) | (show (Addr.add _ _).block ≠ _; rw [add_block]; exact Nat.ne_of_lt (Nat.lt_of_lt_of_le (by have := World.block_lt_of_cell? _ _ hw253_3; first | rwa [add_block] at this | exact this) GW256.out)) | (dsimp only; exact Nat.ne_of_lt (Nat.lt_of_lt_of_le (by have := World.block_lt_of_cell? _ _ hw253_3; first | rwa [add_block] at this | exact this) GW256.out))) (hHeld.2.2.2.2.2.2.2.1)), (Goto.cf2 (by first | exact Nat.ne_of_lt (Nat.lt_of_lt_of_le (by have := World.block_lt_of_cell? _ _ hw253_4; first | rwa [add_block] at this | exact this) GW256.out) | (rw [add_block]; exact Nat.ne_of_lt (Nat.lt_of_lt_of_le (by have := World.block_lt_of_cell? _ _ hw253_4; first | rwa [add_block] at this | exact this) GW256.out)) | (show (Addr.add _ _).block ≠ _; rw [add_block]; exact Nat.ne_of_lt (Nat.lt_of_lt_of_le (by have := World.block_lt_of_cell? _ _ hw253_4; first | rwa [add_block] at this | exact this) GW256.out)) | (dsimp only; exact Nat.ne_of_lt (Nat.lt_of_lt_of_le (by have := World.block_lt_of_cell? _ _ hw253_4; first | rwa [add_block] at this | exact this) GW256.out))) (hHeld.2.2.2.2.2.2.2.2.1)), (Goto.cf2 (by first | exact Nat.ne_of_lt (Nat.lt_of_lt_of_le (by have := World.block_lt_of_cell? _ _ hw253_5; first | rwa [add_block] at this | exact this) GW256.out) | (rw [add_block]; exact Nat.ne_of_lt (Nat.lt_of_lt_of_le (by have := World.block_lt_of_cell? _ _ hw253_5; first | rwa [add_block] at this | exact this) GW256.out)) | (show (Addr.add _ _).block ≠ _; rw [add_block]; exact Nat.ne_of_lt (Nat.lt_of_lt_of_le (by have := World.block_lt_of_cell? _ _ hw253_5; first | rwa [add_block] at this | exact this) GW256.out)) | (dsimp only; exact Nat.ne_of_lt (Nat.lt_of_lt_of_le (by have := World.block_lt_of_cell? _ _ hw253_5; first | rwa [add_block] at this | exact this) GW256.out))) (hHeld.2.2.2.2.2.2.2.2.2.1)), (Goto.cf2 (by first | exact Nat.ne_of_lt (Nat.lt_of_lt_of_le (by have := World.block_lt_of_cell? _ _ hw253_6; first | rwa [add_block] at this | exact this) GW256.out) | (rw [add_block]; exact Nat.ne_of_lt (Nat.lt_of_lt_of_le (by have := World.block_lt_of_cell? _ _ hw253_6; first | rwa [add_block] at this | exact this) GW256.out)) | (show (Addr.add _ _).block ≠ _; rw [add_block]; exact Nat.ne_of_lt (Nat.lt_of_lt_of_le (by have := World.block_lt_of_cell? _ _ hw253_6; first | rwa [add_block] at this | exact this) GW256.out)) | (dsimp only; exact Nat.ne_of_lt (Nat.lt_of_lt_of_le (by have := World.block_lt_of_cell? _ _ hw253_6; first | rwa [add_block] at this | exact this) GW256.out))) (hHeld.2.2.2.2.2.2.2.2.2.2.1)), (Goto.cf2 (by first | exact Nat.ne_of_lt (Nat.lt_of_lt_of_le (by have := World.block_lt_of_cell? _ _ hw253_7; first | rwa [add_block] at this | exact this) GW256.out) | (rw [add_block]; exact Nat.ne_of_lt (Nat.lt_of_lt_of_le (by have := World.block_lt_of_cell? _ _ hw253_7; first | rwa [add_block] at this | exact this) GW256.out)) | (show (Addr.add _ _).block ≠ _; rw [add_block]; exact Nat.ne_of_lt (Nat.lt_of_lt_of_le (by have := World.block_lt_of_cell? _ _ hw253_7; first | rwa [add_block] at this | exact this) GW256.out)) | (dsimp only; exact Nat.ne_of_lt (Nat.lt_of_lt_of_le (by have := World.block_lt_of_cell? _ _ hw253_7; first | rwa [add_block] at this | exact this) GW256.out))) (hHeld.2.2.2.2.2.2.2.2.2.2.2.1)), (Goto.cf2 (by first | exact Nat.ne_of_lt (Nat.lt_of_lt_of_le (by have := World.block_lt_of_cell? _ _ hw253_8; first | rwa [add_block] at this | exact this) GW256.out) | (rw [add_block]; exact Nat.ne_of_lt (Nat.lt_of_lt_of_le (by have := World.block_lt_of_cell? _ _ hw253_8; first | rwa [add_block] at this | exact this) GW256.out)) | (show (Addr.add _ _).block ≠ _; rw [add_block]; exact Nat.ne_of_lt (Nat.lt_of_lt_of_le (by have := World.block_lt_of_cell? _ _ hw253_8; first | rwa [add_block] at this | exact this) GW256.out)) | (dsimp only; exact Nat.ne_of_lt (Nat.lt_of_lt_of_le (by have := World.block_lt_of_cell? _ _ hw253_8; first | rwa [add_block] at this | exact this) GW256.out))) (hHeld.2.2.2.2.2.2.2.2.2.2.2.2.1)), (Goto.cf2 (by first | exact Nat.ne_of_lt (Nat.lt_of_lt_of_le (by have := World.block_lt_of_cell? _ _ hw253_9; first | rwa [add_block] at this | exact this) GW256.out) | (rw [add_block]; exact Nat.ne_of_lt (Nat.lt_of_lt_of_le (by have := World.block_lt_of_cell? _ _ hw253_9; first | rwa [add_block] at this | exact this) GW256.out)) | (show (Addr.add _ _).block ≠ _; rw [add_block]; exact Nat.ne_of_lt (Nat.lt_of_lt_of_le (by have := World.block_lt_of_cell? _ _ hw253_9; first | rwa [add_block] at this | exact this) GW256.out)) | (dsimp only; exact Nat.ne_of_lt (Nat.lt_of_lt_of_le (by have := World.block_lt_of_cell? _ _ hw253_9; first | rwa [add_block] at this | exact this) GW256.out))) (hHeld.2.2.2.2.2.2.2.2.2.2.2.2.2.1)), (Goto.cf2 (by first | exact Nat.ne_of_lt (Nat.lt_of_lt_of_le (by have := World.block_lt_of_cell? _ _ hw254_0; first | rwa [add_block] at this | exact this) GW256.out) | (rw [add_block]; exact Nat.ne_of_lt (Nat.lt_of_lt_of_le (by have := World.block_lt_of_cell? _ _ hw254_0; first | rwa [add_block] at this | exact this) GW256.out)) | (show (Addr.add _ _).block ≠ _; rw [add_block]; exact Nat.ne_of_lt (Nat.lt_of_lt_of_le (by have := World.block_lt_of_cell? _ _ hw254_0; first | rwa [add_block] at this | exact this) GW256.out)) | (dsimp only; exact Nat.ne_of_lt (Nat.lt_of_lt_of_le (by have := World.block_lt_of_cell? _ _ hw254_0; first | rwa [add_block] at this | exact this) GW256.out))) (hHeld.2.2.2.2.2.2.2.2.2.2.2.2.2.2.1)), (Goto.cf2 (by first | exact Nat.ne_of_lt (Nat.lt_of_lt_of_le (by have := World.block_lt_of_cell? _ _ hw254_1; first | rwa [add_block] at this | exact this) GW256.out) | (rw [add_block]; exact Nat.ne_of_lt (Nat.lt_of_lt_of_le (by have := World.block_lt_of_cell? _ _ hw254_1; first | rwa [add_block] at this | exact this) GW256.out)) | (show (Addr.add _ _).block ≠ _; rw [add_block]; exact Nat.ne_of_lt (Nat.lt_of_lt_of_le (by have := World.block_lt_of_cell? _ _ hw254_1; first | rwa [add_block] at this | exact this) GW256.out)) | (dsimp only; exact Nat.ne_of_lt (Nat.lt_of_lt_of_le (by have := World.block_lt_of_cell? _ _ hw254_1; first | rwa [add_block] at this | exact this) GW256.out))) (hHeld.2.2.2.2.2.2.2.2.2.2.2.2.2.2.2.1)), (Goto.cf2 (by first | exact Nat.ne_of_lt (Nat.lt_of_lt_of_le (by have := World.block_lt_of_cell? _ _ hw254_2; first | rwa [add_block] at this | exact this) GW256.out) | (rw [add_block]; exact Nat.ne_of_lt (Nat.lt_of_lt_of_le (by have := World.block_lt_of_cell? _ _ hw254_2; first | rwa [add_block] at this | exact this) GW256.out)) | (show (Addr.add _ _).block ≠ _; rw [add_block]; exact Nat.ne_of_lt (Nat.lt_of_lt_of_le (by have := World.block_lt_of_cell? _ _ hw254_2; first | rwa [add_block] at this | exact this) GW256.out)) | (dsimp only; exact Nat.ne_of_lt (Nat.lt_of_lt_of_le (by have := World.block_lt_of_cell? _ _ hw254_2; first | rwa [add_block] at this | exact this) GW256.out))) (hHeld.2.2.2.2.2.2.2.2.2.2.2.2.2.2.2.2.1)), (Goto.cf2 (by first | exact Nat.ne_of_lt (Nat.lt_of_lt_of_le (by have := World.block_lt_of_cell? _ _ hw254_3; first | rwa [add_block] at this | exact this) GW256.out) | (rw [add_block]; exact Nat.ne_of_lt (Nat.lt_of_lt_of_le (by have := World.block_lt_of_cell? _ _ hw254_3; first | rwa [add_block] at this | exact this) GW256.out)) | (show (Addr.add _ _).block ≠ _; rw [add_block]; exact Nat.ne_of_lt (Nat.lt_of_lt_of_le (by have := World.block_lt_of_cell? _ _ hw254_3; first | rwa [add_block] at this | exact this) GW256.out)) | (dsimp only; exact Nat.ne_of_lt (Nat.lt_of_lt_of_le (by have := World.block_lt_of_cell? _ _ hw254_3; first | rwa [add_block] at this | exact this) GW256.out))) (hHeld.2.2.2.2.2.2.2.2.2.2.2.2.2.2.2.2.2.1)), (Goto.cf2 (by first | exact Nat.ne_of_lt (Nat.lt_of_lt_of_le (by have := World.block_lt_of_cell? _ _ hw254_4; first | rwa [add_block] at this | exact this) GW256.out) | (rw [add_block]; exact Nat.ne_of_lt (Nat.lt_of_lt_of_le (by have := World.block_lt_of_cell? _ _ hw254_4; first | rwa [add_block] at this | exact this) GW256.out)) | (show (Addr.add _ _).block ≠ _; rw [add_block]; exact Nat.ne_of_lt (Nat.lt_of_lt_of_le (by have := World.block_lt_of_cell? _ _ hw254_4; first | rwa [add_block] at this | exact this) GW256.out)) | (dsimp only; exact Nat.ne_of_lt (Nat.lt_of_lt_of_le (by have := World.block_lt_of_cell? _ _ hw254_4; first | rwa [add_block] at this | exact this) GW256.out))) (hHeld.2.2.2.2.2.2.2.2.2.2.2.2.2.2.2.2.2.2.1)), (Goto.cf2 (by first | exact Nat.ne_of_lt (Nat.lt_of_lt_of_le (by have := World.block_lt_of_cell? _ _ hw254_5; first | rwa [add_block] at this | exact this) GW256.out) | (rw [add_block]; exact Nat.ne_of_lt (Nat.lt_of_lt_of_le (by have := World.block_lt_of_cell? _ _ hw254_5; first | rwa [add_block] at this | exact this) GW256.out)) | (show (Addr.add _ _).block ≠ _; rw [add_block]; exact Nat.ne_of_lt (Nat.lt_of_lt_of_le (by have := World.block_lt_of_cell? _ _ hw254_5; first | rwa [add_block] at this | exact this) GW256.out)) | (dsimp only; exact Nat.ne_of_lt (Nat.lt_of_lt_of_le (by have := World.block_lt_of_cell? _ _ hw254_5; first | rwa [add_block] at this | exact this) GW256.out))) (hHeld.2.2.2.2.2.2.2.2.2.2.2.2.2.2.2.2.2.2.2.1)), (Goto.cf2 (by first | exact Nat.ne_of_lt (Nat.lt_of_lt_of_le (by have := World.block_lt_of_cell? _ _ hw254_6; first | rwa [add_block] at this | exact this) GW256.out) | (rw [add_block]; exact Nat.ne_of_lt (Nat.lt_of_lt_of_le (by have := World.block_lt_of_cell? _ _ hw254_6; first | rwa [add_block] at this | exact this) GW256.out)) | (show (Addr.add _ _).block ≠ _; rw [add_block]; exact Nat.ne_of_lt (Nat.lt_of_lt_of_le (by have := World.block_lt_of_cell? _ _ hw254_6; first | rwa [add_block] at this | exact this) GW256.out)) | (dsimp only; exact Nat.ne_of_lt (Nat.lt_of_lt_of_le (by have := World.block_lt_of_cell? _ _ hw254_6; first | rwa [add_block] at this | exact this) GW256.out))) (hHeld.2.2.2.2.2.2.2.2.2.2.2.2.2.2.2.2.2.2.2.2.1)), (Goto.cf2 (by first | exact Nat.ne_of_lt (Nat.lt_of_lt_of_le (by have := World.block_lt_of_cell? _ _ hw254_7; first | rwa [add_block] at this | exact this) GW256.out) | (rw [add_block]; exact Nat.ne_of_lt (Nat.lt_of_lt_of_le (by have := World.block_lt_of_cell? _ _ hw254_7; first | rwa [add_block] at this | exact this) GW256.out)) | (show (Addr.add _ _).block ≠ _; rw [add_block]; exact Nat.ne_of_lt (Nat.lt_of_lt_of_le (by have := World.block_lt_of_cell? _ _ hw254_7; first | rwa [add_block] at this | exact this) GW256.out)) | (dsimp only; exact Nat.ne_of_lt (Nat.lt_of_lt_of_le (by have := World.block_lt_of_cell? _ _ hw254_7; first | rwa [add_block] at this | exact this) GW256.out))) (hHeld.2.2.2.2.2.2.2.2.2.2.2.2.2.2.2.2.2.2.2.2.2.1)), (Goto.cf2 (by first | exact Nat.ne_of_lt (Nat.lt_of_lt_of_le (by have := World.block_lt_of_cell? _ _ hw254_8; first | rwa [add_block] at this | exact this) GW256.out) | (rw [add_block]; exact Nat.ne_of_lt (Nat.lt_of_lt_of_le (by have := World.block_lt_of_cell? _ _ hw254_8; first | rwa [add_block] at this | exact this) GW256.out)) | (show (Addr.add _ _).block ≠ _; rw [add_block]; exact Nat.ne_of_lt (Nat.lt_of_lt_of_le (by have := World.block_lt_of_cell? _ _ hw254_8; first | rwa [add_block] at this | exact this) GW256.out)) | (dsimp only; exact Nat.ne_of_lt (Nat.lt_of_lt_of_le (by have := World.block_lt_of_cell? _ _ hw254_8; first | rwa [add_block] at this | exact this) GW256.out))) (hHeld.2.2.2.2.2.2.2.2.2.2.2.2.2.2.2.2.2.2.2.2.2.2.1)), (Goto.cf2 (by first | exact Nat.ne_of_lt (Nat.lt_of_lt_of_le (by have := World.block_lt_of_cell? _ _ hw254_9; first | rwa [add_block] at this | exact this) GW256.out) | (rw [add_block]; exact Nat.ne_of_lt (Nat.lt_of_lt_of_le (by have := World.block_lt_of_cell? _ _ hw254_9; first | rwa [add_block] at this | exact this) GW256.out)) | (show (Addr.add _ _).block ≠ _; rw [add_block]; exact Nat.ne_of_lt (Nat.lt_of_lt_of_le (by have := World.block_lt_of_cell? _ _ hw254_9; first | rwa [add_block] at this | exact this) GW256.out)) | (dsimp only; exact Nat.ne_of_lt (Nat.lt_of_lt_of_le (by have := World.block_lt_of_cell? _ _ hw254_9; first | rwa [add_block] at this | exact this) GW256.out))) (hHeld.2.2.2.2.2.2.2.2.2.2.2.2.2.2.2.2.2.2.2.2.2.2.2))⟩ (fun hHeld => ?_)
          clear hK K
          refine done_ (done_of HT_.out (by kernel_rfl)) ?_
          go_upto_region 7 with (fail)
          go_cut [11, 12] (fun v11 v12 wc => ∃ (kq : Nat) (x11_25 : Bool) (x12_25 : Bool), v11 = .bool x11_25 ∧ v12 = .bool x12_25 ∧ Aside0 (tontinelaw20_CheckFlows.j1 kq ji20 ji23 x11_25 x12_25 a0_0 a0_1 l0_2 l0_3 ((rd_T44 l0_3 (ji20)).f0.f0) ((rd_T44 l0_3 (ji20)).f0.f1) ((rd_T44 l0_3 (ji23)).f0.f0) ((rd_T44 l0_3 (ji23)).f0.f1) = some r) ∧ Aside0 (kq ≤ kj5) ∧ Aside0 (wc.heap[gb249]? = some (.cells #[.int .i64 a0_0, .int .i64 a0_1, (.slice A0_2 l0_2.length c0_2), (.slice (some ad253) l0_3.length c0_3)] 25 (0, 0))) ∧ Aside0 (wc.heap[gb255]? = some (.cells #[.int .i64 ((rd_T44 l0_3 (ji20)).f0.f0), .int .u64 ((rd_T44 l0_3 (ji20)).f0.f1)] 42 (0, 0))) ∧ Aside0 (wc.heap[gb256]? = some (.cells #[.int .i64 ((rd_T44 l0_3 (ji23)).f0.f0), .int .u64 ((rd_T44 l0_3 (ji23)).f0.f1)] 42 (0, 0))) ∧ Aside0 (Below w.heap.size w wc))
          case first =>
           have H := HC26.out; clear HC26
           replace H := Option.bind_eq_some_iff.mp H
           obtain ⟨t257, A360, H⟩ := H
           have A36 := Goto.m0 A360
           clear A360
           rcases t257 with _ | q258
           ·
            have H1 : ((check_Send.f kj5 a0_0 a0_1 l0_2 l0_3 (ji23) (ji20)).bind fun t259 => (if t259.isNone = true then (tontinelaw20_CheckFlows.j1 kj5 ji20 ji23 true true a0_0 a0_1 l0_2 l0_3 ((rd_T44 l0_3 (ji20)).f0.f0) ((rd_T44 l0_3 (ji20)).f0.f1) ((rd_T44 l0_3 (ji23)).f0.f0) ((rd_T44 l0_3 (ji23)).f0.f1)) else (tontinelaw20_CheckFlows.j1 kj5 ji20 ji23 true false a0_0 a0_1 l0_2 l0_3 ((rd_T44 l0_3 (ji20)).f0.f0) ((rd_T44 l0_3 (ji20)).f0.f1) ((rd_T44 l0_3 (ji23)).f0.f0) ((rd_T44 l0_3 (ji23)).f0.f1)))) = some r := by rw [if_pos (show (none : Option Int).isNone = true by rfl)] at H; exact H
            clear H; have H := H1; clear H1
            try simp only [errW_none, errW_some]
            replace H := Option.bind_eq_some_iff.mp H
            obtain ⟨t259, A370, H⟩ := H
            have A37 := Goto.m0 A370
            clear A370
            rcases t259 with _ | q260
            ·
             have H1 : (tontinelaw20_CheckFlows.j1 kj5 ji20 ji23 true true a0_0 a0_1 l0_2 l0_3 ((rd_T44 l0_3 (ji20)).f0.f0) ((rd_T44 l0_3 (ji20)).f0.f1) ((rd_T44 l0_3 (ji23)).f0.f0) ((rd_T44 l0_3 (ji23)).f0.f1)) = some r := by rw [if_pos (show (none : Option Int).isNone = true by rfl)] at H; exact H
             clear H; have H := H1; clear H1
             try simp only [errW_none, errW_some]
             have H' := Goto.m0 H
             clear H
             try go_wp2
             have n0_ : Aside0 (((((w31.setCell ⟨gb255, 0, none⟩ (.int .i64 ((rd_T44 l0_3 (ji20)).f0.f0))).setCell ⟨gb255, 1, none⟩ (.int .u64 ((rd_T44 l0_3 (ji20)).f0.f1))).setCell ⟨gb256, 0, none⟩ (.int .i64 ((rd_T44 l0_3 (ji23)).f0.f0))).setCell ⟨gb256, 1, none⟩ (.int .u64 ((rd_T44 l0_3 (ji23)).f0.f1))).heap[gb249]? = some (.cells #[.int .i64 a0_0, .int .i64 a0_1, .slice A0_2 l0_2.length c0_2, .slice (some ad253) l0_3.length c0_3] 25 (0, 0))) := ⟨Goto.bx BK249⟩
             have n1_ : Aside0 (((((w31.setCell ⟨gb255, 0, none⟩ (.int .i64 ((rd_T44 l0_3 (ji20)).f0.f0))).setCell ⟨gb255, 1, none⟩ (.int .u64 ((rd_T44 l0_3 (ji20)).f0.f1))).setCell ⟨gb256, 0, none⟩ (.int .i64 ((rd_T44 l0_3 (ji23)).f0.f0))).setCell ⟨gb256, 1, none⟩ (.int .u64 ((rd_T44 l0_3 (ji23)).f0.f1))).heap[gb255]? = some (.cells #[.int .i64 ((rd_T44 l0_3 (ji20)).f0.f0), .int .u64 ((rd_T44 l0_3 (ji20)).f0.f1)] 42 (0, 0))) := ⟨Goto.bx BK255⟩
             have n2_ : Aside0 (((((w31.setCell ⟨gb255, 0, none⟩ (.int .i64 ((rd_T44 l0_3 (ji20)).f0.f0))).setCell ⟨gb255, 1, none⟩ (.int .u64 ((rd_T44 l0_3 (ji20)).f0.f1))).setCell ⟨gb256, 0, none⟩ (.int .i64 ((rd_T44 l0_3 (ji23)).f0.f0))).setCell ⟨gb256, 1, none⟩ (.int .u64 ((rd_T44 l0_3 (ji23)).f0.f1))).heap[gb256]? = some (.cells #[.int .i64 ((rd_T44 l0_3 (ji23)).f0.f0), .int .u64 ((rd_T44 l0_3 (ji23)).f0.f1)] 42 (0, 0))) := ⟨Goto.bx BK256⟩
             have n3_ : Aside0 (Below w.heap.size w ((((w31.setCell ⟨gb255, 0, none⟩ (.int .i64 ((rd_T44 l0_3 (ji20)).f0.f0))).setCell ⟨gb255, 1, none⟩ (.int .u64 ((rd_T44 l0_3 (ji20)).f0.f1))).setCell ⟨gb256, 0, none⟩ (.int .i64 ((rd_T44 l0_3 (ji23)).f0.f0))).setCell ⟨gb256, 1, none⟩ (.int .u64 ((rd_T44 l0_3 (ji23)).f0.f1)))) := ⟨Goto.hx HB⟩
             (try clear BK249)
             (try clear BK255)
             (try clear BK256)
             (try clear HB)
             generalize ((((w31.setCell ⟨gb255, 0, none⟩ (.int .i64 ((rd_T44 l0_3 (ji20)).f0.f0))).setCell ⟨gb255, 1, none⟩ (.int .u64 ((rd_T44 l0_3 (ji20)).f0.f1))).setCell ⟨gb256, 0, none⟩ (.int .i64 ((rd_T44 l0_3 (ji23)).f0.f0))).setCell ⟨gb256, 1, none⟩ (.int .u64 ((rd_T44 l0_3 (ji23)).f0.f1))) = w38 at n0_ n1_ n2_ n3_ ⊢
             have BK249 := n0_; have BK255 := n1_; have BK256 := n2_; have HB := n3_; clear n0_ n1_ n2_ n3_
             replace BK249 := Goto.m0 (blk_drew BK249.out); replace BK255 := Goto.m0 (blk_drew BK255.out); replace BK256 := Goto.m0 (blk_drew BK256.out); replace HB := Goto.m0 (below_drew1 HB.out)
             refine start_ (n := 12) (S := fun w' => w'.cell? ⟨gb249, 0, none⟩ = some (.int .i64 a0_0) ∧ w'.cell? ⟨gb249, 1, none⟩ = some (.int .i64 a0_1) ∧ w'.cell? ⟨gb249, 2, none⟩ = some (.slice A0_2 l0_2.length c0_2) ∧ w'.cell? ⟨gb249, 3, none⟩ = some (.slice (some ad253) l0_3.length c0_3)) (ds := []) (.replicate 12 false) (by kernel_rfl) rfl rfl ⟨(blk_cell BK249.out 0).trans rfl, (blk_cell BK249.out 1).trans rfl, (blk_cell BK249.out 2).trans rfl, (blk_cell BK249.out 3).trans rfl⟩ (fun hHeld => ?_); refine with_tabW tontinelaw20_CheckFlows.tab7 tontinelaw20_CheckFlows.bits7 (fun HT_ HW_ => ?_)
             generalize w38.drew = w39 at BK249 BK255 BK256 HB hHeld ⊢
             refine pure_ (i := 1) (N := some 47) (v := ?_) (a' := ?_) (Goto.bs 12 2) rfl rfl (any_of HT_.out (by kernel_rfl)) (fun _ _ _ h => h) (Or.inl ⟨by rfl, ?_⟩) ?_ ?_
             rotate_left
             ·
              intro w'
              go_simp
              with_reducible rfl
             rotate_left
             ·
              exact Goto.ap
             refine pure_ (i := 2) (N := some 48) (v := ?_) (a' := ?_) (Goto.bs 12 6) rfl rfl (any_of HT_.out (by kernel_rfl)) (fun _ _ _ h => h) (Or.inl ⟨by rfl, ?_⟩) ?_ ?_
             rotate_left
             ·
              intro w'
              go_simp
              with_reducible rfl
             rotate_left
             ·
              exact Goto.ap
             refine pure_ (i := 6) (N := some 52) (v := ?_) (a' := ?_) (Goto.bs 12 70) rfl rfl (any_of HT_.out (by kernel_rfl)) (fun _ _ _ h => h) (Or.inl ⟨by rfl, ?_⟩) ?_ ?_
             rotate_left
             ·
              intro w'
              go_simp
              with_reducible rfl
             rotate_left
             ·
              exact Goto.ap
             refine pure_ (i := 7) (N := some 53) (v := ?_) (a' := ?_) (Goto.bs 12 198) rfl rfl (any_of HT_.out (by kernel_rfl)) (fun _ _ _ h => h) (Or.inl ⟨by rfl, ?_⟩) ?_ ?_
             rotate_left
             ·
              intro w'
              go_simp
              with_reducible rfl
             rotate_left
             ·
              exact Goto.ap
             refine take_ (i := 0) (N := some 46) (v := ?_) (a' := ?_) (Goto.bs 12 199) rfl rfl (take_ofW HT_.out HW_.out (by kernel_rfl)) (fun _ _ _ h => h) (Or.inl ⟨by rfl, ?_⟩) hHeld ?_ ?_
             rotate_left
             ·
              rintro w' ⟨s0, s1, s2, s3⟩
              go_simp
              with_reducible rfl
             rotate_left
             ·
              exact Goto.ap
             refine take_ (i := 5) (N := some 51) (v := ?_) (a' := ?_) (Goto.bs 12 231) rfl rfl (take_ofW HT_.out HW_.out (by kernel_rfl)) (fun _ _ _ h => h) (Or.inl ⟨by rfl, ?_⟩) hHeld ?_ ?_
             rotate_left
             ·
              rintro w' ⟨s0, s1, s2, s3⟩
              go_simp
              with_reducible rfl
             rotate_left
             ·
              exact Goto.ap
             refine one_ (i := 3) (N := some 49) (Goto.bs 12 239) rfl rfl (one_of HT_.out (by kernel_rfl)) (by decide) (fun K hK => ?_)
             refine goes_ Try.func27 (by kernel_rfl) rfl #[.agg #[.int .i64 a0_0, .int .i64 a0_1, .slice A0_2 l0_2.length c0_2, .slice (some ad253) l0_3.length c0_3], .int .i64 ji20, .int .i64 ji23] (by rfl) rfl rfl (by (try simp only [List.map_toArray, List.map_cons, List.map_nil]); first | done | (simp only [hji20, hji23]; rfl) | rfl | (simp only [List.length_drop, List.length_take]; rfl)) ?_
             with_reducible refine (check_Read.calls kj5 a0_0 a0_1 _ _ l0_2 _ _ l0_3 ji20 ji23 none _ ?side1 ?side2 ?side3 ?side4 A36.out).mono ?_
             (case side1 => repeat (first | exact (Kd.C_below HR0_2.out HB.out) | (with_reducible refine Kd.C_alloc ?_ _) | (with_reducible refine Kd.C_drewN ?_ _) | (with_reducible refine Kd.C_drew ?_)))
             (case side2 => exact HC0_2.out)
             (case side3 => repeat (first | exact (Kd.C_below HR0_3.out HB.out) | (with_reducible refine Kd.C_alloc ?_ _) | (with_reducible refine Kd.C_drewN ?_ _) | (with_reducible refine Kd.C_drew ?_)))
             (case side4 => exact HC0_3.out)
             rintro e w40 ⟨rfl, hb⟩
             refine ⟨_, rfl, ?_⟩
             replace BK249 := Goto.bb BK249 hb; replace BK255 := Goto.bb BK255 hb; replace BK256 := Goto.bb BK256 hb; replace HB := Goto.hs HB hb
             (try clear hb)
             (try clear hb2)
             (try clear hk)
             (try clear hi)
             (try simp only [errW_none, errW_some])
             refine hK.out _ _ ⟨(blk_cell BK249.out 0).trans rfl, (blk_cell BK249.out 1).trans rfl, (blk_cell BK249.out 2).trans rfl, (blk_cell BK249.out 3).trans rfl⟩ (fun hHeld => ?_)
             clear hK K
             refine norm_ (a' := ?_) ?_ ?_
             rotate_left
             ·
              show Act.put _ (some 49) _ = _
              exact Goto.ap
             refine pure_ (i := 4) (N := some 50) (v := ?_) (a' := ?_) (Goto.bs 12 255) rfl rfl (any_of HT_.out (by kernel_rfl)) (fun _ _ _ h => h) (Or.inl ⟨by rfl, ?_⟩) ?_ ?_
             rotate_left
             ·
              intro w'
              go_simp
              with_reducible rfl
             rotate_left
             ·
              exact Goto.ap
             refine one_ (i := 8) (N := some 54) (Goto.bs 12 511) rfl rfl (one_of HT_.out (by kernel_rfl)) (by decide) (fun K hK => ?_)
             refine goes_ Try.func28 (by kernel_rfl) rfl #[.agg #[.int .i64 a0_0, .int .i64 a0_1, .slice A0_2 l0_2.length c0_2, .slice (some ad253) l0_3.length c0_3], .int .i64 ji23, .int .i64 ji20] (by rfl) rfl rfl (by (try simp only [List.map_toArray, List.map_cons, List.map_nil]); first | done | (simp only [hji20, hji23]; rfl) | rfl | (simp only [List.length_drop, List.length_take]; rfl)) ?_
             with_reducible refine (check_Send.calls kj5 a0_0 a0_1 _ _ l0_2 _ _ l0_3 ji23 ji20 none _ ?side1 ?side2 ?side3 ?side4 A37.out).mono ?_
             (case side1 => repeat (first | exact (Kd.C_below HR0_2.out HB.out) | (with_reducible refine Kd.C_alloc ?_ _) | (with_reducible refine Kd.C_drewN ?_ _) | (with_reducible refine Kd.C_drew ?_)))
             (case side2 => exact HC0_2.out)
             (case side3 => repeat (first | exact (Kd.C_below HR0_3.out HB.out) | (with_reducible refine Kd.C_alloc ?_ _) | (with_reducible refine Kd.C_drewN ?_ _) | (with_reducible refine Kd.C_drew ?_)))
             (case side4 => exact HC0_3.out)
             rintro e w41 ⟨rfl, hb⟩
             refine ⟨_, rfl, ?_⟩
             replace BK249 := Goto.bb BK249 hb; replace BK255 := Goto.bb BK255 hb; replace BK256 := Goto.bb BK256 hb; replace HB := Goto.hs HB hb
             (try clear hb)
             (try clear hb2)
             (try clear hk)
             (try clear hi)
             (try simp only [errW_none, errW_some])
             refine hK.out _ _ ⟨(blk_cell BK249.out 0).trans rfl, (blk_cell BK249.out 1).trans rfl, (blk_cell BK249.out 2).trans rfl, (blk_cell BK249.out 3).trans rfl⟩ (fun hHeld => ?_)
             clear hK K
             refine norm_ (a' := ?_) ?_ ?_
             rotate_left
             ·
              show Act.put _ (some 54) _ = _
              exact Goto.ap
             refine pure_ (i := 9) (N := some 55) (v := ?_) (a' := ?_) (Goto.bs 12 1023) rfl rfl (any_of HT_.out (by kernel_rfl)) (fun _ _ _ h => h) (Or.inl ⟨by rfl, ?_⟩) ?_ ?_
             rotate_left
             ·
              intro w'
              go_simp
              with_reducible rfl
             rotate_left
             ·
              exact Goto.ap
             refine pure_ (i := 10) (N := some 11) (v := ?_) (a' := ?_) (Goto.bs 12 2047) rfl rfl (any_of HT_.out (by kernel_rfl)) (fun _ _ _ h => h) (Or.inl ⟨by rfl, ?_⟩) ?_ ?_
             rotate_left
             ·
              intro w'
              go_simp
              with_reducible rfl
             rotate_left
             ·
              exact Goto.ap
             refine pure_ (i := 11) (N := some 12) (v := ?_) (a' := ?_) (Goto.bs 12 4095) rfl rfl (any_of HT_.out (by kernel_rfl)) (fun _ _ _ h => h) (Or.inl ⟨by rfl, ?_⟩) ?_ ?_
             rotate_left
             ·
              intro w'
              go_simp
              with_reducible rfl
             rotate_left
             ·
              exact Goto.ap
             refine done_ (done_of HT_.out (by kernel_rfl)) ?_
             try go_wp2
             go_meet
             case rel => exact ⟨_, (true), (true), (by first | rfl | (simp; done) | (simp [*]; done)), (by first | rfl | (simp; done) | (simp [*]; done)), H', ⟨by have := HJ5.out; first | omega | exact Nat.le_refl _⟩, ⟨Goto.bx BK249⟩, ⟨Goto.bx BK255⟩, ⟨Goto.bx BK256⟩, ⟨Goto.hx HB⟩⟩
            ·
             have H1 : (tontinelaw20_CheckFlows.j1 kj5 ji20 ji23 true false a0_0 a0_1 l0_2 l0_3 ((rd_T44 l0_3 (ji20)).f0.f0) ((rd_T44 l0_3 (ji20)).f0.f1) ((rd_T44 l0_3 (ji23)).f0.f0) ((rd_T44 l0_3 (ji23)).f0.f1)) = some r := by rw [if_neg (show ¬ (some q260).isNone = true by simp)] at H; exact H
             clear H; have H := H1; clear H1
             try simp only [errW_none, errW_some]
             have H' := Goto.m0 H
             clear H
             try go_wp2
             have n0_ : Aside0 (((((w31.setCell ⟨gb255, 0, none⟩ (.int .i64 ((rd_T44 l0_3 (ji20)).f0.f0))).setCell ⟨gb255, 1, none⟩ (.int .u64 ((rd_T44 l0_3 (ji20)).f0.f1))).setCell ⟨gb256, 0, none⟩ (.int .i64 ((rd_T44 l0_3 (ji23)).f0.f0))).setCell ⟨gb256, 1, none⟩ (.int .u64 ((rd_T44 l0_3 (ji23)).f0.f1))).heap[gb249]? = some (.cells #[.int .i64 a0_0, .int .i64 a0_1, .slice A0_2 l0_2.length c0_2, .slice (some ad253) l0_3.length c0_3] 25 (0, 0))) := ⟨Goto.bx BK249⟩
             have n1_ : Aside0 (((((w31.setCell ⟨gb255, 0, none⟩ (.int .i64 ((rd_T44 l0_3 (ji20)).f0.f0))).setCell ⟨gb255, 1, none⟩ (.int .u64 ((rd_T44 l0_3 (ji20)).f0.f1))).setCell ⟨gb256, 0, none⟩ (.int .i64 ((rd_T44 l0_3 (ji23)).f0.f0))).setCell ⟨gb256, 1, none⟩ (.int .u64 ((rd_T44 l0_3 (ji23)).f0.f1))).heap[gb255]? = some (.cells #[.int .i64 ((rd_T44 l0_3 (ji20)).f0.f0), .int .u64 ((rd_T44 l0_3 (ji20)).f0.f1)] 42 (0, 0))) := ⟨Goto.bx BK255⟩
             have n2_ : Aside0 (((((w31.setCell ⟨gb255, 0, none⟩ (.int .i64 ((rd_T44 l0_3 (ji20)).f0.f0))).setCell ⟨gb255, 1, none⟩ (.int .u64 ((rd_T44 l0_3 (ji20)).f0.f1))).setCell ⟨gb256, 0, none⟩ (.int .i64 ((rd_T44 l0_3 (ji23)).f0.f0))).setCell ⟨gb256, 1, none⟩ (.int .u64 ((rd_T44 l0_3 (ji23)).f0.f1))).heap[gb256]? = some (.cells #[.int .i64 ((rd_T44 l0_3 (ji23)).f0.f0), .int .u64 ((rd_T44 l0_3 (ji23)).f0.f1)] 42 (0, 0))) := ⟨Goto.bx BK256⟩
             have n3_ : Aside0 (Below w.heap.size w ((((w31.setCell ⟨gb255, 0, none⟩ (.int .i64 ((rd_T44 l0_3 (ji20)).f0.f0))).setCell ⟨gb255, 1, none⟩ (.int .u64 ((rd_T44 l0_3 (ji20)).f0.f1))).setCell ⟨gb256, 0, none⟩ (.int .i64 ((rd_T44 l0_3 (ji23)).f0.f0))).setCell ⟨gb256, 1, none⟩ (.int .u64 ((rd_T44 l0_3 (ji23)).f0.f1)))) := ⟨Goto.hx HB⟩
             (try clear BK249)
             (try clear BK255)
             (try clear BK256)
             (try clear HB)
             generalize ((((w31.setCell ⟨gb255, 0, none⟩ (.int .i64 ((rd_T44 l0_3 (ji20)).f0.f0))).setCell ⟨gb255, 1, none⟩ (.int .u64 ((rd_T44 l0_3 (ji20)).f0.f1))).setCell ⟨gb256, 0, none⟩ (.int .i64 ((rd_T44 l0_3 (ji23)).f0.f0))).setCell ⟨gb256, 1, none⟩ (.int .u64 ((rd_T44 l0_3 (ji23)).f0.f1))) = w42 at n0_ n1_ n2_ n3_ ⊢
             have BK249 := n0_; have BK255 := n1_; have BK256 := n2_; have HB := n3_; clear n0_ n1_ n2_ n3_
             replace BK249 := Goto.m0 (blk_drew BK249.out); replace BK255 := Goto.m0 (blk_drew BK255.out); replace BK256 := Goto.m0 (blk_drew BK256.out); replace HB := Goto.m0 (below_drew1 HB.out)
             refine start_ (n := 12) (S := fun w' => w'.cell? ⟨gb249, 0, none⟩ = some (.int .i64 a0_0) ∧ w'.cell? ⟨gb249, 1, none⟩ = some (.int .i64 a0_1) ∧ w'.cell? ⟨gb249, 2, none⟩ = some (.slice A0_2 l0_2.length c0_2) ∧ w'.cell? ⟨gb249, 3, none⟩ = some (.slice (some ad253) l0_3.length c0_3)) (ds := []) (.replicate 12 false) (by kernel_rfl) rfl rfl ⟨(blk_cell BK249.out 0).trans rfl, (blk_cell BK249.out 1).trans rfl, (blk_cell BK249.out 2).trans rfl, (blk_cell BK249.out 3).trans rfl⟩ (fun hHeld => ?_); refine with_tabW tontinelaw20_CheckFlows.tab7 tontinelaw20_CheckFlows.bits7 (fun HT_ HW_ => ?_)
             generalize w42.drew = w43 at BK249 BK255 BK256 HB hHeld ⊢
             refine pure_ (i := 1) (N := some 47) (v := ?_) (a' := ?_) (Goto.bs 12 2) rfl rfl (any_of HT_.out (by kernel_rfl)) (fun _ _ _ h => h) (Or.inl ⟨by rfl, ?_⟩) ?_ ?_
             rotate_left
             ·
              intro w'
              go_simp
              with_reducible rfl
             rotate_left
             ·
              exact Goto.ap
             refine pure_ (i := 2) (N := some 48) (v := ?_) (a' := ?_) (Goto.bs 12 6) rfl rfl (any_of HT_.out (by kernel_rfl)) (fun _ _ _ h => h) (Or.inl ⟨by rfl, ?_⟩) ?_ ?_
             rotate_left
             ·
              intro w'
              go_simp
              with_reducible rfl
             rotate_left
             ·
              exact Goto.ap
             refine pure_ (i := 6) (N := some 52) (v := ?_) (a' := ?_) (Goto.bs 12 70) rfl rfl (any_of HT_.out (by kernel_rfl)) (fun _ _ _ h => h) (Or.inl ⟨by rfl, ?_⟩) ?_ ?_
             rotate_left
             ·
              intro w'
              go_simp
              with_reducible rfl
             rotate_left
             ·
              exact Goto.ap
             refine pure_ (i := 7) (N := some 53) (v := ?_) (a' := ?_) (Goto.bs 12 198) rfl rfl (any_of HT_.out (by kernel_rfl)) (fun _ _ _ h => h) (Or.inl ⟨by rfl, ?_⟩) ?_ ?_
             rotate_left
             ·
              intro w'
              go_simp
              with_reducible rfl
             rotate_left
             ·
              exact Goto.ap
             refine take_ (i := 0) (N := some 46) (v := ?_) (a' := ?_) (Goto.bs 12 199) rfl rfl (take_ofW HT_.out HW_.out (by kernel_rfl)) (fun _ _ _ h => h) (Or.inl ⟨by rfl, ?_⟩) hHeld ?_ ?_
             rotate_left
             ·
              rintro w' ⟨s0, s1, s2, s3⟩
              go_simp
              with_reducible rfl
             rotate_left
             ·
              exact Goto.ap
             refine take_ (i := 5) (N := some 51) (v := ?_) (a' := ?_) (Goto.bs 12 231) rfl rfl (take_ofW HT_.out HW_.out (by kernel_rfl)) (fun _ _ _ h => h) (Or.inl ⟨by rfl, ?_⟩) hHeld ?_ ?_
             rotate_left
             ·
              rintro w' ⟨s0, s1, s2, s3⟩
              go_simp
              with_reducible rfl
             rotate_left
             ·
              exact Goto.ap
             refine one_ (i := 3) (N := some 49) (Goto.bs 12 239) rfl rfl (one_of HT_.out (by kernel_rfl)) (by decide) (fun K hK => ?_)
             refine goes_ Try.func27 (by kernel_rfl) rfl #[.agg #[.int .i64 a0_0, .int .i64 a0_1, .slice A0_2 l0_2.length c0_2, .slice (some ad253) l0_3.length c0_3], .int .i64 ji20, .int .i64 ji23] (by rfl) rfl rfl (by (try simp only [List.map_toArray, List.map_cons, List.map_nil]); first | done | (simp only [hji20, hji23]; rfl) | rfl | (simp only [List.length_drop, List.length_take]; rfl)) ?_
             with_reducible refine (check_Read.calls kj5 a0_0 a0_1 _ _ l0_2 _ _ l0_3 ji20 ji23 none _ ?side1 ?side2 ?side3 ?side4 A36.out).mono ?_
             (case side1 => repeat (first | exact (Kd.C_below HR0_2.out HB.out) | (with_reducible refine Kd.C_alloc ?_ _) | (with_reducible refine Kd.C_drewN ?_ _) | (with_reducible refine Kd.C_drew ?_)))
             (case side2 => exact HC0_2.out)
             (case side3 => repeat (first | exact (Kd.C_below HR0_3.out HB.out) | (with_reducible refine Kd.C_alloc ?_ _) | (with_reducible refine Kd.C_drewN ?_ _) | (with_reducible refine Kd.C_drew ?_)))
             (case side4 => exact HC0_3.out)
             rintro e w44 ⟨rfl, hb⟩
             refine ⟨_, rfl, ?_⟩
             replace BK249 := Goto.bb BK249 hb; replace BK255 := Goto.bb BK255 hb; replace BK256 := Goto.bb BK256 hb; replace HB := Goto.hs HB hb
             (try clear hb)
             (try clear hb2)
             (try clear hk)
             (try clear hi)
             (try simp only [errW_none, errW_some])
             refine hK.out _ _ ⟨(blk_cell BK249.out 0).trans rfl, (blk_cell BK249.out 1).trans rfl, (blk_cell BK249.out 2).trans rfl, (blk_cell BK249.out 3).trans rfl⟩ (fun hHeld => ?_)
             clear hK K
             refine norm_ (a' := ?_) ?_ ?_
             rotate_left
             ·
              show Act.put _ (some 49) _ = _
              exact Goto.ap
             refine pure_ (i := 4) (N := some 50) (v := ?_) (a' := ?_) (Goto.bs 12 255) rfl rfl (any_of HT_.out (by kernel_rfl)) (fun _ _ _ h => h) (Or.inl ⟨by rfl, ?_⟩) ?_ ?_
             rotate_left
             ·
              intro w'
              go_simp
              with_reducible rfl
             rotate_left
             ·
              exact Goto.ap
             refine one_ (i := 8) (N := some 54) (Goto.bs 12 511) rfl rfl (one_of HT_.out (by kernel_rfl)) (by decide) (fun K hK => ?_)
             refine goes_ Try.func28 (by kernel_rfl) rfl #[.agg #[.int .i64 a0_0, .int .i64 a0_1, .slice A0_2 l0_2.length c0_2, .slice (some ad253) l0_3.length c0_3], .int .i64 ji23, .int .i64 ji20] (by rfl) rfl rfl (by (try simp only [List.map_toArray, List.map_cons, List.map_nil]); first | done | (simp only [hji20, hji23]; rfl) | rfl | (simp only [List.length_drop, List.length_take]; rfl)) ?_
             with_reducible refine (check_Send.calls kj5 a0_0 a0_1 _ _ l0_2 _ _ l0_3 ji23 ji20 (some q260) _ ?side1 ?side2 ?side3 ?side4 A37.out).mono ?_
             (case side1 => repeat (first | exact (Kd.C_below HR0_2.out HB.out) | (with_reducible refine Kd.C_alloc ?_ _) | (with_reducible refine Kd.C_drewN ?_ _) | (with_reducible refine Kd.C_drew ?_)))
             (case side2 => exact HC0_2.out)
             (case side3 => repeat (first | exact (Kd.C_below HR0_3.out HB.out) | (with_reducible refine Kd.C_alloc ?_ _) | (with_reducible refine Kd.C_drewN ?_ _) | (with_reducible refine Kd.C_drew ?_)))
             (case side4 => exact HC0_3.out)
             rintro e w45 ⟨rfl, hb⟩
             refine ⟨_, rfl, ?_⟩
             replace BK249 := Goto.bb BK249 hb; replace BK255 := Goto.bb BK255 hb; replace BK256 := Goto.bb BK256 hb; replace HB := Goto.hs HB hb
             (try clear hb)
             (try clear hb2)
             (try clear hk)
             (try clear hi)
             (try simp only [errW_none, errW_some])
             refine hK.out _ _ ⟨(blk_cell BK249.out 0).trans rfl, (blk_cell BK249.out 1).trans rfl, (blk_cell BK249.out 2).trans rfl, (blk_cell BK249.out 3).trans rfl⟩ (fun hHeld => ?_)
             clear hK K
             refine norm_ (a' := ?_) ?_ ?_
             rotate_left
             ·
              show Act.put _ (some 54) _ = _
              exact Goto.ap
             refine pure_ (i := 9) (N := some 55) (v := ?_) (a' := ?_) (Goto.bs 12 1023) rfl rfl (any_of HT_.out (by kernel_rfl)) (fun _ _ _ h => h) (Or.inl ⟨by rfl, ?_⟩) ?_ ?_
             rotate_left
             ·
              intro w'
              go_simp
              with_reducible rfl
             rotate_left
             ·
              exact Goto.ap
             refine pure_ (i := 10) (N := some 11) (v := ?_) (a' := ?_) (Goto.bs 12 2047) rfl rfl (any_of HT_.out (by kernel_rfl)) (fun _ _ _ h => h) (Or.inl ⟨by rfl, ?_⟩) ?_ ?_
             rotate_left
             ·
              intro w'
              go_simp
              with_reducible rfl
             rotate_left
             ·
              exact Goto.ap
             refine pure_ (i := 11) (N := some 12) (v := ?_) (a' := ?_) (Goto.bs 12 4095) rfl rfl (any_of HT_.out (by kernel_rfl)) (fun _ _ _ h => h) (Or.inl ⟨by rfl, ?_⟩) ?_ ?_
             rotate_left
             ·
              intro w'
              go_simp
              with_reducible rfl
             rotate_left
             ·
              exact Goto.ap
             refine done_ (done_of HT_.out (by kernel_rfl)) ?_
             try go_wp2
             go_meet
             case rel => exact ⟨_, (true), (false), (by first | rfl | (simp; done) | (simp [*]; done)), (by first | rfl | (simp; done) | (simp [*]; done)), H', ⟨by have := HJ5.out; first | omega | exact Nat.le_refl _⟩, ⟨Goto.bx BK249⟩, ⟨Goto.bx BK255⟩, ⟨Goto.bx BK256⟩, ⟨Goto.hx HB⟩⟩
           ·
            have H1 : ((check_Send.f kj5 a0_0 a0_1 l0_2 l0_3 (ji23) (ji20)).bind fun t261 => (if t261.isNone = true then (tontinelaw20_CheckFlows.j1 kj5 ji20 ji23 false true a0_0 a0_1 l0_2 l0_3 ((rd_T44 l0_3 (ji20)).f0.f0) ((rd_T44 l0_3 (ji20)).f0.f1) ((rd_T44 l0_3 (ji23)).f0.f0) ((rd_T44 l0_3 (ji23)).f0.f1)) else (tontinelaw20_CheckFlows.j1 kj5 ji20 ji23 false false a0_0 a0_1 l0_2 l0_3 ((rd_T44 l0_3 (ji20)).f0.f0) ((rd_T44 l0_3 (ji20)).f0.f1) ((rd_T44 l0_3 (ji23)).f0.f0) ((rd_T44 l0_3 (ji23)).f0.f1)))) = some r := by rw [if_neg (show ¬ (some q258).isNone = true by simp)] at H; exact H
            clear H; have H := H1; clear H1
            try simp only [errW_none, errW_some]
            replace H := Option.bind_eq_some_iff.mp H
            obtain ⟨t261, A460, H⟩ := H
            have A46 := Goto.m0 A460
            clear A460
            rcases t261 with _ | q262
            ·
             have H1 : (tontinelaw20_CheckFlows.j1 kj5 ji20 ji23 false true a0_0 a0_1 l0_2 l0_3 ((rd_T44 l0_3 (ji20)).f0.f0) ((rd_T44 l0_3 (ji20)).f0.f1) ((rd_T44 l0_3 (ji23)).f0.f0) ((rd_T44 l0_3 (ji23)).f0.f1)) = some r := by rw [if_pos (show (none : Option Int).isNone = true by rfl)] at H; exact H
             clear H; have H := H1; clear H1
             try simp only [errW_none, errW_some]
             have H' := Goto.m0 H
             clear H
             try go_wp2
             have n0_ : Aside0 (((((w31.setCell ⟨gb255, 0, none⟩ (.int .i64 ((rd_T44 l0_3 (ji20)).f0.f0))).setCell ⟨gb255, 1, none⟩ (.int .u64 ((rd_T44 l0_3 (ji20)).f0.f1))).setCell ⟨gb256, 0, none⟩ (.int .i64 ((rd_T44 l0_3 (ji23)).f0.f0))).setCell ⟨gb256, 1, none⟩ (.int .u64 ((rd_T44 l0_3 (ji23)).f0.f1))).heap[gb249]? = some (.cells #[.int .i64 a0_0, .int .i64 a0_1, .slice A0_2 l0_2.length c0_2, .slice (some ad253) l0_3.length c0_3] 25 (0, 0))) := ⟨Goto.bx BK249⟩
             have n1_ : Aside0 (((((w31.setCell ⟨gb255, 0, none⟩ (.int .i64 ((rd_T44 l0_3 (ji20)).f0.f0))).setCell ⟨gb255, 1, none⟩ (.int .u64 ((rd_T44 l0_3 (ji20)).f0.f1))).setCell ⟨gb256, 0, none⟩ (.int .i64 ((rd_T44 l0_3 (ji23)).f0.f0))).setCell ⟨gb256, 1, none⟩ (.int .u64 ((rd_T44 l0_3 (ji23)).f0.f1))).heap[gb255]? = some (.cells #[.int .i64 ((rd_T44 l0_3 (ji20)).f0.f0), .int .u64 ((rd_T44 l0_3 (ji20)).f0.f1)] 42 (0, 0))) := ⟨Goto.bx BK255⟩
             have n2_ : Aside0 (((((w31.setCell ⟨gb255, 0, none⟩ (.int .i64 ((rd_T44 l0_3 (ji20)).f0.f0))).setCell ⟨gb255, 1, none⟩ (.int .u64 ((rd_T44 l0_3 (ji20)).f0.f1))).setCell ⟨gb256, 0, none⟩ (.int .i64 ((rd_T44 l0_3 (ji23)).f0.f0))).setCell ⟨gb256, 1, none⟩ (.int .u64 ((rd_T44 l0_3 (ji23)).f0.f1))).heap[gb256]? = some (.cells #[.int .i64 ((rd_T44 l0_3 (ji23)).f0.f0), .int .u64 ((rd_T44 l0_3 (ji23)).f0.f1)] 42 (0, 0))) := ⟨Goto.bx BK256⟩
             have n3_ : Aside0 (Below w.heap.size w ((((w31.setCell ⟨gb255, 0, none⟩ (.int .i64 ((rd_T44 l0_3 (ji20)).f0.f0))).setCell ⟨gb255, 1, none⟩ (.int .u64 ((rd_T44 l0_3 (ji20)).f0.f1))).setCell ⟨gb256, 0, none⟩ (.int .i64 ((rd_T44 l0_3 (ji23)).f0.f0))).setCell ⟨gb256, 1, none⟩ (.int .u64 ((rd_T44 l0_3 (ji23)).f0.f1)))) := ⟨Goto.hx HB⟩
             (try clear BK249)
             (try clear BK255)
             (try clear BK256)
             (try clear HB)
             generalize ((((w31.setCell ⟨gb255, 0, none⟩ (.int .i64 ((rd_T44 l0_3 (ji20)).f0.f0))).setCell ⟨gb255, 1, none⟩ (.int .u64 ((rd_T44 l0_3 (ji20)).f0.f1))).setCell ⟨gb256, 0, none⟩ (.int .i64 ((rd_T44 l0_3 (ji23)).f0.f0))).setCell ⟨gb256, 1, none⟩ (.int .u64 ((rd_T44 l0_3 (ji23)).f0.f1))) = w47 at n0_ n1_ n2_ n3_ ⊢
             have BK249 := n0_; have BK255 := n1_; have BK256 := n2_; have HB := n3_; clear n0_ n1_ n2_ n3_
             replace BK249 := Goto.m0 (blk_drew BK249.out); replace BK255 := Goto.m0 (blk_drew BK255.out); replace BK256 := Goto.m0 (blk_drew BK256.out); replace HB := Goto.m0 (below_drew1 HB.out)
             refine start_ (n := 12) (S := fun w' => w'.cell? ⟨gb249, 0, none⟩ = some (.int .i64 a0_0) ∧ w'.cell? ⟨gb249, 1, none⟩ = some (.int .i64 a0_1) ∧ w'.cell? ⟨gb249, 2, none⟩ = some (.slice A0_2 l0_2.length c0_2) ∧ w'.cell? ⟨gb249, 3, none⟩ = some (.slice (some ad253) l0_3.length c0_3)) (ds := []) (.replicate 12 false) (by kernel_rfl) rfl rfl ⟨(blk_cell BK249.out 0).trans rfl, (blk_cell BK249.out 1).trans rfl, (blk_cell BK249.out 2).trans rfl, (blk_cell BK249.out 3).trans rfl⟩ (fun hHeld => ?_); refine with_tabW tontinelaw20_CheckFlows.tab7 tontinelaw20_CheckFlows.bits7 (fun HT_ HW_ => ?_)
             generalize w47.drew = w48 at BK249 BK255 BK256 HB hHeld ⊢
             refine pure_ (i := 1) (N := some 47) (v := ?_) (a' := ?_) (Goto.bs 12 2) rfl rfl (any_of HT_.out (by kernel_rfl)) (fun _ _ _ h => h) (Or.inl ⟨by rfl, ?_⟩) ?_ ?_
             rotate_left
             ·
              intro w'
              go_simp
              with_reducible rfl
             rotate_left
             ·
              exact Goto.ap
             refine pure_ (i := 2) (N := some 48) (v := ?_) (a' := ?_) (Goto.bs 12 6) rfl rfl (any_of HT_.out (by kernel_rfl)) (fun _ _ _ h => h) (Or.inl ⟨by rfl, ?_⟩) ?_ ?_
             rotate_left
             ·
              intro w'
              go_simp
              with_reducible rfl
             rotate_left
             ·
              exact Goto.ap
             refine pure_ (i := 6) (N := some 52) (v := ?_) (a' := ?_) (Goto.bs 12 70) rfl rfl (any_of HT_.out (by kernel_rfl)) (fun _ _ _ h => h) (Or.inl ⟨by rfl, ?_⟩) ?_ ?_
             rotate_left
             ·
              intro w'
              go_simp
              with_reducible rfl
             rotate_left
             ·
              exact Goto.ap
             refine pure_ (i := 7) (N := some 53) (v := ?_) (a' := ?_) (Goto.bs 12 198) rfl rfl (any_of HT_.out (by kernel_rfl)) (fun _ _ _ h => h) (Or.inl ⟨by rfl, ?_⟩) ?_ ?_
             rotate_left
             ·
              intro w'
              go_simp
              with_reducible rfl
             rotate_left
             ·
              exact Goto.ap
             refine take_ (i := 0) (N := some 46) (v := ?_) (a' := ?_) (Goto.bs 12 199) rfl rfl (take_ofW HT_.out HW_.out (by kernel_rfl)) (fun _ _ _ h => h) (Or.inl ⟨by rfl, ?_⟩) hHeld ?_ ?_
             rotate_left
             ·
              rintro w' ⟨s0, s1, s2, s3⟩
              go_simp
              with_reducible rfl
             rotate_left
             ·
              exact Goto.ap
             refine take_ (i := 5) (N := some 51) (v := ?_) (a' := ?_) (Goto.bs 12 231) rfl rfl (take_ofW HT_.out HW_.out (by kernel_rfl)) (fun _ _ _ h => h) (Or.inl ⟨by rfl, ?_⟩) hHeld ?_ ?_
             rotate_left
             ·
              rintro w' ⟨s0, s1, s2, s3⟩
              go_simp
              with_reducible rfl
             rotate_left
             ·
              exact Goto.ap
             refine one_ (i := 3) (N := some 49) (Goto.bs 12 239) rfl rfl (one_of HT_.out (by kernel_rfl)) (by decide) (fun K hK => ?_)
             refine goes_ Try.func27 (by kernel_rfl) rfl #[.agg #[.int .i64 a0_0, .int .i64 a0_1, .slice A0_2 l0_2.length c0_2, .slice (some ad253) l0_3.length c0_3], .int .i64 ji20, .int .i64 ji23] (by rfl) rfl rfl (by (try simp only [List.map_toArray, List.map_cons, List.map_nil]); first | done | (simp only [hji20, hji23]; rfl) | rfl | (simp only [List.length_drop, List.length_take]; rfl)) ?_
             with_reducible refine (check_Read.calls kj5 a0_0 a0_1 _ _ l0_2 _ _ l0_3 ji20 ji23 (some q258) _ ?side1 ?side2 ?side3 ?side4 A36.out).mono ?_
             (case side1 => repeat (first | exact (Kd.C_below HR0_2.out HB.out) | (with_reducible refine Kd.C_alloc ?_ _) | (with_reducible refine Kd.C_drewN ?_ _) | (with_reducible refine Kd.C_drew ?_)))
             (case side2 => exact HC0_2.out)
             (case side3 => repeat (first | exact (Kd.C_below HR0_3.out HB.out) | (with_reducible refine Kd.C_alloc ?_ _) | (with_reducible refine Kd.C_drewN ?_ _) | (with_reducible refine Kd.C_drew ?_)))
             (case side4 => exact HC0_3.out)
             rintro e w49 ⟨rfl, hb⟩
             refine ⟨_, rfl, ?_⟩
             replace BK249 := Goto.bb BK249 hb; replace BK255 := Goto.bb BK255 hb; replace BK256 := Goto.bb BK256 hb; replace HB := Goto.hs HB hb
             (try clear hb)
             (try clear hb2)
             (try clear hk)
             (try clear hi)
             (try simp only [errW_none, errW_some])
             refine hK.out _ _ ⟨(blk_cell BK249.out 0).trans rfl, (blk_cell BK249.out 1).trans rfl, (blk_cell BK249.out 2).trans rfl, (blk_cell BK249.out 3).trans rfl⟩ (fun hHeld => ?_)
             clear hK K
             refine norm_ (a' := ?_) ?_ ?_
             rotate_left
             ·
              show Act.put _ (some 49) _ = _
              exact Goto.ap
             refine pure_ (i := 4) (N := some 50) (v := ?_) (a' := ?_) (Goto.bs 12 255) rfl rfl (any_of HT_.out (by kernel_rfl)) (fun _ _ _ h => h) (Or.inl ⟨by rfl, ?_⟩) ?_ ?_
             rotate_left
             ·
              intro w'
              go_simp
              with_reducible rfl
             rotate_left
             ·
              exact Goto.ap
             refine one_ (i := 8) (N := some 54) (Goto.bs 12 511) rfl rfl (one_of HT_.out (by kernel_rfl)) (by decide) (fun K hK => ?_)
             refine goes_ Try.func28 (by kernel_rfl) rfl #[.agg #[.int .i64 a0_0, .int .i64 a0_1, .slice A0_2 l0_2.length c0_2, .slice (some ad253) l0_3.length c0_3], .int .i64 ji23, .int .i64 ji20] (by rfl) rfl rfl (by (try simp only [List.map_toArray, List.map_cons, List.map_nil]); first | done | (simp only [hji20, hji23]; rfl) | rfl | (simp only [List.length_drop, List.length_take]; rfl)) ?_
             with_reducible refine (check_Send.calls kj5 a0_0 a0_1 _ _ l0_2 _ _ l0_3 ji23 ji20 none _ ?side1 ?side2 ?side3 ?side4 A46.out).mono ?_
             (case side1 => repeat (first | exact (Kd.C_below HR0_2.out HB.out) | (with_reducible refine Kd.C_alloc ?_ _) | (with_reducible refine Kd.C_drewN ?_ _) | (with_reducible refine Kd.C_drew ?_)))
             (case side2 => exact HC0_2.out)
             (case side3 => repeat (first | exact (Kd.C_below HR0_3.out HB.out) | (with_reducible refine Kd.C_alloc ?_ _) | (with_reducible refine Kd.C_drewN ?_ _) | (with_reducible refine Kd.C_drew ?_)))
             (case side4 => exact HC0_3.out)
             rintro e w50 ⟨rfl, hb⟩
             refine ⟨_, rfl, ?_⟩
             replace BK249 := Goto.bb BK249 hb; replace BK255 := Goto.bb BK255 hb; replace BK256 := Goto.bb BK256 hb; replace HB := Goto.hs HB hb
             (try clear hb)
             (try clear hb2)
             (try clear hk)
             (try clear hi)
             (try simp only [errW_none, errW_some])
             refine hK.out _ _ ⟨(blk_cell BK249.out 0).trans rfl, (blk_cell BK249.out 1).trans rfl, (blk_cell BK249.out 2).trans rfl, (blk_cell BK249.out 3).trans rfl⟩ (fun hHeld => ?_)
             clear hK K
             refine norm_ (a' := ?_) ?_ ?_
             rotate_left
             ·
              show Act.put _ (some 54) _ = _
              exact Goto.ap
             refine pure_ (i := 9) (N := some 55) (v := ?_) (a' := ?_) (Goto.bs 12 1023) rfl rfl (any_of HT_.out (by kernel_rfl)) (fun _ _ _ h => h) (Or.inl ⟨by rfl, ?_⟩) ?_ ?_
             rotate_left
             ·
              intro w'
              go_simp
              with_reducible rfl
             rotate_left
             ·
              exact Goto.ap
             refine pure_ (i := 10) (N := some 11) (v := ?_) (a' := ?_) (Goto.bs 12 2047) rfl rfl (any_of HT_.out (by kernel_rfl)) (fun _ _ _ h => h) (Or.inl ⟨by rfl, ?_⟩) ?_ ?_
             rotate_left
             ·
              intro w'
              go_simp
              with_reducible rfl
             rotate_left
             ·
              exact Goto.ap
             refine pure_ (i := 11) (N := some 12) (v := ?_) (a' := ?_) (Goto.bs 12 4095) rfl rfl (any_of HT_.out (by kernel_rfl)) (fun _ _ _ h => h) (Or.inl ⟨by rfl, ?_⟩) ?_ ?_
             rotate_left
             ·
              intro w'
              go_simp
              with_reducible rfl
             rotate_left
             ·
              exact Goto.ap
             refine done_ (done_of HT_.out (by kernel_rfl)) ?_
             try go_wp2
             go_meet
             case rel => exact ⟨_, (false), (true), (by first | rfl | (simp; done) | (simp [*]; done)), (by first | rfl | (simp; done) | (simp [*]; done)), H', ⟨by have := HJ5.out; first | omega | exact Nat.le_refl _⟩, ⟨Goto.bx BK249⟩, ⟨Goto.bx BK255⟩, ⟨Goto.bx BK256⟩, ⟨Goto.hx HB⟩⟩
            ·
             have H1 : (tontinelaw20_CheckFlows.j1 kj5 ji20 ji23 false false a0_0 a0_1 l0_2 l0_3 ((rd_T44 l0_3 (ji20)).f0.f0) ((rd_T44 l0_3 (ji20)).f0.f1) ((rd_T44 l0_3 (ji23)).f0.f0) ((rd_T44 l0_3 (ji23)).f0.f1)) = some r := by rw [if_neg (show ¬ (some q262).isNone = true by simp)] at H; exact H
             clear H; have H := H1; clear H1
             try simp only [errW_none, errW_some]
             have H' := Goto.m0 H
             clear H
             try go_wp2
             have n0_ : Aside0 (((((w31.setCell ⟨gb255, 0, none⟩ (.int .i64 ((rd_T44 l0_3 (ji20)).f0.f0))).setCell ⟨gb255, 1, none⟩ (.int .u64 ((rd_T44 l0_3 (ji20)).f0.f1))).setCell ⟨gb256, 0, none⟩ (.int .i64 ((rd_T44 l0_3 (ji23)).f0.f0))).setCell ⟨gb256, 1, none⟩ (.int .u64 ((rd_T44 l0_3 (ji23)).f0.f1))).heap[gb249]? = some (.cells #[.int .i64 a0_0, .int .i64 a0_1, .slice A0_2 l0_2.length c0_2, .slice (some ad253) l0_3.length c0_3] 25 (0, 0))) := ⟨Goto.bx BK249⟩
             have n1_ : Aside0 (((((w31.setCell ⟨gb255, 0, none⟩ (.int .i64 ((rd_T44 l0_3 (ji20)).f0.f0))).setCell ⟨gb255, 1, none⟩ (.int .u64 ((rd_T44 l0_3 (ji20)).f0.f1))).setCell ⟨gb256, 0, none⟩ (.int .i64 ((rd_T44 l0_3 (ji23)).f0.f0))).setCell ⟨gb256, 1, none⟩ (.int .u64 ((rd_T44 l0_3 (ji23)).f0.f1))).heap[gb255]? = some (.cells #[.int .i64 ((rd_T44 l0_3 (ji20)).f0.f0), .int .u64 ((rd_T44 l0_3 (ji20)).f0.f1)] 42 (0, 0))) := ⟨Goto.bx BK255⟩
             have n2_ : Aside0 (((((w31.setCell ⟨gb255, 0, none⟩ (.int .i64 ((rd_T44 l0_3 (ji20)).f0.f0))).setCell ⟨gb255, 1, none⟩ (.int .u64 ((rd_T44 l0_3 (ji20)).f0.f1))).setCell ⟨gb256, 0, none⟩ (.int .i64 ((rd_T44 l0_3 (ji23)).f0.f0))).setCell ⟨gb256, 1, none⟩ (.int .u64 ((rd_T44 l0_3 (ji23)).f0.f1))).heap[gb256]? = some (.cells #[.int .i64 ((rd_T44 l0_3 (ji23)).f0.f0), .int .u64 ((rd_T44 l0_3 (ji23)).f0.f1)] 42 (0, 0))) := ⟨Goto.bx BK256⟩
             have n3_ : Aside0 (Below w.heap.size w ((((w31.setCell ⟨gb255, 0, none⟩ (.int .i64 ((rd_T44 l0_3 (ji20)).f0.f0))).setCell ⟨gb255, 1, none⟩ (.int .u64 ((rd_T44 l0_3 (ji20)).f0.f1))).setCell ⟨gb256, 0, none⟩ (.int .i64 ((rd_T44 l0_3 (ji23)).f0.f0))).setCell ⟨gb256, 1, none⟩ (.int .u64 ((rd_T44 l0_3 (ji23)).f0.f1)))) := ⟨Goto.hx HB⟩
             (try clear BK249)
             (try clear BK255)
             (try clear BK256)
             (try clear HB)
             generalize ((((w31.setCell ⟨gb255, 0, none⟩ (.int .i64 ((rd_T44 l0_3 (ji20)).f0.f0))).setCell ⟨gb255, 1, none⟩ (.int .u64 ((rd_T44 l0_3 (ji20)).f0.f1))).setCell ⟨gb256, 0, none⟩ (.int .i64 ((rd_T44 l0_3 (ji23)).f0.f0))).setCell ⟨gb256, 1, none⟩ (.int .u64 ((rd_T44 l0_3 (ji23)).f0.f1))) = w51 at n0_ n1_ n2_ n3_ ⊢
             have BK249 := n0_; have BK255 := n1_; have BK256 := n2_; have HB := n3_; clear n0_ n1_ n2_ n3_
             replace BK249 := Goto.m0 (blk_drew BK249.out); replace BK255 := Goto.m0 (blk_drew BK255.out); replace BK256 := Goto.m0 (blk_drew BK256.out); replace HB := Goto.m0 (below_drew1 HB.out)
             refine start_ (n := 12) (S := fun w' => w'.cell? ⟨gb249, 0, none⟩ = some (.int .i64 a0_0) ∧ w'.cell? ⟨gb249, 1, none⟩ = some (.int .i64 a0_1) ∧ w'.cell? ⟨gb249, 2, none⟩ = some (.slice A0_2 l0_2.length c0_2) ∧ w'.cell? ⟨gb249, 3, none⟩ = some (.slice (some ad253) l0_3.length c0_3)) (ds := []) (.replicate 12 false) (by kernel_rfl) rfl rfl ⟨(blk_cell BK249.out 0).trans rfl, (blk_cell BK249.out 1).trans rfl, (blk_cell BK249.out 2).trans rfl, (blk_cell BK249.out 3).trans rfl⟩ (fun hHeld => ?_); refine with_tabW tontinelaw20_CheckFlows.tab7 tontinelaw20_CheckFlows.bits7 (fun HT_ HW_ => ?_)
             generalize w51.drew = w52 at BK249 BK255 BK256 HB hHeld ⊢
             refine pure_ (i := 1) (N := some 47) (v := ?_) (a' := ?_) (Goto.bs 12 2) rfl rfl (any_of HT_.out (by kernel_rfl)) (fun _ _ _ h => h) (Or.inl ⟨by rfl, ?_⟩) ?_ ?_
             rotate_left
             ·
              intro w'
              go_simp
              with_reducible rfl
             rotate_left
             ·
              exact Goto.ap
             refine pure_ (i := 2) (N := some 48) (v := ?_) (a' := ?_) (Goto.bs 12 6) rfl rfl (any_of HT_.out (by kernel_rfl)) (fun _ _ _ h => h) (Or.inl ⟨by rfl, ?_⟩) ?_ ?_
             rotate_left
             ·
              intro w'
              go_simp
              with_reducible rfl
             rotate_left
             ·
              exact Goto.ap
             refine pure_ (i := 6) (N := some 52) (v := ?_) (a' := ?_) (Goto.bs 12 70) rfl rfl (any_of HT_.out (by kernel_rfl)) (fun _ _ _ h => h) (Or.inl ⟨by rfl, ?_⟩) ?_ ?_
             rotate_left
             ·
              intro w'
              go_simp
              with_reducible rfl
             rotate_left
             ·
              exact Goto.ap
             refine pure_ (i := 7) (N := some 53) (v := ?_) (a' := ?_) (Goto.bs 12 198) rfl rfl (any_of HT_.out (by kernel_rfl)) (fun _ _ _ h => h) (Or.inl ⟨by rfl, ?_⟩) ?_ ?_
             rotate_left
             ·
              intro w'
              go_simp
              with_reducible rfl
             rotate_left
             ·
              exact Goto.ap
             refine take_ (i := 0) (N := some 46) (v := ?_) (a' := ?_) (Goto.bs 12 199) rfl rfl (take_ofW HT_.out HW_.out (by kernel_rfl)) (fun _ _ _ h => h) (Or.inl ⟨by rfl, ?_⟩) hHeld ?_ ?_
             rotate_left
             ·
              rintro w' ⟨s0, s1, s2, s3⟩
              go_simp
              with_reducible rfl
             rotate_left
             ·
              exact Goto.ap
             refine take_ (i := 5) (N := some 51) (v := ?_) (a' := ?_) (Goto.bs 12 231) rfl rfl (take_ofW HT_.out HW_.out (by kernel_rfl)) (fun _ _ _ h => h) (Or.inl ⟨by rfl, ?_⟩) hHeld ?_ ?_
             rotate_left
             ·
              rintro w' ⟨s0, s1, s2, s3⟩
              go_simp
              with_reducible rfl
             rotate_left
             ·
              exact Goto.ap
             refine one_ (i := 3) (N := some 49) (Goto.bs 12 239) rfl rfl (one_of HT_.out (by kernel_rfl)) (by decide) (fun K hK => ?_)
             refine goes_ Try.func27 (by kernel_rfl) rfl #[.agg #[.int .i64 a0_0, .int .i64 a0_1, .slice A0_2 l0_2.length c0_2, .slice (some ad253) l0_3.length c0_3], .int .i64 ji20, .int .i64 ji23] (by rfl) rfl rfl (by (try simp only [List.map_toArray, List.map_cons, List.map_nil]); first | done | (simp only [hji20, hji23]; rfl) | rfl | (simp only [List.length_drop, List.length_take]; rfl)) ?_
             with_reducible refine (check_Read.calls kj5 a0_0 a0_1 _ _ l0_2 _ _ l0_3 ji20 ji23 (some q258) _ ?side1 ?side2 ?side3 ?side4 A36.out).mono ?_
             (case side1 => repeat (first | exact (Kd.C_below HR0_2.out HB.out) | (with_reducible refine Kd.C_alloc ?_ _) | (with_reducible refine Kd.C_drewN ?_ _) | (with_reducible refine Kd.C_drew ?_)))
             (case side2 => exact HC0_2.out)
             (case side3 => repeat (first | exact (Kd.C_below HR0_3.out HB.out) | (with_reducible refine Kd.C_alloc ?_ _) | (with_reducible refine Kd.C_drewN ?_ _) | (with_reducible refine Kd.C_drew ?_)))
             (case side4 => exact HC0_3.out)
             rintro e w53 ⟨rfl, hb⟩
             refine ⟨_, rfl, ?_⟩
             replace BK249 := Goto.bb BK249 hb; replace BK255 := Goto.bb BK255 hb; replace BK256 := Goto.bb BK256 hb; replace HB := Goto.hs HB hb
             (try clear hb)
             (try clear hb2)
             (try clear hk)
             (try clear hi)
             (try simp only [errW_none, errW_some])
             refine hK.out _ _ ⟨(blk_cell BK249.out 0).trans rfl, (blk_cell BK249.out 1).trans rfl, (blk_cell BK249.out 2).trans rfl, (blk_cell BK249.out 3).trans rfl⟩ (fun hHeld => ?_)
             clear hK K
             refine norm_ (a' := ?_) ?_ ?_
             rotate_left
             ·
              show Act.put _ (some 49) _ = _
              exact Goto.ap
             refine pure_ (i := 4) (N := some 50) (v := ?_) (a' := ?_) (Goto.bs 12 255) rfl rfl (any_of HT_.out (by kernel_rfl)) (fun _ _ _ h => h) (Or.inl ⟨by rfl, ?_⟩) ?_ ?_
             rotate_left
             ·
              intro w'
              go_simp
              with_reducible rfl
             rotate_left
             ·
              exact Goto.ap
             refine one_ (i := 8) (N := some 54) (Goto.bs 12 511) rfl rfl (one_of HT_.out (by kernel_rfl)) (by decide) (fun K hK => ?_)
             refine goes_ Try.func28 (by kernel_rfl) rfl #[.agg #[.int .i64 a0_0, .int .i64 a0_1, .slice A0_2 l0_2.length c0_2, .slice (some ad253) l0_3.length c0_3], .int .i64 ji23, .int .i64 ji20] (by rfl) rfl rfl (by (try simp only [List.map_toArray, List.map_cons, List.map_nil]); first | done | (simp only [hji20, hji23]; rfl) | rfl | (simp only [List.length_drop, List.length_take]; rfl)) ?_
             with_reducible refine (check_Send.calls kj5 a0_0 a0_1 _ _ l0_2 _ _ l0_3 ji23 ji20 (some q262) _ ?side1 ?side2 ?side3 ?side4 A46.out).mono ?_
             (case side1 => repeat (first | exact (Kd.C_below HR0_2.out HB.out) | (with_reducible refine Kd.C_alloc ?_ _) | (with_reducible refine Kd.C_drewN ?_ _) | (with_reducible refine Kd.C_drew ?_)))
             (case side2 => exact HC0_2.out)
             (case side3 => repeat (first | exact (Kd.C_below HR0_3.out HB.out) | (with_reducible refine Kd.C_alloc ?_ _) | (with_reducible refine Kd.C_drewN ?_ _) | (with_reducible refine Kd.C_drew ?_)))
             (case side4 => exact HC0_3.out)
             rintro e w54 ⟨rfl, hb⟩
             refine ⟨_, rfl, ?_⟩
             replace BK249 := Goto.bb BK249 hb; replace BK255 := Goto.bb BK255 hb; replace BK256 := Goto.bb BK256 hb; replace HB := Goto.hs HB hb
             (try clear hb)
             (try clear hb2)
             (try clear hk)
             (try clear hi)
             (try simp only [errW_none, errW_some])
             refine hK.out _ _ ⟨(blk_cell BK249.out 0).trans rfl, (blk_cell BK249.out 1).trans rfl, (blk_cell BK249.out 2).trans rfl, (blk_cell BK249.out 3).trans rfl⟩ (fun hHeld => ?_)
             clear hK K
             refine norm_ (a' := ?_) ?_ ?_
             rotate_left
             ·
              show Act.put _ (some 54) _ = _
              exact Goto.ap
             refine pure_ (i := 9) (N := some 55) (v := ?_) (a' := ?_) (Goto.bs 12 1023) rfl rfl (any_of HT_.out (by kernel_rfl)) (fun _ _ _ h => h) (Or.inl ⟨by rfl, ?_⟩) ?_ ?_
             rotate_left
             ·
              intro w'
              go_simp
              with_reducible rfl
             rotate_left
             ·
              exact Goto.ap
             refine pure_ (i := 10) (N := some 11) (v := ?_) (a' := ?_) (Goto.bs 12 2047) rfl rfl (any_of HT_.out (by kernel_rfl)) (fun _ _ _ h => h) (Or.inl ⟨by rfl, ?_⟩) ?_ ?_
             rotate_left
             ·
              intro w'
              go_simp
              with_reducible rfl
             rotate_left
             ·
              exact Goto.ap
             refine pure_ (i := 11) (N := some 12) (v := ?_) (a' := ?_) (Goto.bs 12 4095) rfl rfl (any_of HT_.out (by kernel_rfl)) (fun _ _ _ h => h) (Or.inl ⟨by rfl, ?_⟩) ?_ ?_
             rotate_left
             ·
              intro w'
              go_simp
              with_reducible rfl
             rotate_left
             ·
              exact Goto.ap
             refine done_ (done_of HT_.out (by kernel_rfl)) ?_
             try go_wp2
             go_meet
             case rel => exact ⟨_, (false), (false), (by first | rfl | (simp; done) | (simp [*]; done)), (by first | rfl | (simp; done) | (simp [*]; done)), H', ⟨by have := HJ5.out; first | omega | exact Nat.le_refl _⟩, ⟨Goto.bx BK249⟩, ⟨Goto.bx BK255⟩, ⟨Goto.bx BK256⟩, ⟨Goto.hx HB⟩⟩
          case rest =>
           clear HC26; try clear c2; try clear p2; try clear q2; try clear q25; try clear q26; try clear c27; try clear c28; try clear q258; try clear q260; try clear q262
           obtain ⟨kq, x11_25, x12_25, rfl, rfl, HA, HJ25, BK249, BK255, BK256, HB⟩ := hcut
           cases kq with
           | zero => exact absurd HA.out (by simp [tontinelaw20_CheckFlows.j1])
           | succ kj25 =>
            have H := HA.out; clear HA
            simp only [tontinelaw20_CheckFlows.j1] at H
            by_cases c55 : (x11_25 == x12_25) = true
            ·
             rw [if_pos c55] at H
             have c55b0 : (x11_25 == x12_25) = true := c55
             (try (have c55b1 : decide (x11_25 = x12_25) = true := by simpa using c55))
             (try (have c55b2 : (x11_25 == x12_25) = true := by simpa using c55))
             clear c55
             replace H := Option.bind_eq_some_iff.mp H
             obtain ⟨t263, A560, H⟩ := H
             have A56 := Goto.m0 A560
             clear A560
             by_cases c57 : (x11_25 == t263) = true
             ·
              rw [if_pos c57] at H
              have c57b0 : (x11_25 == t263) = true := c57
              (try (have c57b1 : decide (x11_25 = t263) = true := by simpa using c57))
              (try (have c57b2 : (x11_25 == t263) = true := by simpa using c57))
              clear c57
              by_cases c58 : x11_25 = true
              ·
               subst c58
               rw [if_pos rfl] at H
               replace H := Option.bind_eq_some_iff.mp H
               obtain ⟨t264, A590, H⟩ := H
               have A59 := Goto.m0 A590
               clear A590
               rcases t264 with _ | q265
               ·
                have H1 : (some (true == (((rd_T44 l0_3 (ji20)).f0.f0) == ((rd_T44 l0_3 (ji23)).f0.f0) && (((rd_T44 l0_3 (ji20)).f0.f1) == ((rd_T44 l0_3 (ji23)).f0.f1))))) = some r := by rw [if_pos (show (none : Option Int).isNone = true by rfl)] at H; exact H
                clear H; have H := H1; clear H1
                try simp only [errW_none, errW_some]
                obtain rfl := Option.some.inj H
                try go_wp2
                replace BK249 := Goto.m0 (blk_drew BK249.out); replace BK255 := Goto.m0 (blk_drew BK255.out); replace BK256 := Goto.m0 (blk_drew BK256.out); replace HB := Goto.m0 (below_drew1 HB.out)
                refine start_ (n := 25) (S := fun w' => w'.cell? ⟨gb256, 0, none⟩ = some (.int .i64 ((rd_T44 l0_3 (ji23)).f0.f0)) ∧ w'.cell? ⟨gb256, 1, none⟩ = some (.int .u64 ((rd_T44 l0_3 (ji23)).f0.f1)) ∧ w'.cell? ⟨gb255, 0, none⟩ = some (.int .i64 ((rd_T44 l0_3 (ji20)).f0.f0)) ∧ w'.cell? ⟨gb255, 1, none⟩ = some (.int .u64 ((rd_T44 l0_3 (ji20)).f0.f1)) ∧ w'.cell? ⟨gb249, 0, none⟩ = some (.int .i64 a0_0) ∧ w'.cell? ⟨gb249, 1, none⟩ = some (.int .i64 a0_1) ∧ w'.cell? ⟨gb249, 2, none⟩ = some (.slice A0_2 l0_2.length c0_2) ∧ w'.cell? ⟨gb249, 3, none⟩ = some (.slice (some ad253) l0_3.length c0_3)) (ds := []) (.replicate 25 false) (by kernel_rfl) rfl rfl ⟨(blk_cell BK256.out 0).trans rfl, (blk_cell BK256.out 1).trans rfl, (blk_cell BK255.out 0).trans rfl, (blk_cell BK255.out 1).trans rfl, (blk_cell BK249.out 0).trans rfl, (blk_cell BK249.out 1).trans rfl, (blk_cell BK249.out 2).trans rfl, (blk_cell BK249.out 3).trans rfl⟩ (fun hHeld => ?_); refine with_tabW tontinelaw20_CheckFlows.tab8 tontinelaw20_CheckFlows.bits8 (fun HT_ HW_ => ?_)
                generalize wc.drew = w60 at BK249 BK255 BK256 HB hHeld ⊢
                refine pure_ (i := 0) (N := some 56) (v := ?_) (a' := ?_) (Goto.bs 25 1) rfl rfl (any_of HT_.out (by kernel_rfl)) (fun _ _ _ h => h) (Or.inl ⟨by rfl, ?_⟩) ?_ ?_
                rotate_left
                ·
                 intro w'
                 go_simp
                 with_reducible rfl
                rotate_left
                ·
                 exact Goto.ap
                refine pure_ (i := 1) (N := some 57) (v := ?_) (a' := ?_) (Goto.bs 25 3) rfl rfl (any_of HT_.out (by kernel_rfl)) (fun _ _ _ h => h) (Or.inl ⟨by rfl, ?_⟩) ?_ ?_
                rotate_left
                ·
                 intro w'
                 go_simp
                 with_reducible rfl
                rotate_left
                ·
                 exact Goto.ap
                refine pure_ (i := 2) (N := some 58) (v := ?_) (a' := ?_) (Goto.bs 25 7) rfl rfl (any_of HT_.out (by kernel_rfl)) (fun _ _ _ h => h) (Or.inl ⟨by rfl, ?_⟩) ?_ ?_
                rotate_left
                ·
                 intro w'
                 go_simp
                 with_reducible rfl
                rotate_left
                ·
                 exact Goto.ap
                refine pure_ (i := 3) (N := some 59) (v := ?_) (a' := ?_) (Goto.bs 25 15) rfl rfl (any_of HT_.out (by kernel_rfl)) (fun _ _ _ h => h) (Or.inl ⟨by rfl, ?_⟩) ?_ ?_
                rotate_left
                ·
                 intro w'
                 go_simp
                 with_reducible rfl
                rotate_left
                ·
                 exact Goto.ap
                refine pure_ (i := 4) (N := some 60) (v := ?_) (a' := ?_) (Goto.bs 25 31) rfl rfl (any_of HT_.out (by kernel_rfl)) (fun _ _ _ h => h) (Or.inl ⟨by rfl, ?_⟩) ?_ ?_
                rotate_left
                ·
                 intro w'
                 go_simp
                 with_reducible rfl
                rotate_left
                ·
                 exact Goto.ap
                refine take_ (i := 5) (N := some 61) (v := ?_) (a' := ?_) (Goto.bs 25 63) rfl rfl (take_ofW HT_.out HW_.out (by kernel_rfl)) (fun _ _ _ h => h) (Or.inl ⟨by rfl, ?_⟩) hHeld ?_ ?_
                rotate_left
                ·
                 rintro w' ⟨s0, s1, s2, s3, s4, s5, s6, s7⟩
                 go_simp
                 with_reducible rfl
                rotate_left
                ·
                 exact Goto.ap
                refine take_ (i := 6) (N := some 62) (v := ?_) (a' := ?_) (Goto.bs 25 127) rfl rfl (take_ofW HT_.out HW_.out (by kernel_rfl)) (fun _ _ _ h => h) (Or.inl ⟨by rfl, ?_⟩) hHeld ?_ ?_
                rotate_left
                ·
                 rintro w' ⟨s0, s1, s2, s3, s4, s5, s6, s7⟩
                 go_simp
                 with_reducible rfl
                rotate_left
                ·
                 exact Goto.ap
                refine one_ (i := 7) (N := some 63) (Goto.bs 25 255) rfl rfl (one_of HT_.out (by kernel_rfl)) (by decide) (fun K hK => ?_)
                refine goes_ Try.func29 (by kernel_rfl) rfl #[.agg #[.int .i64 ((rd_T44 l0_3 (ji23)).f0.f0), .int .u64 ((rd_T44 l0_3 (ji23)).f0.f1)], .agg #[.int .i64 ((rd_T44 l0_3 (ji20)).f0.f0), .int .u64 ((rd_T44 l0_3 (ji20)).f0.f1)]] (by rfl) rfl rfl (by (try simp only [List.map_toArray, List.map_cons, List.map_nil]); first | done | (simp only [hji20, hji23]; rfl) | rfl | (simp only [List.length_drop, List.length_take]; rfl)) ?_
                with_reducible refine (tontineref1_Leq.calls ((rd_T44 l0_3 (ji23)).f0.f0) ((rd_T44 l0_3 (ji23)).f0.f1) ((rd_T44 l0_3 (ji20)).f0.f0) ((rd_T44 l0_3 (ji20)).f0.f1) t263 _ A56.out).mono ?_
                rintro e w61 ⟨rfl, hb⟩
                refine ⟨_, rfl, ?_⟩
                replace BK249 := Goto.bb BK249 hb; replace BK255 := Goto.bb BK255 hb; replace BK256 := Goto.bb BK256 hb; replace HB := Goto.hs HB hb
                (try clear hb)
                (try clear hb2)
                (try clear hk)
                (try clear hi)
                refine hK.out _ _ ⟨(blk_cell BK256.out 0).trans rfl, (blk_cell BK256.out 1).trans rfl, (blk_cell BK255.out 0).trans rfl, (blk_cell BK255.out 1).trans rfl, (blk_cell BK249.out 0).trans rfl, (blk_cell BK249.out 1).trans rfl, (blk_cell BK249.out 2).trans rfl, (blk_cell BK249.out 3).trans rfl⟩ (fun hHeld => ?_)
                clear hK K
                refine norm_ (a' := ?_) ?_ ?_
                rotate_left
                ·
                 show Act.put _ (some 63) _ = _
                 exact Goto.ap
                refine pure_ (i := 8) (N := some 64) (v := ?_) (a' := ?_) (Goto.bs 25 511) rfl rfl (any_of HT_.out (by kernel_rfl)) (fun _ _ _ h => h) (Or.inl ⟨by rfl, ?_⟩) ?_ ?_
                rotate_left
                ·
                 intro w'
                 go_simp
                 with_reducible rfl
                rotate_left
                ·
                 exact Goto.ap
                refine pure_ (i := 9) (N := some 65) (v := ?_) (a' := ?_) (Goto.bs 25 1023) rfl rfl (any_of HT_.out (by kernel_rfl)) (fun _ _ _ h => h) (Or.inl ⟨by rfl, ?_⟩) ?_ ?_
                rotate_left
                ·
                 intro w'
                 go_simp
                 with_reducible rfl
                rotate_left
                ·
                 exact Goto.ap
                refine pure_ (i := 10) (N := some 66) (v := ?_) (a' := ?_) (Goto.bs 25 2047) rfl rfl (any_of HT_.out (by kernel_rfl)) (fun _ _ _ h => h) (Or.inl ⟨by rfl, ?_⟩) ?_ ?_
                rotate_left
                ·
                 intro w'
                 go_simp
                 with_reducible rfl
                rotate_left
                ·
                 exact Goto.ap
                refine pure_ (i := 11) (N := some 67) (v := ?_) (a' := ?_) (Goto.bs 25 4095) rfl rfl (any_of HT_.out (by kernel_rfl)) (fun _ _ _ h => h) (Or.inl ⟨by rfl, ?_⟩) ?_ ?_
                rotate_left
                ·
                 intro w'
                 go_simp
                 with_reducible rfl
                rotate_left
                ·
                 exact Goto.ap
                refine pure_ (i := 12) (N := some 68) (v := ?_) (a' := ?_) (Goto.bs 25 8191) rfl rfl (any_of HT_.out (by kernel_rfl)) (fun _ _ _ h => h) (Or.inl ⟨by rfl, ?_⟩) ?_ ?_
                rotate_left
                ·
                 intro w'
                 go_simp
                 with_reducible rfl
                rotate_left
                ·
                 exact Goto.ap
                refine pure_ (i := 14) (N := some 70) (v := ?_) (a' := ?_) (Goto.bs 25 24575) rfl rfl (any_of HT_.out (by kernel_rfl)) (fun _ _ _ h => h) (Or.inl ⟨by rfl, ?_⟩) ?_ ?_
                rotate_left
                ·
                 intro w'
                 go_simp
                 with_reducible rfl
                rotate_left
                ·
                 exact Goto.ap
                refine pure_ (i := 15) (N := some 71) (v := ?_) (a' := ?_) (Goto.bs 25 57343) rfl rfl (any_of HT_.out (by kernel_rfl)) (fun _ _ _ h => h) (Or.inl ⟨by rfl, ?_⟩) ?_ ?_
                rotate_left
                ·
                 intro w'
                 go_simp
                 with_reducible rfl
                rotate_left
                ·
                 exact Goto.ap
                refine take_ (i := 13) (N := some 69) (v := ?_) (a' := ?_) (Goto.bs 25 65535) rfl rfl (take_ofW HT_.out HW_.out (by kernel_rfl)) (fun _ _ _ h => h) (Or.inl ⟨by rfl, ?_⟩) hHeld ?_ ?_
                rotate_left
                ·
                 rintro w' ⟨s0, s1, s2, s3, s4, s5, s6, s7⟩
                 go_simp
                 with_reducible rfl
                rotate_left
                ·
                 exact Goto.ap
                refine take_ (i := 19) (N := some 75) (v := ?_) (a' := ?_) (Goto.bs 25 589823) rfl rfl (take_ofW HT_.out HW_.out (by kernel_rfl)) (fun _ _ _ h => h) (Or.inl ⟨by rfl, ?_⟩) hHeld ?_ ?_
                rotate_left
                ·
                 rintro w' ⟨s0, s1, s2, s3, s4, s5, s6, s7⟩
                 go_simp
                 with_reducible rfl
                rotate_left
                ·
                 exact Goto.ap
                refine take_ (i := 20) (N := some 76) (v := ?_) (a' := ?_) (Goto.bs 25 1638399) rfl rfl (take_ofW HT_.out HW_.out (by kernel_rfl)) (fun _ _ _ h => h) (Or.inl ⟨by rfl, ?_⟩) hHeld ?_ ?_
                rotate_left
                ·
                 rintro w' ⟨s0, s1, s2, s3, s4, s5, s6, s7⟩
                 go_simp
                 with_reducible rfl
                rotate_left
                ·
                 exact Goto.ap
                refine pure_ (i := 21) (N := some 77) (v := ?_) (a' := ?_) (Goto.bs 25 3735551) rfl rfl (any_of HT_.out (by kernel_rfl)) (fun _ _ _ h => h) (Or.inl ⟨by rfl, ?_⟩) ?_ ?_
                rotate_left
                ·
                 intro w'
                 go_simp
                 with_reducible rfl
                rotate_left
                ·
                 exact Goto.ap
                refine one_ (i := 16) (N := some 72) (Goto.bs 25 3801087) rfl rfl (one_of HT_.out (by kernel_rfl)) (by decide) (fun K hK => ?_)
                refine goes_ Try.func27 (by kernel_rfl) rfl #[.agg #[.int .i64 a0_0, .int .i64 a0_1, .slice A0_2 l0_2.length c0_2, .slice (some ad253) l0_3.length c0_3], .int .i64 ji23, .int .i64 ji20] (by rfl) rfl rfl (by (try simp only [List.map_toArray, List.map_cons, List.map_nil]); first | done | (simp only [hji20, hji23]; rfl) | rfl | (simp only [List.length_drop, List.length_take]; rfl)) ?_
                with_reducible refine (check_Read.calls kj25 a0_0 a0_1 _ _ l0_2 _ _ l0_3 ji23 ji20 none _ ?side1 ?side2 ?side3 ?side4 A59.out).mono ?_
                (case side1 => repeat (first | exact (Kd.C_below HR0_2.out HB.out) | (with_reducible refine Kd.C_alloc ?_ _) | (with_reducible refine Kd.C_drewN ?_ _) | (with_reducible refine Kd.C_drew ?_)))
                (case side2 => exact HC0_2.out)
                (case side3 => repeat (first | exact (Kd.C_below HR0_3.out HB.out) | (with_reducible refine Kd.C_alloc ?_ _) | (with_reducible refine Kd.C_drewN ?_ _) | (with_reducible refine Kd.C_drew ?_)))
                (case side4 => exact HC0_3.out)
                rintro e w62 ⟨rfl, hb⟩
                refine ⟨_, rfl, ?_⟩
                replace BK249 := Goto.bb BK249 hb; replace BK255 := Goto.bb BK255 hb; replace BK256 := Goto.bb BK256 hb; replace HB := Goto.hs HB hb
                (try clear hb)
                (try clear hb2)
                (try clear hk)
                (try clear hi)
                (try simp only [errW_none, errW_some])
                refine hK.out _ _ ⟨(blk_cell BK256.out 0).trans rfl, (blk_cell BK256.out 1).trans rfl, (blk_cell BK255.out 0).trans rfl, (blk_cell BK255.out 1).trans rfl, (blk_cell BK249.out 0).trans rfl, (blk_cell BK249.out 1).trans rfl, (blk_cell BK249.out 2).trans rfl, (blk_cell BK249.out 3).trans rfl⟩ (fun hHeld => ?_)
                clear hK K
                refine norm_ (a' := ?_) ?_ ?_
                rotate_left
                ·
                 show Act.put _ (some 72) _ = _
                 exact Goto.ap
                refine pure_ (i := 17) (N := some 73) (v := ?_) (a' := ?_) (Goto.bs 25 3932159) rfl rfl (any_of HT_.out (by kernel_rfl)) (fun _ _ _ h => h) (Or.inl ⟨by rfl, ?_⟩) ?_ ?_
                rotate_left
                ·
                 intro w'
                 go_simp
                 with_reducible rfl
                rotate_left
                ·
                 exact Goto.ap
                refine pure_ (i := 18) (N := some 74) (v := ?_) (a' := ?_) (Goto.bs 25 4194303) rfl rfl (any_of HT_.out (by kernel_rfl)) (fun _ _ _ h => h) (Or.inl ⟨by rfl, ?_⟩) ?_ ?_
                rotate_left
                ·
                 intro w'
                 go_simp
                 with_reducible rfl
                rotate_left
                ·
                 exact Goto.ap
                refine pure_ (i := 22) (N := some 78) (v := ?_) (a' := ?_) (Goto.bs 25 8388607) rfl rfl (any_of HT_.out (by kernel_rfl)) (fun _ _ _ h => h) (Or.inl ⟨by rfl, ?_⟩) ?_ ?_
                rotate_left
                ·
                 intro w'
                 go_simp
                 with_reducible rfl
                rotate_left
                ·
                 exact Goto.ap
                refine pure_ (i := 23) (N := some 79) (v := ?_) (a' := ?_) (Goto.bs 25 16777215) rfl rfl (any_of HT_.out (by kernel_rfl)) (fun _ _ _ h => h) (Or.inl ⟨by rfl, ?_⟩) ?_ ?_
                rotate_left
                ·
                 intro w'
                 go_simp
                 with_reducible rfl
                rotate_left
                ·
                 exact Goto.ap
                refine pure_ (i := 24) (N := some 6) (v := ?_) (a' := ?_) (Goto.bs 25 33554431) rfl rfl (any_of HT_.out (by kernel_rfl)) (fun _ _ _ h => h) (Or.inl ⟨by rfl, ?_⟩) ?_ ?_
                rotate_left
                ·
                 intro w'
                 go_simp
                 with_reducible rfl
                rotate_left
                ·
                 exact Goto.ap
                refine done_ (done_of HT_.out (by kernel_rfl)) ?_
                try go_wp2
                go_ret
                exact ⟨by first | rfl | (simp [errW_none, errW_some] <;> rfl) | (simp only [← hji20, ← hji23]; first | rfl | (simp [errW_none, errW_some] <;> rfl)) | (simp [*, errW_none, errW_some] <;> rfl), by repeat (first | (with_reducible first | exact HB.out | apply below_alloc | apply pw_below_drewN | apply below_drew1 | refine below_set ?_ GE249.out | refine below_set ?_ GE255.out | refine below_set ?_ GE256.out) | exact HB.out)⟩
               ·
                have H1 : (some (false == (((rd_T44 l0_3 (ji20)).f0.f0) == ((rd_T44 l0_3 (ji23)).f0.f0) && (((rd_T44 l0_3 (ji20)).f0.f1) == ((rd_T44 l0_3 (ji23)).f0.f1))))) = some r := by rw [if_neg (show ¬ (some q265).isNone = true by simp)] at H; exact H
                clear H; have H := H1; clear H1
                try simp only [errW_none, errW_some]
                obtain rfl := Option.some.inj H
                try go_wp2
                replace BK249 := Goto.m0 (blk_drew BK249.out); replace BK255 := Goto.m0 (blk_drew BK255.out); replace BK256 := Goto.m0 (blk_drew BK256.out); replace HB := Goto.m0 (below_drew1 HB.out)
                refine start_ (n := 25) (S := fun w' => w'.cell? ⟨gb256, 0, none⟩ = some (.int .i64 ((rd_T44 l0_3 (ji23)).f0.f0)) ∧ w'.cell? ⟨gb256, 1, none⟩ = some (.int .u64 ((rd_T44 l0_3 (ji23)).f0.f1)) ∧ w'.cell? ⟨gb255, 0, none⟩ = some (.int .i64 ((rd_T44 l0_3 (ji20)).f0.f0)) ∧ w'.cell? ⟨gb255, 1, none⟩ = some (.int .u64 ((rd_T44 l0_3 (ji20)).f0.f1)) ∧ w'.cell? ⟨gb249, 0, none⟩ = some (.int .i64 a0_0) ∧ w'.cell? ⟨gb249, 1, none⟩ = some (.int .i64 a0_1) ∧ w'.cell? ⟨gb249, 2, none⟩ = some (.slice A0_2 l0_2.length c0_2) ∧ w'.cell? ⟨gb249, 3, none⟩ = some (.slice (some ad253) l0_3.length c0_3)) (ds := []) (.replicate 25 false) (by kernel_rfl) rfl rfl ⟨(blk_cell BK256.out 0).trans rfl, (blk_cell BK256.out 1).trans rfl, (blk_cell BK255.out 0).trans rfl, (blk_cell BK255.out 1).trans rfl, (blk_cell BK249.out 0).trans rfl, (blk_cell BK249.out 1).trans rfl, (blk_cell BK249.out 2).trans rfl, (blk_cell BK249.out 3).trans rfl⟩ (fun hHeld => ?_); refine with_tabW tontinelaw20_CheckFlows.tab8 tontinelaw20_CheckFlows.bits8 (fun HT_ HW_ => ?_)
                generalize wc.drew = w63 at BK249 BK255 BK256 HB hHeld ⊢
                refine pure_ (i := 0) (N := some 56) (v := ?_) (a' := ?_) (Goto.bs 25 1) rfl rfl (any_of HT_.out (by kernel_rfl)) (fun _ _ _ h => h) (Or.inl ⟨by rfl, ?_⟩) ?_ ?_
                rotate_left
                ·
                 intro w'
                 go_simp
                 with_reducible rfl
                rotate_left
                ·
                 exact Goto.ap
                refine pure_ (i := 1) (N := some 57) (v := ?_) (a' := ?_) (Goto.bs 25 3) rfl rfl (any_of HT_.out (by kernel_rfl)) (fun _ _ _ h => h) (Or.inl ⟨by rfl, ?_⟩) ?_ ?_
                rotate_left
                ·
                 intro w'
                 go_simp
                 with_reducible rfl
                rotate_left
                ·
                 exact Goto.ap
                refine pure_ (i := 2) (N := some 58) (v := ?_) (a' := ?_) (Goto.bs 25 7) rfl rfl (any_of HT_.out (by kernel_rfl)) (fun _ _ _ h => h) (Or.inl ⟨by rfl, ?_⟩) ?_ ?_
                rotate_left
                ·
                 intro w'
                 go_simp
                 with_reducible rfl
                rotate_left
                ·
                 exact Goto.ap
                refine pure_ (i := 3) (N := some 59) (v := ?_) (a' := ?_) (Goto.bs 25 15) rfl rfl (any_of HT_.out (by kernel_rfl)) (fun _ _ _ h => h) (Or.inl ⟨by rfl, ?_⟩) ?_ ?_
                rotate_left
                ·
                 intro w'
                 go_simp
                 with_reducible rfl
                rotate_left
                ·
                 exact Goto.ap
                refine pure_ (i := 4) (N := some 60) (v := ?_) (a' := ?_) (Goto.bs 25 31) rfl rfl (any_of HT_.out (by kernel_rfl)) (fun _ _ _ h => h) (Or.inl ⟨by rfl, ?_⟩) ?_ ?_
                rotate_left
                ·
                 intro w'
                 go_simp
                 with_reducible rfl
                rotate_left
                ·
                 exact Goto.ap
                refine take_ (i := 5) (N := some 61) (v := ?_) (a' := ?_) (Goto.bs 25 63) rfl rfl (take_ofW HT_.out HW_.out (by kernel_rfl)) (fun _ _ _ h => h) (Or.inl ⟨by rfl, ?_⟩) hHeld ?_ ?_
                rotate_left
                ·
                 rintro w' ⟨s0, s1, s2, s3, s4, s5, s6, s7⟩
                 go_simp
                 with_reducible rfl
                rotate_left
                ·
                 exact Goto.ap
                refine take_ (i := 6) (N := some 62) (v := ?_) (a' := ?_) (Goto.bs 25 127) rfl rfl (take_ofW HT_.out HW_.out (by kernel_rfl)) (fun _ _ _ h => h) (Or.inl ⟨by rfl, ?_⟩) hHeld ?_ ?_
                rotate_left
                ·
                 rintro w' ⟨s0, s1, s2, s3, s4, s5, s6, s7⟩
                 go_simp
                 with_reducible rfl
                rotate_left
                ·
                 exact Goto.ap
                refine one_ (i := 7) (N := some 63) (Goto.bs 25 255) rfl rfl (one_of HT_.out (by kernel_rfl)) (by decide) (fun K hK => ?_)
                refine goes_ Try.func29 (by kernel_rfl) rfl #[.agg #[.int .i64 ((rd_T44 l0_3 (ji23)).f0.f0), .int .u64 ((rd_T44 l0_3 (ji23)).f0.f1)], .agg #[.int .i64 ((rd_T44 l0_3 (ji20)).f0.f0), .int .u64 ((rd_T44 l0_3 (ji20)).f0.f1)]] (by rfl) rfl rfl (by (try simp only [List.map_toArray, List.map_cons, List.map_nil]); first | done | (simp only [hji20, hji23]; rfl) | rfl | (simp only [List.length_drop, List.length_take]; rfl)) ?_
                with_reducible refine (tontineref1_Leq.calls ((rd_T44 l0_3 (ji23)).f0.f0) ((rd_T44 l0_3 (ji23)).f0.f1) ((rd_T44 l0_3 (ji20)).f0.f0) ((rd_T44 l0_3 (ji20)).f0.f1) t263 _ A56.out).mono ?_
                rintro e w64 ⟨rfl, hb⟩
                refine ⟨_, rfl, ?_⟩
                replace BK249 := Goto.bb BK249 hb; replace BK255 := Goto.bb BK255 hb; replace BK256 := Goto.bb BK256 hb; replace HB := Goto.hs HB hb
                (try clear hb)
                (try clear hb2)
                (try clear hk)
                (try clear hi)
                refine hK.out _ _ ⟨(blk_cell BK256.out 0).trans rfl, (blk_cell BK256.out 1).trans rfl, (blk_cell BK255.out 0).trans rfl, (blk_cell BK255.out 1).trans rfl, (blk_cell BK249.out 0).trans rfl, (blk_cell BK249.out 1).trans rfl, (blk_cell BK249.out 2).trans rfl, (blk_cell BK249.out 3).trans rfl⟩ (fun hHeld => ?_)
                clear hK K
                refine norm_ (a' := ?_) ?_ ?_
                rotate_left
                ·
                 show Act.put _ (some 63) _ = _
                 exact Goto.ap
                refine pure_ (i := 8) (N := some 64) (v := ?_) (a' := ?_) (Goto.bs 25 511) rfl rfl (any_of HT_.out (by kernel_rfl)) (fun _ _ _ h => h) (Or.inl ⟨by rfl, ?_⟩) ?_ ?_
                rotate_left
                ·
                 intro w'
                 go_simp
                 with_reducible rfl
                rotate_left
                ·
                 exact Goto.ap
                refine pure_ (i := 9) (N := some 65) (v := ?_) (a' := ?_) (Goto.bs 25 1023) rfl rfl (any_of HT_.out (by kernel_rfl)) (fun _ _ _ h => h) (Or.inl ⟨by rfl, ?_⟩) ?_ ?_
                rotate_left
                ·
                 intro w'
                 go_simp
                 with_reducible rfl
                rotate_left
                ·
                 exact Goto.ap
                refine pure_ (i := 10) (N := some 66) (v := ?_) (a' := ?_) (Goto.bs 25 2047) rfl rfl (any_of HT_.out (by kernel_rfl)) (fun _ _ _ h => h) (Or.inl ⟨by rfl, ?_⟩) ?_ ?_
                rotate_left
                ·
                 intro w'
                 go_simp
                 with_reducible rfl
                rotate_left
                ·
                 exact Goto.ap
                refine pure_ (i := 11) (N := some 67) (v := ?_) (a' := ?_) (Goto.bs 25 4095) rfl rfl (any_of HT_.out (by kernel_rfl)) (fun _ _ _ h => h) (Or.inl ⟨by rfl, ?_⟩) ?_ ?_
                rotate_left
                ·
                 intro w'
                 go_simp
                 with_reducible rfl
                rotate_left
                ·
                 exact Goto.ap
                refine pure_ (i := 12) (N := some 68) (v := ?_) (a' := ?_) (Goto.bs 25 8191) rfl rfl (any_of HT_.out (by kernel_rfl)) (fun _ _ _ h => h) (Or.inl ⟨by rfl, ?_⟩) ?_ ?_
                rotate_left
                ·
                 intro w'
                 go_simp
                 with_reducible rfl
                rotate_left
                ·
                 exact Goto.ap
                refine pure_ (i := 14) (N := some 70) (v := ?_) (a' := ?_) (Goto.bs 25 24575) rfl rfl (any_of HT_.out (by kernel_rfl)) (fun _ _ _ h => h) (Or.inl ⟨by rfl, ?_⟩) ?_ ?_
                rotate_left
                ·
                 intro w'
                 go_simp
                 with_reducible rfl
                rotate_left
                ·
                 exact Goto.ap
                refine pure_ (i := 15) (N := some 71) (v := ?_) (a' := ?_) (Goto.bs 25 57343) rfl rfl (any_of HT_.out (by kernel_rfl)) (fun _ _ _ h => h) (Or.inl ⟨by rfl, ?_⟩) ?_ ?_
                rotate_left
                ·
                 intro w'
                 go_simp
                 with_reducible rfl
                rotate_left
                ·
                 exact Goto.ap
                refine take_ (i := 13) (N := some 69) (v := ?_) (a' := ?_) (Goto.bs 25 65535) rfl rfl (take_ofW HT_.out HW_.out (by kernel_rfl)) (fun _ _ _ h => h) (Or.inl ⟨by rfl, ?_⟩) hHeld ?_ ?_
                rotate_left
                ·
                 rintro w' ⟨s0, s1, s2, s3, s4, s5, s6, s7⟩
                 go_simp
                 with_reducible rfl
                rotate_left
                ·
                 exact Goto.ap
                refine take_ (i := 19) (N := some 75) (v := ?_) (a' := ?_) (Goto.bs 25 589823) rfl rfl (take_ofW HT_.out HW_.out (by kernel_rfl)) (fun _ _ _ h => h) (Or.inl ⟨by rfl, ?_⟩) hHeld ?_ ?_
                rotate_left
                ·
                 rintro w' ⟨s0, s1, s2, s3, s4, s5, s6, s7⟩
                 go_simp
                 with_reducible rfl
                rotate_left
                ·
                 exact Goto.ap
                refine take_ (i := 20) (N := some 76) (v := ?_) (a' := ?_) (Goto.bs 25 1638399) rfl rfl (take_ofW HT_.out HW_.out (by kernel_rfl)) (fun _ _ _ h => h) (Or.inl ⟨by rfl, ?_⟩) hHeld ?_ ?_
                rotate_left
                ·
                 rintro w' ⟨s0, s1, s2, s3, s4, s5, s6, s7⟩
                 go_simp
                 with_reducible rfl
                rotate_left
                ·
                 exact Goto.ap
                refine pure_ (i := 21) (N := some 77) (v := ?_) (a' := ?_) (Goto.bs 25 3735551) rfl rfl (any_of HT_.out (by kernel_rfl)) (fun _ _ _ h => h) (Or.inl ⟨by rfl, ?_⟩) ?_ ?_
                rotate_left
                ·
                 intro w'
                 go_simp
                 with_reducible rfl
                rotate_left
                ·
                 exact Goto.ap
                refine one_ (i := 16) (N := some 72) (Goto.bs 25 3801087) rfl rfl (one_of HT_.out (by kernel_rfl)) (by decide) (fun K hK => ?_)
                refine goes_ Try.func27 (by kernel_rfl) rfl #[.agg #[.int .i64 a0_0, .int .i64 a0_1, .slice A0_2 l0_2.length c0_2, .slice (some ad253) l0_3.length c0_3], .int .i64 ji23, .int .i64 ji20] (by rfl) rfl rfl (by (try simp only [List.map_toArray, List.map_cons, List.map_nil]); first | done | (simp only [hji20, hji23]; rfl) | rfl | (simp only [List.length_drop, List.length_take]; rfl)) ?_
                with_reducible refine (check_Read.calls kj25 a0_0 a0_1 _ _ l0_2 _ _ l0_3 ji23 ji20 (some q265) _ ?side1 ?side2 ?side3 ?side4 A59.out).mono ?_
                (case side1 => repeat (first | exact (Kd.C_below HR0_2.out HB.out) | (with_reducible refine Kd.C_alloc ?_ _) | (with_reducible refine Kd.C_drewN ?_ _) | (with_reducible refine Kd.C_drew ?_)))
                (case side2 => exact HC0_2.out)
                (case side3 => repeat (first | exact (Kd.C_below HR0_3.out HB.out) | (with_reducible refine Kd.C_alloc ?_ _) | (with_reducible refine Kd.C_drewN ?_ _) | (with_reducible refine Kd.C_drew ?_)))
                (case side4 => exact HC0_3.out)
                rintro e w65 ⟨rfl, hb⟩
                refine ⟨_, rfl, ?_⟩
                replace BK249 := Goto.bb BK249 hb; replace BK255 := Goto.bb BK255 hb; replace BK256 := Goto.bb BK256 hb; replace HB := Goto.hs HB hb
                (try clear hb)
                (try clear hb2)
                (try clear hk)
                (try clear hi)
                (try simp only [errW_none, errW_some])
                refine hK.out _ _ ⟨(blk_cell BK256.out 0).trans rfl, (blk_cell BK256.out 1).trans rfl, (blk_cell BK255.out 0).trans rfl, (blk_cell BK255.out 1).trans rfl, (blk_cell BK249.out 0).trans rfl, (blk_cell BK249.out 1).trans rfl, (blk_cell BK249.out 2).trans rfl, (blk_cell BK249.out 3).trans rfl⟩ (fun hHeld => ?_)
                clear hK K
                refine norm_ (a' := ?_) ?_ ?_
                rotate_left
                ·
                 show Act.put _ (some 72) _ = _
                 exact Goto.ap
                refine pure_ (i := 17) (N := some 73) (v := ?_) (a' := ?_) (Goto.bs 25 3932159) rfl rfl (any_of HT_.out (by kernel_rfl)) (fun _ _ _ h => h) (Or.inl ⟨by rfl, ?_⟩) ?_ ?_
                rotate_left
                ·
                 intro w'
                 go_simp
                 with_reducible rfl
                rotate_left
                ·
                 exact Goto.ap
                refine pure_ (i := 18) (N := some 74) (v := ?_) (a' := ?_) (Goto.bs 25 4194303) rfl rfl (any_of HT_.out (by kernel_rfl)) (fun _ _ _ h => h) (Or.inl ⟨by rfl, ?_⟩) ?_ ?_
                rotate_left
                ·
                 intro w'
                 go_simp
                 with_reducible rfl
                rotate_left
                ·
                 exact Goto.ap
                refine pure_ (i := 22) (N := some 78) (v := ?_) (a' := ?_) (Goto.bs 25 8388607) rfl rfl (any_of HT_.out (by kernel_rfl)) (fun _ _ _ h => h) (Or.inl ⟨by rfl, ?_⟩) ?_ ?_
                rotate_left
                ·
                 intro w'
                 go_simp
                 with_reducible rfl
                rotate_left
                ·
                 exact Goto.ap
                refine pure_ (i := 23) (N := some 79) (v := ?_) (a' := ?_) (Goto.bs 25 16777215) rfl rfl (any_of HT_.out (by kernel_rfl)) (fun _ _ _ h => h) (Or.inl ⟨by rfl, ?_⟩) ?_ ?_
                rotate_left
                ·
                 intro w'
                 go_simp
                 with_reducible rfl
                rotate_left
                ·
                 exact Goto.ap
                refine pure_ (i := 24) (N := some 6) (v := ?_) (a' := ?_) (Goto.bs 25 33554431) rfl rfl (any_of HT_.out (by kernel_rfl)) (fun _ _ _ h => h) (Or.inl ⟨by rfl, ?_⟩) ?_ ?_
                rotate_left
                ·
                 intro w'
                 go_simp
                 with_reducible rfl
                rotate_left
                ·
                 exact Goto.ap
                refine done_ (done_of HT_.out (by kernel_rfl)) ?_
                try go_wp2
                go_ret
                exact ⟨by first | rfl | (simp [errW_none, errW_some] <;> rfl) | (simp only [← hji20, ← hji23]; first | rfl | (simp [errW_none, errW_some] <;> rfl)) | (simp [*, errW_none, errW_some] <;> rfl), by repeat (first | (with_reducible first | exact HB.out | apply below_alloc | apply pw_below_drewN | apply below_drew1 | refine below_set ?_ GE249.out | refine below_set ?_ GE255.out | refine below_set ?_ GE256.out) | exact HB.out)⟩
              ·
               replace c58 := Bool.eq_false_iff.mpr c58
               subst c58
               rw [if_neg (show ¬ (false = true) by decide)] at H
               obtain rfl := Option.some.inj H
               try go_wp2
               replace BK249 := Goto.m0 (blk_drew BK249.out); replace BK255 := Goto.m0 (blk_drew BK255.out); replace BK256 := Goto.m0 (blk_drew BK256.out); replace HB := Goto.m0 (below_drew1 HB.out)
               refine start_ (n := 25) (S := fun w' => w'.cell? ⟨gb256, 0, none⟩ = some (.int .i64 ((rd_T44 l0_3 (ji23)).f0.f0)) ∧ w'.cell? ⟨gb256, 1, none⟩ = some (.int .u64 ((rd_T44 l0_3 (ji23)).f0.f1)) ∧ w'.cell? ⟨gb255, 0, none⟩ = some (.int .i64 ((rd_T44 l0_3 (ji20)).f0.f0)) ∧ w'.cell? ⟨gb255, 1, none⟩ = some (.int .u64 ((rd_T44 l0_3 (ji20)).f0.f1))) (ds := []) (.replicate 25 false) (by kernel_rfl) rfl rfl ⟨(blk_cell BK256.out 0).trans rfl, (blk_cell BK256.out 1).trans rfl, (blk_cell BK255.out 0).trans rfl, (blk_cell BK255.out 1).trans rfl⟩ (fun hHeld => ?_); refine with_tabW tontinelaw20_CheckFlows.tab8 tontinelaw20_CheckFlows.bits8 (fun HT_ HW_ => ?_)
               generalize wc.drew = w66 at BK249 BK255 BK256 HB hHeld ⊢
               refine pure_ (i := 0) (N := some 56) (v := ?_) (a' := ?_) (Goto.bs 25 1) rfl rfl (any_of HT_.out (by kernel_rfl)) (fun _ _ _ h => h) (Or.inl ⟨by rfl, ?_⟩) ?_ ?_
               rotate_left
               ·
                intro w'
                go_simp
                with_reducible rfl
               rotate_left
               ·
                exact Goto.ap
               refine pure_ (i := 1) (N := some 57) (v := ?_) (a' := ?_) (Goto.bs 25 3) rfl rfl (any_of HT_.out (by kernel_rfl)) (fun _ _ _ h => h) (Or.inl ⟨by rfl, ?_⟩) ?_ ?_
               rotate_left
               ·
                intro w'
                go_simp
                with_reducible rfl
               rotate_left
               ·
                exact Goto.ap
               refine pure_ (i := 2) (N := some 58) (v := ?_) (a' := ?_) (Goto.bs 25 7) rfl rfl (any_of HT_.out (by kernel_rfl)) (fun _ _ _ h => h) (Or.inl ⟨by rfl, ?_⟩) ?_ ?_
               rotate_left
               ·
                intro w'
                go_simp
                with_reducible rfl
               rotate_left
               ·
                exact Goto.ap
               refine pure_ (i := 3) (N := some 59) (v := ?_) (a' := ?_) (Goto.bs 25 15) rfl rfl (any_of HT_.out (by kernel_rfl)) (fun _ _ _ h => h) (Or.inl ⟨by rfl, ?_⟩) ?_ ?_
               rotate_left
               ·
                intro w'
                go_simp
                with_reducible rfl
               rotate_left
               ·
                exact Goto.ap
               refine pure_ (i := 4) (N := some 60) (v := ?_) (a' := ?_) (Goto.bs 25 31) rfl rfl (any_of HT_.out (by kernel_rfl)) (fun _ _ _ h => h) (Or.inl ⟨by rfl, ?_⟩) ?_ ?_
               rotate_left
               ·
                intro w'
                go_simp
                with_reducible rfl
               rotate_left
               ·
                exact Goto.ap
               refine take_ (i := 5) (N := some 61) (v := ?_) (a' := ?_) (Goto.bs 25 63) rfl rfl (take_ofW HT_.out HW_.out (by kernel_rfl)) (fun _ _ _ h => h) (Or.inl ⟨by rfl, ?_⟩) hHeld ?_ ?_
               rotate_left
               ·
                rintro w' ⟨s0, s1, s2, s3⟩
                go_simp
                with_reducible rfl
               rotate_left
               ·
                exact Goto.ap
               refine take_ (i := 6) (N := some 62) (v := ?_) (a' := ?_) (Goto.bs 25 127) rfl rfl (take_ofW HT_.out HW_.out (by kernel_rfl)) (fun _ _ _ h => h) (Or.inl ⟨by rfl, ?_⟩) hHeld ?_ ?_
               rotate_left
               ·
                rintro w' ⟨s0, s1, s2, s3⟩
                go_simp
                with_reducible rfl
               rotate_left
               ·
                exact Goto.ap
               refine one_ (i := 7) (N := some 63) (Goto.bs 25 255) rfl rfl (one_of HT_.out (by kernel_rfl)) (by decide) (fun K hK => ?_)
               refine goes_ Try.func29 (by kernel_rfl) rfl #[.agg #[.int .i64 ((rd_T44 l0_3 (ji23)).f0.f0), .int .u64 ((rd_T44 l0_3 (ji23)).f0.f1)], .agg #[.int .i64 ((rd_T44 l0_3 (ji20)).f0.f0), .int .u64 ((rd_T44 l0_3 (ji20)).f0.f1)]] (by rfl) rfl rfl (by (try simp only [List.map_toArray, List.map_cons, List.map_nil]); first | done | (simp only [hji20, hji23]; rfl) | rfl | (simp only [List.length_drop, List.length_take]; rfl)) ?_
               with_reducible refine (tontineref1_Leq.calls ((rd_T44 l0_3 (ji23)).f0.f0) ((rd_T44 l0_3 (ji23)).f0.f1) ((rd_T44 l0_3 (ji20)).f0.f0) ((rd_T44 l0_3 (ji20)).f0.f1) t263 _ A56.out).mono ?_
               rintro e w67 ⟨rfl, hb⟩
               refine ⟨_, rfl, ?_⟩
               replace BK249 := Goto.bb BK249 hb; replace BK255 := Goto.bb BK255 hb; replace BK256 := Goto.bb BK256 hb; replace HB := Goto.hs HB hb
               (try clear hb)
               (try clear hb2)
               (try clear hk)
               (try clear hi)
               refine hK.out _ _ ⟨(blk_cell BK256.out 0).trans rfl, (blk_cell BK256.out 1).trans rfl, (blk_cell BK255.out 0).trans rfl, (blk_cell BK255.out 1).trans rfl⟩ (fun hHeld => ?_)
               clear hK K
               refine norm_ (a' := ?_) ?_ ?_
               rotate_left
               ·
                show Act.put _ (some 63) _ = _
                exact Goto.ap
               refine pure_ (i := 8) (N := some 64) (v := ?_) (a' := ?_) (Goto.bs 25 511) rfl rfl (any_of HT_.out (by kernel_rfl)) (fun _ _ _ h => h) (Or.inl ⟨by rfl, ?_⟩) ?_ ?_
               rotate_left
               ·
                intro w'
                go_simp
                with_reducible rfl
               rotate_left
               ·
                exact Goto.ap
               refine pure_ (i := 9) (N := some 65) (v := ?_) (a' := ?_) (Goto.bs 25 1023) rfl rfl (any_of HT_.out (by kernel_rfl)) (fun _ _ _ h => h) (Or.inl ⟨by rfl, ?_⟩) ?_ ?_
               rotate_left
               ·
                intro w'
                go_simp
                with_reducible rfl
               rotate_left
               ·
                exact Goto.ap
               refine pure_ (i := 10) (N := some 66) (v := ?_) (a' := ?_) (Goto.bs 25 2047) rfl rfl (any_of HT_.out (by kernel_rfl)) (fun _ _ _ h => h) (Or.inl ⟨by rfl, ?_⟩) ?_ ?_
               rotate_left
               ·
                intro w'
                go_simp
                with_reducible rfl
               rotate_left
               ·
                exact Goto.ap
               refine pure_ (i := 11) (N := some 67) (v := ?_) (a' := ?_) (Goto.bs 25 4095) rfl rfl (any_of HT_.out (by kernel_rfl)) (fun _ _ _ h => h) (Or.inl ⟨by rfl, ?_⟩) ?_ ?_
               rotate_left
               ·
                intro w'
                go_simp
                with_reducible rfl
               rotate_left
               ·
                exact Goto.ap
               refine pure_ (i := 12) (N := some 68) (v := ?_) (a' := ?_) (Goto.bs 25 8191) rfl rfl (any_of HT_.out (by kernel_rfl)) (fun _ _ _ h => h) (Or.inl ⟨by rfl, ?_⟩) ?_ ?_
               rotate_left
               ·
                intro w'
                go_simp
                with_reducible rfl
               rotate_left
               ·
                exact Goto.ap
               refine pure_ (i := 13) (N := some 69) (v := undef) (a' := ?_) (Goto.bs 25 16383) rfl rfl (any_of HT_.out (by kernel_rfl)) (fun _ _ _ h => h) (Or.inr ⟨by rfl, rfl⟩) ?_ ?_
               rotate_left
               ·
                exact Goto.ap
               refine pure_ (i := 14) (N := some 70) (v := undef) (a' := ?_) (Goto.bs 25 32767) rfl rfl (any_of HT_.out (by kernel_rfl)) (fun _ _ _ h => h) (Or.inr ⟨by rfl, rfl⟩) ?_ ?_
               rotate_left
               ·
                exact Goto.ap
               refine pure_ (i := 15) (N := some 71) (v := undef) (a' := ?_) (Goto.bs 25 65535) rfl rfl (any_of HT_.out (by kernel_rfl)) (fun _ _ _ h => h) (Or.inr ⟨by rfl, rfl⟩) ?_ ?_
               rotate_left
               ·
                exact Goto.ap
               refine pure_ (i := 16) (N := some 72) (v := undef) (a' := ?_) (Goto.bs 25 131071) rfl rfl (any_of HT_.out (by kernel_rfl)) (fun _ _ _ h => h) (Or.inr ⟨by rfl, rfl⟩) ?_ ?_
               rotate_left
               ·
                exact Goto.ap
               refine pure_ (i := 17) (N := some 73) (v := undef) (a' := ?_) (Goto.bs 25 262143) rfl rfl (any_of HT_.out (by kernel_rfl)) (fun _ _ _ h => h) (Or.inr ⟨by rfl, rfl⟩) ?_ ?_
               rotate_left
               ·
                exact Goto.ap
               refine pure_ (i := 18) (N := some 74) (v := ?_) (a' := ?_) (Goto.bs 25 524287) rfl rfl (any_of HT_.out (by kernel_rfl)) (fun _ _ _ h => h) (Or.inl ⟨by rfl, ?_⟩) ?_ ?_
               rotate_left
               ·
                intro w'
                go_simp
                with_reducible rfl
               rotate_left
               ·
                exact Goto.ap
               refine take_ (i := 19) (N := some 75) (v := ?_) (a' := ?_) (Goto.bs 25 1048575) rfl rfl (take_ofW HT_.out HW_.out (by kernel_rfl)) (fun _ _ _ h => h) (Or.inl ⟨by rfl, ?_⟩) hHeld ?_ ?_
               rotate_left
               ·
                rintro w' ⟨s0, s1, s2, s3⟩
                go_simp
                with_reducible rfl
               rotate_left
               ·
                exact Goto.ap
               refine take_ (i := 20) (N := some 76) (v := ?_) (a' := ?_) (Goto.bs 25 2097151) rfl rfl (take_ofW HT_.out HW_.out (by kernel_rfl)) (fun _ _ _ h => h) (Or.inl ⟨by rfl, ?_⟩) hHeld ?_ ?_
               rotate_left
               ·
                rintro w' ⟨s0, s1, s2, s3⟩
                go_simp
                with_reducible rfl
               rotate_left
               ·
                exact Goto.ap
               refine pure_ (i := 21) (N := some 77) (v := ?_) (a' := ?_) (Goto.bs 25 4194303) rfl rfl (any_of HT_.out (by kernel_rfl)) (fun _ _ _ h => h) (Or.inl ⟨by rfl, ?_⟩) ?_ ?_
               rotate_left
               ·
                intro w'
                go_simp
                with_reducible rfl
               rotate_left
               ·
                exact Goto.ap
               refine pure_ (i := 22) (N := some 78) (v := ?_) (a' := ?_) (Goto.bs 25 8388607) rfl rfl (any_of HT_.out (by kernel_rfl)) (fun _ _ _ h => h) (Or.inl ⟨by rfl, ?_⟩) ?_ ?_
               rotate_left
               ·
                intro w'
                go_simp
                with_reducible rfl
               rotate_left
               ·
                exact Goto.ap
               refine pure_ (i := 23) (N := some 79) (v := ?_) (a' := ?_) (Goto.bs 25 16777215) rfl rfl (any_of HT_.out (by kernel_rfl)) (fun _ _ _ h => h) (Or.inl ⟨by rfl, ?_⟩) ?_ ?_
               rotate_left
               ·
                intro w'
                go_simp
                with_reducible rfl
               rotate_left
               ·
                exact Goto.ap
               refine pure_ (i := 24) (N := some 6) (v := ?_) (a' := ?_) (Goto.bs 25 33554431) rfl rfl (any_of HT_.out (by kernel_rfl)) (fun _ _ _ h => h) (Or.inl ⟨by rfl, ?_⟩) ?_ ?_
               rotate_left
               ·
                intro w'
                go_simp
                with_reducible rfl
               rotate_left
               ·
                exact Goto.ap
               refine done_ (done_of HT_.out (by kernel_rfl)) ?_
               try go_wp2
               go_ret
               exact ⟨by first | rfl | (simp [errW_none, errW_some] <;> rfl) | (simp only [← hji20, ← hji23]; first | rfl | (simp [errW_none, errW_some] <;> rfl)) | (simp [*, errW_none, errW_some] <;> rfl), by repeat (first | (with_reducible first | exact HB.out | apply below_alloc | apply pw_below_drewN | apply below_drew1 | refine below_set ?_ GE249.out | refine below_set ?_ GE255.out | refine below_set ?_ GE256.out) | exact HB.out)⟩
             ·
              rw [if_neg c57] at H
              have c57b0 : (x11_25 == t263) = false := by simpa using c57
              (try (have c57b1 : decide (x11_25 = t263) = false := by simpa using c57))
              (try (have c57b2 : (x11_25 == t263) = false := by simpa using c57))
              (try (have c57b3 : ¬ (x11_25 = t263) := by simpa using c57))
              clear c57
              exact absurd ((Option.some.inj H).trans HRT.out) (by decide)
            ·
             rw [if_neg c55] at H
             have c55b0 : (x11_25 == x12_25) = false := by simpa using c55
             (try (have c55b1 : decide (x11_25 = x12_25) = false := by simpa using c55))
             (try (have c55b2 : (x11_25 == x12_25) = false := by simpa using c55))
             (try (have c55b3 : ¬ (x11_25 = x12_25) := by simpa using c55))
             clear c55
             exact absurd ((Option.some.inj H).trans HRT.out) (by decide)
         ·
          rw [if_neg c25] at H
          exact absurd H (by simp)
        ·
         rw [if_neg c24] at H
         exact absurd H (by simp)
       ·
        rw [if_neg c22] at H
        exact absurd H (by simp)
      ·
       rw [if_neg c21] at H
       exact absurd H (by simp)
 ·
  replace c5 := Bool.eq_false_iff.mpr c5
  subst c5
  rw [if_neg (show ¬ (false = true) by decide)] at H
  exact absurd ((Option.some.inj H).trans HRT.out) (by decide)

end Go.Proofs.Ythlokoombomndaa.P
