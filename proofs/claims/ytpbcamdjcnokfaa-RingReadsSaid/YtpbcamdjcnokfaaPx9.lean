/- Printed by a program of this workplace (a turned copy of the kit's optional print), out of the translation; not trusted: Lean checks it. -/
import Derived.Test.YtpbcamdjcnokfaaPx0
import Derived.Test.YtpbcamdjcnokfaaPx2
import Derived.Test.YtpbcamdjcnokfaaPx3
import Derived.Test.YtpbcamdjcnokfaaPx4
import Derived.Test.YtpbcamdjcnokfaaPx5
namespace Go.Proofs.Ytpbcamdjcnokfaa.P
open Go.RowKit Go.Proofs.YtpbcamdjcnokfaaW.PrintWords Go.Proofs.YtpbcamdjcnokfaaW.PrintLast Go.Proofs.YtpbcamdjcnokfaaW.PrintMore
attribute [local go_sem] max2_int min2_int max_two min_two max_three min_three max_four min_four   -- for this text's walks alone
set_option linter.unusedVariables false
set_option linter.unusedSimpArgs false

/-! ### tontinelaw18_RingReads: function 9 -/
def tontinelaw18_RingReads.l0 : Nat → List Bool → Int → Int → Int → Int → Int → List (S43) → Int → Int → Option (Bool)
  | 0, _, _, _, _, _, _, _, _, _ => none
  | k + 1, x1, x5, x7, x8, x9, x10, x293000, x293001, x293002 => if x10 < (x1.length : Int) then (if 0 ≤ x10 then (if rdOf false x1 x10 = true then ((ring_Ring_Add.f x293000 x293001 x293002 x10 1 0).bind fun bt299 => (tontinelaw18_RingReads.l0 k x1 x5 (wrap64 (x7 + 1)) x8 x9 (wrap64 (x10 + 1)) bt299.1 bt299.2.1 bt299.2.2)) else ((ring_Ring_From.f k x293000 x293001 x293002 (wrap64 (x9 + 1))).bind fun bt304 => (if (bt304.2.2.2.2.1 != (decide (x9 < x7))) = true then (some false) else (if bt304.2.2.2.2.1 = true then (if bt304.1 ≤ x9 then (some false) else (if bt304.1 = (mx (wrap64 (x9 + 1)) (wrap64 ((wrap64 (x7 - x5)) + 1))) then (tontinelaw18_RingReads.l0 k x1 x5 x7 (wrap64 (x8 + 1)) bt304.1 (wrap64 (x10 + 1)) bt304.2.2.2.2.2.1 bt304.2.2.2.2.2.2.1 bt304.2.2.2.2.2.2.2) else (some false))) else (tontinelaw18_RingReads.l0 k x1 x5 x7 x8 x9 (wrap64 (x10 + 1)) bt304.2.2.2.2.2.1 bt304.2.2.2.2.2.2.1 bt304.2.2.2.2.2.2.2))))) else (none)) else (if x8 ≤ x7 then ((ring_Ring_Last.f x293000 x293001 x293002).bind fun bt315 => (if bt315.1 = x7 then ((ring_Ring_Lost.f bt315.2.1 bt315.2.2.1 bt315.2.2.2).bind fun bt321 => (some (bt321.1 == (mx 0 (wrap64 (x7 - x5)))))) else (some false))) else (some false))
def tontinelaw18_RingReads.f (k : Nat) (a0 : Int) (l1 : List Bool) : Option (Bool) := (tontinelaw18_known.f k).bind fun t291 => (if t291 = true then (if (l1.length : Int) > 100 then (some true) else ((ring_New.f (wrap64 ((wrap64 (Int.tmod a0 16)) + 1))).bind fun bt293 => (tontinelaw18_RingReads.l0 k l1 (wrap64 ((wrap64 (Int.tmod a0 16)) + 1)) 0 0 0 0 bt293.1 bt293.2.1 bt293.2.2))) else (some false))
theorem tontinelaw18_RingReads.mono_l : ∀ k, (∀ y0 y1 y2 y3 y4 y5 y6 y7 y8, LeO (tontinelaw18_RingReads.l0 k y0 y1 y2 y3 y4 y5 y6 y7 y8) (tontinelaw18_RingReads.l0 (k + 1) y0 y1 y2 y3 y4 y5 y6 y7 y8))
  | 0 => fun _ _ _ _ _ _ _ _ _ r h => by simp [tontinelaw18_RingReads.l0] at h
  | k + 1 => by
    have ih0 := tontinelaw18_RingReads.mono_l k
    · intro y0 y1 y2 y3 y4 y5 y6 y7 y8
      unfold tontinelaw18_RingReads.l0
      repeat' first
      | (with_reducible exact ih0 _ _ _ _ _ _ _ _ _)
      | (with_reducible exact ring_Ring_From.mono _ _ _ _ _)
      | (with_reducible exact tontinelaw18_known.mono _)
      | (with_reducible exact LeO.refl _)
      | (with_reducible exact LeO.none _)
      | (with_reducible refine LeO.ite ?_ ?_)
      | (with_reducible refine LeO.bind ?_ (fun _ => ?_))
      | exact ih0 _ _ _ _ _ _ _ _ _
      | exact ring_Ring_From.mono _ _ _ _ _
      | exact tontinelaw18_known.mono _
      | exact LeO.none _
      | refine LeO.ite ?_ ?_
      | refine LeO.bind ?_ (fun _ => ?_)
theorem tontinelaw18_RingReads.mono : ∀ a0 a1 k, LeO (tontinelaw18_RingReads.f k a0 a1) (tontinelaw18_RingReads.f (k + 1) a0 a1) := by
 intro a0 a1 k
 have ih0 := tontinelaw18_RingReads.mono_l k
 unfold tontinelaw18_RingReads.f
 repeat' first
   | (with_reducible exact ih0 _ _ _ _ _ _ _ _ _)
   | (with_reducible exact ring_Ring_From.mono _ _ _ _ _)
   | (with_reducible exact tontinelaw18_known.mono _)
   | (with_reducible exact LeO.refl _)
   | (with_reducible exact LeO.none _)
   | (with_reducible refine LeO.ite ?_ ?_)
   | (with_reducible refine LeO.bind ?_ (fun _ => ?_))
   | exact ih0 _ _ _ _ _ _ _ _ _
   | exact ring_Ring_From.mono _ _ _ _ _
   | exact tontinelaw18_known.mono _
   | exact LeO.none _
   | refine LeO.ite ?_ ?_
   | refine LeO.bind ?_ (fun _ => ?_)
set_option maxHeartbeats 8000000 in
set_option maxRecDepth 100000 in
theorem tontinelaw18_RingReads.calls (k : Nat) (a0 : Int) (A1 : Option Addr) (c1 : Nat) (l1 : List Bool) (r : Bool) (hrt : r = true) (w : World) (hr1 : Kd.C Kd.bool w A1 l1.length l1) (hc1 : l1.length ≤ c1) (h : tontinelaw18_RingReads.f k a0 l1 = some r) :
    Calls Try.prog 9 #[.int .u8 a0, .slice A1 l1.length c1] w fun e w' => e = .returned (.bool r) ∧ Below w.heap.size w w' := by
 have hu43 := Try.underlying43
 have HR1 := Goto.m0 hr1
 have HC1 := Goto.m0 hc1
 clear hr1 hc1
 have HB := Goto.m0 (Below.refl w.heap.size w)
 have HRT := Goto.m0 hrt
 clear hrt
 have H : ((tontinelaw18_known.f k).bind fun t291 => (if t291 = true then (if (l1.length : Int) > 100 then (some true) else ((ring_New.f (wrap64 ((wrap64 (Int.tmod a0 16)) + 1))).bind fun bt293 => (tontinelaw18_RingReads.l0 k l1 (wrap64 ((wrap64 (Int.tmod a0 16)) + 1)) 0 0 0 0 bt293.1 bt293.2.1 bt293.2.2))) else (some false))) = some r := h
 clear h
 replace H := Option.bind_eq_some_iff.mp H
 obtain ⟨t291, A30, H⟩ := H
 have A3 := Goto.m0 A30
 clear A30
 by_cases c4 : t291 = true
 ·
  subst c4
  rw [if_pos rfl] at H
  by_cases c5 : (l1.length : Int) > 100
  ·
   rw [if_pos c5] at H
   have c5b0 : decide (100 < (l1.length : Int)) = true := decide_eq_true c5
   have c5b1 : decide (100 < l1.length) = true := decide_eq_true (by omega)
   clear c5
   obtain rfl := Option.some.inj H
   go_enter Try.func9, Try.ntmps9
   go_wp2_with (first | ((with_reducible refine gate_callee (f := 26) rfl ?_); refine goesL_ (some 13) rfl rfl Try.func26 (by kernel_rfl) rfl #[] rfl (by (try simp only [List.map_toArray, List.map_cons, List.map_nil]); first | done | rfl | (simp only [List.length_drop, List.length_take]; rfl)) ?_; (with_reducible refine (tontinelaw18_known.calls k  true (by first | rfl | assumption | (simp only [Bool.not_eq_true, Bool.not_eq_false] at *; assumption)) _ A3.out).mono ?_); rintro e w6 ⟨rfl, hb⟩; refine ⟨_, rfl, ?_⟩; replace HB := Goto.hs HB hb; (try clear hb); (try clear hb2); (try clear hk); (try clear hi)))
   go_ret
   exact ⟨by first | rfl | (simp [errW_none, errW_some] <;> rfl) | (simp [*, errW_none, errW_some] <;> rfl), by repeat (first | (with_reducible first | exact HB.out | apply below_alloc | apply pw_below_drewN | apply below_drew1) | exact HB.out)⟩
  ·
   rw [if_neg c5] at H
   have c5b0 : decide (100 < (l1.length : Int)) = false := decide_eq_false c5
   have c5b1 : decide (100 < l1.length) = false := decide_eq_false (by omega)
   clear c5
   replace H := Option.bind_eq_some_iff.mp H
   obtain ⟨⟨t293, t296, t297⟩, A70, H⟩ := H
   replace H : (tontinelaw18_RingReads.l0 k l1 (wrap64 ((wrap64 (Int.tmod a0 16)) + 1)) 0 0 0 0 t293 t296 t297) = some r := H
   have A7 := Goto.m0 A70
   clear A70
   have H' := Goto.m0 H
   clear H
   go_enter Try.func9, Try.ntmps9
   go_wp2_with (first | ((with_reducible refine gate_callee (f := 26) rfl ?_); refine goesL_ (some 13) rfl rfl Try.func26 (by kernel_rfl) rfl #[] rfl (by (try simp only [List.map_toArray, List.map_cons, List.map_nil]); first | done | rfl | (simp only [List.length_drop, List.length_take]; rfl)) ?_; (with_reducible refine (tontinelaw18_known.calls k  true (by first | rfl | assumption | (simp only [Bool.not_eq_true, Bool.not_eq_false] at *; assumption)) _ A3.out).mono ?_); rintro e w8 ⟨rfl, hb⟩; refine ⟨_, rfl, ?_⟩; replace HB := Goto.hs HB hb; (try clear hb); (try clear hb2); (try clear hk); (try clear hi)) | ((with_reducible refine gate_callee (f := 27) rfl ?_); refine goesL_ (some 23) rfl rfl Try.func27 (by kernel_rfl) rfl #[.int .i64 (wrap64 ((wrap64 (Int.tmod a0 16)) + 1))] rfl (by (try simp only [List.map_toArray, List.map_cons, List.map_nil]); first | done | rfl | (simp only [List.length_drop, List.length_take]; rfl)) ?_; (with_reducible refine (ring_New.calls (wrap64 ((wrap64 (Int.tmod a0 16)) + 1)) t293 t296 t297 _ A7.out).mono ?_); rintro e w9 ⟨v294, gb292, rfl, ho0, hi, hge, hb⟩; refine ⟨_, rfl, ?_⟩; have HO295 := Goto.m0 (Kd.R_lower ho0 (below_size (Goto.hx HB))); have BK292 := Goto.m0 (hi); have GW292 := Goto.m0 ((Nat.le_trans (below_size (Goto.hx HB)) hge : w.heap.size ≤ gb292)); have GE292 := Goto.m0 ((Nat.le_trans (below_size (Goto.hx HB)) hge : w.heap.size ≤ gb292)); replace HB := Goto.hs HB hb; (try clear hb); (try clear hi); (try clear hge); (try clear ho0)))
   go_loopg [7, 8, 9, 10] k (fun kq v7 v8 v9 v10 w' => ∃ (x7_1 : Int) (x8_1 : Int) (x9_1 : Int) (x10_1 : Int) (x293000_1 : List (S43)) (x293001_1 : Int) (x293002_1 : Int) (u293000 : Value), v7 = .int .i64 x7_1 ∧ v8 = .int .i64 x8_1 ∧ v9 = .int .i64 x9_1 ∧ v10 = .int .i64 x10_1 ∧ Aside0 (tontinelaw18_RingReads.l0 kq l1 (wrap64 ((wrap64 (Int.tmod a0 16)) + 1)) x7_1 x8_1 x9_1 x10_1 x293000_1 x293001_1 x293002_1 = some r) ∧ Aside0 (kq ≤ k) ∧ Aside0 (Kd.R k43 43 w' w.heap.size (fun _ => True) u293000 x293000_1) ∧ Aside0 (w'.heap[gb292]? = some (.cells #[u293000, .int .i64 x293001_1, .int .i64 x293002_1] 79 (0, 0))) ∧ Aside0 (Below w.heap.size w w'))
   case atStart => exact ⟨(0), (0), (0), (0), (t293), (t296), (t297), (v294), (by first | rfl | (simp; done) | (simp [*]; done)), (by first | rfl | (simp; done) | (simp [*]; done)), (by first | rfl | (simp; done) | (simp [*]; done)), (by first | rfl | (simp; done) | (simp [*]; done)), H', ⟨Nat.le_refl _⟩, ⟨by (with_reducible repeat (first | apply Kd.R_alloc | apply Kd.R_drewN | apply Kd.R_drew)); exact HO295.out⟩, ⟨Goto.bx BK292⟩, ⟨Goto.hx HB⟩⟩
   case round =>
    clear H'
    try clear c1; try clear c2; try clear p2; try clear c4; try clear c5; try clear c5b0; try clear c5b1; try clear p6; try clear c9
    obtain ⟨x7_1, x8_1, x9_1, x10_1, x293000_1, x293001_1, x293002_1, u293000, rfl, rfl, rfl, rfl, HA, HK1, HO_293000, BK292, HB⟩ := hrel
    cases gk with
    | zero => exact absurd HA.out (by simp [tontinelaw18_RingReads.l0])
    | succ k1 =>
     have H := HA.out; clear HA
     simp only [tontinelaw18_RingReads.l0] at H
     by_cases c10 : x10_1 < (l1.length : Int)
     ·
      rw [if_pos c10] at H
      have c10b0 : decide (x10_1 < (l1.length : Int)) = true := decide_eq_true c10
      clear c10
      by_cases c11 : 0 ≤ x10_1
      ·
       rw [if_pos c11] at H
       have c11b0 : decide (0 ≤ x10_1) = true := decide_eq_true c11
       clear c11
       obtain ⟨bq12, hbq12⟩ : ∃ b_ : Bool, b_ = (rdOf false l1 x10_1) := ⟨_, rfl⟩
       replace H : (if bq12 = true then ((ring_Ring_Add.f x293000_1 x293001_1 x293002_1 x10_1 1 0).bind fun bt299 => (tontinelaw18_RingReads.l0 k1 l1 (wrap64 ((wrap64 (Int.tmod a0 16)) + 1)) (wrap64 (x7_1 + 1)) x8_1 x9_1 (wrap64 (x10_1 + 1)) bt299.1 bt299.2.1 bt299.2.2)) else ((ring_Ring_From.f k1 x293000_1 x293001_1 x293002_1 (wrap64 (x9_1 + 1))).bind fun bt304 => (if (bt304.2.2.2.2.1 != (decide (x9_1 < x7_1))) = true then (some false) else (if bt304.2.2.2.2.1 = true then (if bt304.1 ≤ x9_1 then (some false) else (if bt304.1 = (mx (wrap64 (x9_1 + 1)) (wrap64 ((wrap64 (x7_1 - (wrap64 ((wrap64 (Int.tmod a0 16)) + 1)))) + 1))) then (tontinelaw18_RingReads.l0 k1 l1 (wrap64 ((wrap64 (Int.tmod a0 16)) + 1)) x7_1 (wrap64 (x8_1 + 1)) bt304.1 (wrap64 (x10_1 + 1)) bt304.2.2.2.2.2.1 bt304.2.2.2.2.2.2.1 bt304.2.2.2.2.2.2.2) else (some false))) else (tontinelaw18_RingReads.l0 k1 l1 (wrap64 ((wrap64 (Int.tmod a0 16)) + 1)) x7_1 x8_1 x9_1 (wrap64 (x10_1 + 1)) bt304.2.2.2.2.2.1 bt304.2.2.2.2.2.2.1 bt304.2.2.2.2.2.2.2))))) = some r := by rw [← hbq12] at H; exact H
       have Nbq12 := Goto.m0 hbq12
       clear hbq12
       by_cases c13 : bq12 = true
       ·
        subst c13
        rw [if_pos rfl] at H
        replace H := Option.bind_eq_some_iff.mp H
        obtain ⟨⟨t299, t302, t303⟩, A140, H⟩ := H
        replace H : (tontinelaw18_RingReads.l0 k1 l1 (wrap64 ((wrap64 (Int.tmod a0 16)) + 1)) (wrap64 (x7_1 + 1)) x8_1 x9_1 (wrap64 (x10_1 + 1)) t299 t302 t303) = some r := H
        have A14 := Goto.m0 A140
        clear A140
        have H' := Goto.m0 H
        clear H
        have p298 : 0 ≤ (x10_1 : Int) := of_decide_eq_true (by first | (with_reducible assumption) | assumption)
        have q298 : x10_1 < (l1.length : Int) := of_decide_eq_true (by first | (with_reducible assumption) | assumption)
        obtain ⟨ad298, e298, hx298_0⟩ := Kd.at_bool HR1.out x10_1 p298 q298
        (try rw [← Nbq12.out] at hx298_0)
        cases e298
        replace hx298_0 := Goto.kc HB.out hx298_0
        replace p298 := eq_true p298; replace q298 := eq_true q298
        go_wp2_with (first | ((with_reducible refine gate_callee (f := 29) rfl ?_); refine goesL_ (some 36) rfl rfl Try.func29 (by kernel_rfl) rfl #[.pointer (some ⟨gb292, 0, none⟩), .int .i64 x10_1, .int .i64 1, .int .i64 0] rfl (by (try simp only [List.map_toArray, List.map_cons, List.map_nil]); first | done | rfl | (simp only [List.length_drop, List.length_take]; rfl)) ?_; (with_reducible refine (ring_Ring_Add.calls gb292 (fun k_ => some k_ = (u293000 : Value).ownBlock) u293000 x293000_1 x293001_1 x293002_1 x10_1 1 0 t299 t302 t303 w _ ?side1 ?side2 ?side3 ?side4 A14.out).mono ?_); (case side1 => exact by (with_reducible repeat first | refine blk_drewN ?_ _ | refine blk_drew ?_ | refine blk_alloc ?_ _); exact BK292.out); (case side2 => exact GE292.out); (case side3 => repeat (first | (with_reducible first | exact HB.out | apply below_alloc | apply pw_below_drewN | apply below_drew1 | refine below_set ?_ GE292.out) | exact HB.out)); (case side4 => exact Kd.R_tight rfl HO_293000.out); rintro e w15 ⟨v300, rfl, ho0, hi, hb, hkp⟩; refine ⟨_, rfl, ?_⟩; have n0_ := Goto.m0 (hi); have n1_ := Goto.m0 (Kd.R_mono (ok' := fun k_ => True) ho0 (fun k_ hk_ => trivial)); have n2_ := Goto.m0 (hb); clear BK292; clear HB; clear HO_293000; have BK292 := n0_; have HO301 := n1_; have HB := n2_; clear n0_ n1_ n2_; (try clear hb); (try clear hkp); (try clear ho0)))
        go_roundg k1
        case measure => have := HK1.out; omega
        case rel => exact ⟨(wrap64 (x7_1 + 1)), (x8_1), (x9_1), (wrap64 (x10_1 + 1)), (t299), (t302), (t303), (v300), (by first | rfl | (simp; done) | (simp [*]; done)), (by first | rfl | (simp; done) | (simp [*]; done)), (by first | rfl | (simp; done) | (simp [*]; done)), (by first | rfl | (simp; done) | (simp [*]; done)), H', ⟨by have := HK1.out; omega⟩, ⟨by (with_reducible repeat (first | apply Kd.R_alloc | apply Kd.R_drewN | apply Kd.R_drew)); exact HO301.out⟩, ⟨Goto.bx BK292⟩, ⟨Goto.hx HB⟩⟩
       ·
        replace c13 := Bool.eq_false_iff.mpr c13
        subst c13
        rw [if_neg (show ¬ (false = true) by decide)] at H
        replace H := Option.bind_eq_some_iff.mp H
        obtain ⟨⟨t304, t305, t306, t307, t308, t309, t312, t313⟩, A160, H⟩ := H
        replace H : (if (t308 != (decide (x9_1 < x7_1))) = true then (some false) else (if t308 = true then (if t304 ≤ x9_1 then (some false) else (if t304 = (mx (wrap64 (x9_1 + 1)) (wrap64 ((wrap64 (x7_1 - (wrap64 ((wrap64 (Int.tmod a0 16)) + 1)))) + 1))) then (tontinelaw18_RingReads.l0 k1 l1 (wrap64 ((wrap64 (Int.tmod a0 16)) + 1)) x7_1 (wrap64 (x8_1 + 1)) t304 (wrap64 (x10_1 + 1)) t309 t312 t313) else (some false))) else (tontinelaw18_RingReads.l0 k1 l1 (wrap64 ((wrap64 (Int.tmod a0 16)) + 1)) x7_1 x8_1 x9_1 (wrap64 (x10_1 + 1)) t309 t312 t313))) = some r := H
        have A16 := Goto.m0 A160
        clear A160
        by_cases c17 : (t308 != (decide (x9_1 < x7_1))) = true
        ·
         rw [if_pos c17] at H
         have c17b0 : (t308 != (decide (x9_1 < x7_1))) = true := c17
         (try (have c17b1 : decide (t308 = (decide (x9_1 < x7_1))) = false := by simpa using c17))
         (try (have c17b2 : (t308 == (decide (x9_1 < x7_1))) = false := by simpa using c17))
         (try (have c17b3 : ¬ (t308 = (decide (x9_1 < x7_1))) := by simpa using c17))
         clear c17
         exact absurd ((Option.some.inj H).trans HRT.out) (by decide)
        ·
         rw [if_neg c17] at H
         have c17b0 : (t308 != (decide (x9_1 < x7_1))) = false := by simpa using c17
         (try (have c17b1 : decide (t308 = (decide (x9_1 < x7_1))) = true := by simpa using c17))
         (try (have c17b2 : (t308 == (decide (x9_1 < x7_1))) = true := by simpa using c17))
         clear c17
         by_cases c18 : t308 = true
         ·
          subst c18
          rw [if_pos rfl] at H
          by_cases c19 : t304 ≤ x9_1
          ·
           rw [if_pos c19] at H
           have c19b0 : decide (t304 ≤ x9_1) = true := decide_eq_true c19
           clear c19
           exact absurd ((Option.some.inj H).trans HRT.out) (by decide)
          ·
           rw [if_neg c19] at H
           have c19b0 : decide (t304 ≤ x9_1) = false := decide_eq_false c19
           clear c19
           obtain ⟨ji20, hji20⟩ : ∃ j_ : Int, (mx (wrap64 (x9_1 + 1)) (wrap64 ((wrap64 (x7_1 - (wrap64 ((wrap64 (Int.tmod a0 16)) + 1)))) + 1))) = j_ := ⟨_, rfl⟩
           replace H : (if t304 = (ji20) then (tontinelaw18_RingReads.l0 k1 l1 (wrap64 ((wrap64 (Int.tmod a0 16)) + 1)) x7_1 (wrap64 (x8_1 + 1)) t304 (wrap64 (x10_1 + 1)) t309 t312 t313) else (some false)) = some r := by first | (rw [hji20] at H; exact H) | (simp only [hji20] at H ⊢; exact H)
           (try rw [hji20] at A16)
           have hji20_ : (if (wrap64 (x9_1 + 1)) < (wrap64 ((wrap64 (x7_1 - (wrap64 ((wrap64 (Int.tmod a0 16)) + 1)))) + 1)) then (wrap64 ((wrap64 (x7_1 - (wrap64 ((wrap64 (Int.tmod a0 16)) + 1)))) + 1)) else (wrap64 (x9_1 + 1))) = ji20 := hji20
           by_cases c21 : t304 = (ji20)
           ·
            rw [if_pos c21] at H
            have c21b0 : (t304 == (ji20)) = true := beq_iff_eq.mpr c21
            have c21b1 : (t304 != (ji20)) = false := bne_eq_false_iff_eq.mpr c21
            clear c21
            have H' := Goto.m0 H
            clear H
            have p298 : 0 ≤ (x10_1 : Int) := of_decide_eq_true (by first | (with_reducible assumption) | assumption)
            have q298 : x10_1 < (l1.length : Int) := of_decide_eq_true (by first | (with_reducible assumption) | assumption)
            obtain ⟨ad298, e298, hx298_0⟩ := Kd.at_bool HR1.out x10_1 p298 q298
            (try rw [← Nbq12.out] at hx298_0)
            cases e298
            replace hx298_0 := Goto.kc HB.out hx298_0
            replace p298 := eq_true p298; replace q298 := eq_true q298
            go_wp2_with (first | ((with_reducible refine gate_callee (f := 35) rfl ?_); refine goesL_ (some 43) rfl rfl Try.func35 (by kernel_rfl) rfl #[.pointer (some ⟨gb292, 0, none⟩), .int .i64 (wrap64 (x9_1 + 1))] rfl (by (try simp only [List.map_toArray, List.map_cons, List.map_nil]); first | done | rfl | (simp only [List.length_drop, List.length_take]; rfl)) ?_; (with_reducible refine (ring_Ring_From.calls k1 gb292 (fun k_ => some k_ = (u293000 : Value).ownBlock) u293000 x293000_1 x293001_1 x293002_1 (wrap64 (x9_1 + 1)) t304 t305 t306 t307 true t309 t312 t313 w _ ?side1 ?side2 ?side3 ?side4 A16.out).mono ?_); (case side1 => exact by (with_reducible repeat first | refine blk_drewN ?_ _ | refine blk_drew ?_ | refine blk_alloc ?_ _); exact BK292.out); (case side2 => exact GE292.out); (case side3 => repeat (first | (with_reducible first | exact HB.out | apply below_alloc | apply pw_below_drewN | apply below_drew1 | refine below_set ?_ GE292.out) | exact HB.out)); (case side4 => exact Kd.R_tight rfl HO_293000.out); rintro e w22 ⟨v310, rfl, ho0, hi, hb, hkp⟩; refine ⟨_, rfl, ?_⟩; have n0_ := Goto.m0 (hi); have n1_ := Goto.m0 (Kd.R_mono (ok' := fun k_ => True) ho0 (fun k_ hk_ => trivial)); have n2_ := Goto.m0 (hb); clear BK292; clear HB; clear HO_293000; have BK292 := n0_; have HO311 := n1_; have HB := n2_; clear n0_ n1_ n2_; (try clear hb); (try clear hkp); (try clear ho0)) | ((with_reducible refine gate_dst (N := 11) rfl ?_); (try (refine gate_guard (by rfl) ?_; dsimp only)); refine box_event ?hg (N := 11) ?hd (cs := #[.int .i64 0, .int .i64 0, .int .i64 0, .int .i64 0]) (t := 43) ?hr ?_; (case hd => rfl); (case hg => rfl); (case hr => first | (go_simp; done) | (go_simp; rfl)); intro gb314 hg w23 hbox hb; have BK314 := Goto.m0 (hbox); have GW314 := Goto.gs HB hg; have GE314 := Goto.gs HB hg; have NB292_314 := Goto.nl BK292 hg; have NB314_292 := Goto.nr BK292 hg; replace HO311 := Goto.m0 (Kd.R_below (Kd.R_elderB (by (with_reducible repeat (first | apply Kd.R_alloc | apply Kd.R_drewN | apply Kd.R_drew)); exact HO311.out) gb314 (Nat.le_of_eq hg.symm)) hb); replace BK292 := Goto.bb BK292 hb; replace HB := Goto.hs HB hb; clear hb hbox hg; have hnb24 := NB314_292.out; have hnc24 := NB292_314.out; have hcz25_0 : w23.cell? ⟨gb314, 0, none⟩ = some (.int .i64 0) := (blk_cell BK314.out 0).trans rfl; have hcz25_1 : w23.cell? ⟨gb314, 1, none⟩ = some (.int .i64 0) := (blk_cell BK314.out 1).trans rfl; have hcz25_2 : w23.cell? ⟨gb314, 2, none⟩ = some (.int .i64 0) := (blk_cell BK314.out 2).trans rfl; have hcz25_3 : w23.cell? ⟨gb314, 3, none⟩ = some (.int .i64 0) := (blk_cell BK314.out 3).trans rfl; have hfz25_0 := blk_frozen BK314.out 0; have hfz25_1 := blk_frozen BK314.out 1; have hfz25_2 := blk_frozen BK314.out 2; have hfz25_3 := blk_frozen BK314.out 3))
            go_roundg k1
            case measure => have := HK1.out; omega
            case rel => exact ⟨(x7_1), (wrap64 (x8_1 + 1)), (t304), (wrap64 (x10_1 + 1)), (t309), (t312), (t313), (v310), (by first | rfl | (simp; done) | (simp [*]; done)), (by first | rfl | (simp; done) | (simp [*]; done)), (by first | rfl | (simp; done) | (simp [*]; done)), (by first | rfl | (simp; done) | (simp [*]; done)), H', ⟨by have := HK1.out; omega⟩, ⟨by (with_reducible repeat (first | apply Kd.R_alloc | apply Kd.R_drewN | apply Kd.R_drew)); exact Kd.R_mono (Kd.R_far (p := ⟨gb314, 3, none⟩) (Kd.R_far (p := ⟨gb314, 2, none⟩) (Kd.R_far (p := ⟨gb314, 1, none⟩) (Kd.R_far (p := ⟨gb314, 0, none⟩) (Goto.nx gb314 HO311.out (fun k_ hk => hk.2)) (fun _ hk => hk.2) (.int .i64 t304)) (fun _ hk => hk.2) (.int .i64 t305)) (fun _ hk => hk.2) (.int .i64 t306)) (fun _ hk => hk.2) (.int .i64 t307)) (fun _ hk => trivial)⟩, ⟨Goto.bx BK292⟩, ⟨Goto.hx HB⟩⟩
           ·
            rw [if_neg c21] at H
            have c21b0 : (t304 == (ji20)) = false := beq_eq_false_iff_ne.mpr c21
            have c21b1 : (t304 != (ji20)) = true := bne_iff_ne.mpr c21
            exact absurd ((Option.some.inj H).trans HRT.out) (by decide)
         ·
          replace c18 := Bool.eq_false_iff.mpr c18
          subst c18
          rw [if_neg (show ¬ (false = true) by decide)] at H
          have H' := Goto.m0 H
          clear H
          have p298 : 0 ≤ (x10_1 : Int) := of_decide_eq_true (by first | (with_reducible assumption) | assumption)
          have q298 : x10_1 < (l1.length : Int) := of_decide_eq_true (by first | (with_reducible assumption) | assumption)
          obtain ⟨ad298, e298, hx298_0⟩ := Kd.at_bool HR1.out x10_1 p298 q298
          (try rw [← Nbq12.out] at hx298_0)
          cases e298
          replace hx298_0 := Goto.kc HB.out hx298_0
          replace p298 := eq_true p298; replace q298 := eq_true q298
          go_wp2_with (first | ((with_reducible refine gate_callee (f := 35) rfl ?_); refine goesL_ (some 43) rfl rfl Try.func35 (by kernel_rfl) rfl #[.pointer (some ⟨gb292, 0, none⟩), .int .i64 (wrap64 (x9_1 + 1))] rfl (by (try simp only [List.map_toArray, List.map_cons, List.map_nil]); first | done | rfl | (simp only [List.length_drop, List.length_take]; rfl)) ?_; (with_reducible refine (ring_Ring_From.calls k1 gb292 (fun k_ => some k_ = (u293000 : Value).ownBlock) u293000 x293000_1 x293001_1 x293002_1 (wrap64 (x9_1 + 1)) t304 t305 t306 t307 false t309 t312 t313 w _ ?side1 ?side2 ?side3 ?side4 A16.out).mono ?_); (case side1 => exact by (with_reducible repeat first | refine blk_drewN ?_ _ | refine blk_drew ?_ | refine blk_alloc ?_ _); exact BK292.out); (case side2 => exact GE292.out); (case side3 => repeat (first | (with_reducible first | exact HB.out | apply below_alloc | apply pw_below_drewN | apply below_drew1 | refine below_set ?_ GE292.out) | exact HB.out)); (case side4 => exact Kd.R_tight rfl HO_293000.out); rintro e w26 ⟨v310, rfl, ho0, hi, hb, hkp⟩; refine ⟨_, rfl, ?_⟩; have n0_ := Goto.m0 (hi); have n1_ := Goto.m0 (Kd.R_mono (ok' := fun k_ => True) ho0 (fun k_ hk_ => trivial)); have n2_ := Goto.m0 (hb); clear BK292; clear HB; clear HO_293000; have BK292 := n0_; have HO311 := n1_; have HB := n2_; clear n0_ n1_ n2_; (try clear hb); (try clear hkp); (try clear ho0)) | ((with_reducible refine gate_dst (N := 11) rfl ?_); (try (refine gate_guard (by rfl) ?_; dsimp only)); refine box_event ?hg (N := 11) ?hd (cs := #[.int .i64 0, .int .i64 0, .int .i64 0, .int .i64 0]) (t := 43) ?hr ?_; (case hd => rfl); (case hg => rfl); (case hr => first | (go_simp; done) | (go_simp; rfl)); intro gb314 hg w27 hbox hb; have BK314 := Goto.m0 (hbox); have GW314 := Goto.gs HB hg; have GE314 := Goto.gs HB hg; have NB292_314 := Goto.nl BK292 hg; have NB314_292 := Goto.nr BK292 hg; replace HO311 := Goto.m0 (Kd.R_below (Kd.R_elderB (by (with_reducible repeat (first | apply Kd.R_alloc | apply Kd.R_drewN | apply Kd.R_drew)); exact HO311.out) gb314 (Nat.le_of_eq hg.symm)) hb); replace BK292 := Goto.bb BK292 hb; replace HB := Goto.hs HB hb; clear hb hbox hg; have hnb28 := NB314_292.out; have hnc28 := NB292_314.out; have hcz29_0 : w27.cell? ⟨gb314, 0, none⟩ = some (.int .i64 0) := (blk_cell BK314.out 0).trans rfl; have hcz29_1 : w27.cell? ⟨gb314, 1, none⟩ = some (.int .i64 0) := (blk_cell BK314.out 1).trans rfl; have hcz29_2 : w27.cell? ⟨gb314, 2, none⟩ = some (.int .i64 0) := (blk_cell BK314.out 2).trans rfl; have hcz29_3 : w27.cell? ⟨gb314, 3, none⟩ = some (.int .i64 0) := (blk_cell BK314.out 3).trans rfl; have hfz29_0 := blk_frozen BK314.out 0; have hfz29_1 := blk_frozen BK314.out 1; have hfz29_2 := blk_frozen BK314.out 2; have hfz29_3 := blk_frozen BK314.out 3))
          go_roundg k1
          case measure => have := HK1.out; omega
          case rel => exact ⟨(x7_1), (x8_1), (x9_1), (wrap64 (x10_1 + 1)), (t309), (t312), (t313), (v310), (by first | rfl | (simp; done) | (simp [*]; done)), (by first | rfl | (simp; done) | (simp [*]; done)), (by first | rfl | (simp; done) | (simp [*]; done)), (by first | rfl | (simp; done) | (simp [*]; done)), H', ⟨by have := HK1.out; omega⟩, ⟨by (with_reducible repeat (first | apply Kd.R_alloc | apply Kd.R_drewN | apply Kd.R_drew)); exact Kd.R_mono (Kd.R_far (p := ⟨gb314, 3, none⟩) (Kd.R_far (p := ⟨gb314, 2, none⟩) (Kd.R_far (p := ⟨gb314, 1, none⟩) (Kd.R_far (p := ⟨gb314, 0, none⟩) (Goto.nx gb314 HO311.out (fun k_ hk => hk.2)) (fun _ hk => hk.2) (.int .i64 t304)) (fun _ hk => hk.2) (.int .i64 t305)) (fun _ hk => hk.2) (.int .i64 t306)) (fun _ hk => hk.2) (.int .i64 t307)) (fun _ hk => trivial)⟩, ⟨Goto.bx BK292⟩, ⟨Goto.hx HB⟩⟩
      ·
       rw [if_neg c11] at H
       exact absurd H (by simp)
     ·
      rw [if_neg c10] at H
      have c10b0 : decide (x10_1 < (l1.length : Int)) = false := decide_eq_false c10
      clear c10
      by_cases c30 : x8_1 ≤ x7_1
      ·
       rw [if_pos c30] at H
       have c30b0 : decide (x8_1 ≤ x7_1) = true := decide_eq_true c30
       clear c30
       replace H := Option.bind_eq_some_iff.mp H
       obtain ⟨⟨t315, t316, t319, t320⟩, A310, H⟩ := H
       replace H : (if t315 = x7_1 then ((ring_Ring_Lost.f t316 t319 t320).bind fun bt321 => (some (bt321.1 == (mx 0 (wrap64 (x7_1 - (wrap64 ((wrap64 (Int.tmod a0 16)) + 1)))))))) else (some false)) = some r := H
       have A31 := Goto.m0 A310
       clear A310
       by_cases c32 : t315 = x7_1
       ·
        rw [if_pos c32] at H
        have c32b0 : (t315 == x7_1) = true := beq_iff_eq.mpr c32
        have c32b1 : (t315 != x7_1) = false := bne_eq_false_iff_eq.mpr c32
        clear c32
        replace H := Option.bind_eq_some_iff.mp H
        obtain ⟨⟨t321, t322, t325, t326⟩, A330, H⟩ := H
        replace H : (some (t321 == (mx 0 (wrap64 (x7_1 - (wrap64 ((wrap64 (Int.tmod a0 16)) + 1))))))) = some r := H
        have A33 := Goto.m0 A330
        clear A330
        obtain ⟨ji34, hji34⟩ : ∃ j_ : Int, (mx 0 (wrap64 (x7_1 - (wrap64 ((wrap64 (Int.tmod a0 16)) + 1))))) = j_ := ⟨_, rfl⟩
        replace H : (some (t321 == (ji34))) = some r := by first | (rw [hji34] at H; exact H) | (simp only [hji34] at H ⊢; exact H)
        (try rw [hji34] at A31)
        (try rw [hji34] at A33)
        have hji34_ : (if 0 < (wrap64 (x7_1 - (wrap64 ((wrap64 (Int.tmod a0 16)) + 1)))) then (wrap64 (x7_1 - (wrap64 ((wrap64 (Int.tmod a0 16)) + 1)))) else 0) = ji34 := hji34
        obtain rfl := Option.some.inj H
        go_wp2_with (first | (go_at_call 33; (with_reducible refine (ring_Ring_Last.calls gb292 (fun k_ => some k_ = (u293000 : Value).ownBlock) u293000 x293000_1 x293001_1 x293002_1 t315 t316 t319 t320 w _ ?side1 ?side2 ?side3 ?side4 A31.out).mono ?_); (case side1 => exact by (with_reducible repeat first | refine blk_drewN ?_ _ | refine blk_drew ?_ | refine blk_alloc ?_ _); exact BK292.out); (case side2 => exact GE292.out); (case side3 => repeat (first | (with_reducible first | exact HB.out | apply below_alloc | apply pw_below_drewN | apply below_drew1 | refine below_set ?_ GE292.out) | exact HB.out)); (case side4 => exact Kd.R_tight rfl HO_293000.out); rintro e w35 ⟨v317, rfl, ho0, hi, hb, hkp⟩; have n0_ := Goto.m0 (hi); have n1_ := Goto.m0 (Kd.R_mono (ok' := fun k_ => True) ho0 (fun k_ hk_ => trivial)); have n2_ := Goto.m0 (hb); clear BK292; clear HB; clear HO_293000; have BK292 := n0_; have HO318 := n1_; have HB := n2_; clear n0_ n1_ n2_; (try clear hb); (try clear hkp); (try clear ho0)) | (go_at_call 34; (with_reducible refine (ring_Ring_Lost.calls gb292 (fun k_ => some k_ = (v317 : Value).ownBlock) v317 t316 t319 t320 t321 t322 t325 t326 w _ ?side1 ?side2 ?side3 ?side4 A33.out).mono ?_); (case side1 => exact by (with_reducible repeat first | refine blk_drewN ?_ _ | refine blk_drew ?_ | refine blk_alloc ?_ _); exact BK292.out); (case side2 => exact GE292.out); (case side3 => repeat (first | (with_reducible first | exact HB.out | apply below_alloc | apply pw_below_drewN | apply below_drew1 | refine below_set ?_ GE292.out) | exact HB.out)); (case side4 => exact Kd.R_tight rfl HO318.out); rintro e w36 ⟨v323, rfl, ho0, hi, hb, hkp⟩; have n0_ := Goto.m0 (hi); have n1_ := Goto.m0 (Kd.R_mono (ok' := fun k_ => True) ho0 (fun k_ hk_ => trivial)); have n2_ := Goto.m0 (hb); clear BK292; clear HB; clear HO318; have BK292 := n0_; have HO324 := n1_; have HB := n2_; clear n0_ n1_ n2_; (try clear hb); (try clear hkp); (try clear ho0)))
        go_ret
        exact ⟨by first | rfl | (simp [errW_none, errW_some] <;> rfl) | (simp only [← hji34]; first | rfl | (simp [errW_none, errW_some] <;> rfl)) | (simp [*, errW_none, errW_some] <;> rfl), by repeat (first | (with_reducible first | exact HB.out | apply below_alloc | apply pw_below_drewN | apply below_drew1 | refine below_set ?_ GE292.out) | exact HB.out)⟩
       ·
        rw [if_neg c32] at H
        have c32b0 : (t315 == x7_1) = false := beq_eq_false_iff_ne.mpr c32
        have c32b1 : (t315 != x7_1) = true := bne_iff_ne.mpr c32
        exact absurd ((Option.some.inj H).trans HRT.out) (by decide)
      ·
       rw [if_neg c30] at H
       have c30b0 : decide (x8_1 ≤ x7_1) = false := decide_eq_false c30
       clear c30
       exact absurd ((Option.some.inj H).trans HRT.out) (by decide)
 ·
  replace c4 := Bool.eq_false_iff.mpr c4
  subst c4
  rw [if_neg (show ¬ (false = true) by decide)] at H
  exact absurd ((Option.some.inj H).trans HRT.out) (by decide)

end Go.Proofs.Ytpbcamdjcnokfaa.P
