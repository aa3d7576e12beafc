/- Printed by a program of this workplace (a turned copy of the kit's optional print), out of the translation; not trusted: Lean checks it. -/
import Derived.Test.YtjgdcifbhmjinaaDoorPx0
import Derived.Sort.WalkA
import Derived.WalkKit
import Derived.Test.YtjgdcifbhmjinaaDoorPx1
import Derived.Test.YtjgdcifbhmjinaaDoorPx6
namespace Go.Proofs.YtjgdcifbhmjinaaDoor.P
open Go.RowKit Go.Proofs.YtjgdcifbhmjinaaDoorW.PrintWords Go.Proofs.YtjgdcifbhmjinaaDoorW.PrintLast Go.Proofs.YtjgdcifbhmjinaaDoorW.PrintMore
attribute [local go_sem] max2_int min2_int max_two min_two max_three min_three max_four min_four   -- for this text's walks alone
set_option linter.unusedVariables false
set_option linter.unusedSimpArgs false

attribute [local go_sem high] eqA38
/-! ### conf_sameDomain: function 27 -/
def conf_sameDomain.f (k : Nat) (a0_0 : Int) (a0_1 : Int) (l0_2 : List (List Int)) (l0_3 : List Int) (a0_4 : Int) (a0_5 : Int) (a0_6 : Int) (a0_7 : Int) (a0_8 : Int) (a0_9 : Int) (a1_0 : Int) (a1_1 : Int) (l1_2 : List (List Int)) (l1_3 : List Int) (a1_4 : Int) (a1_5 : Int) (a1_6 : Int) (a1_7 : Int) (a1_8 : Int) (a1_9 : Int) : Option (Bool) := if (a0_0 == a1_0 && (a0_1 == a1_1)) = true then ((slices_EqualFunc_int_int_int_int.f k l0_2 l1_2 ()).bind fun t182 => (if t182 = true then ((slices_Equal_int_int.f k l0_3 l1_3).bind fun t183 => (if t183 = true then (if a0_4 = a1_4 then (if a0_5 = a1_5 then (if a0_6 = a1_6 then (if a0_7 = a1_7 then (if a0_8 = a1_8 then (some (a0_9 == a1_9)) else (some false)) else (some false)) else (some false)) else (some false)) else (some false)) else (some false))) else (some false))) else (some false)
set_option maxHeartbeats 8000000 in
set_option maxRecDepth 100000 in
theorem conf_sameDomain.calls (k : Nat) (a0_0 : Int) (a0_1 : Int) (A0_2 : Option Addr) (c0_2 : Nat) (l0_2 : List (List Int)) (A0_3 : Option Addr) (c0_3 : Nat) (l0_3 : List Int) (a0_4 : Int) (a0_5 : Int) (a0_6 : Int) (a0_7 : Int) (a0_8 : Int) (a0_9 : Int) (a1_0 : Int) (a1_1 : Int) (A1_2 : Option Addr) (c1_2 : Nat) (l1_2 : List (List Int)) (A1_3 : Option Addr) (c1_3 : Nat) (l1_3 : List Int) (a1_4 : Int) (a1_5 : Int) (a1_6 : Int) (a1_7 : Int) (a1_8 : Int) (a1_9 : Int) (r : Bool) (w : World) (hr0_2 : Kd.C (Kd.slice 3 (Kd.int .i64)) w A0_2 l0_2.length l0_2) (hc0_2 : l0_2.length ≤ c0_2) (hr0_3 : Kd.C (Kd.int .i64) w A0_3 l0_3.length l0_3) (hc0_3 : l0_3.length ≤ c0_3) (hr1_2 : Kd.C (Kd.slice 3 (Kd.int .i64)) w A1_2 l1_2.length l1_2) (hc1_2 : l1_2.length ≤ c1_2) (hr1_3 : Kd.C (Kd.int .i64) w A1_3 l1_3.length l1_3) (hc1_3 : l1_3.length ≤ c1_3) (h : conf_sameDomain.f k a0_0 a0_1 l0_2 l0_3 a0_4 a0_5 a0_6 a0_7 a0_8 a0_9 a1_0 a1_1 l1_2 l1_3 a1_4 a1_5 a1_6 a1_7 a1_8 a1_9 = some r) :
    Calls Tryd.prog 27 #[.agg #[.int .i64 a0_0, .int .u64 a0_1, .slice A0_2 l0_2.length c0_2, .slice A0_3 l0_3.length c0_3, .int .i64 a0_4, .int .i64 a0_5, .int .i64 a0_6, .int .i64 a0_7, .int .i64 a0_8, .int .i64 a0_9], .agg #[.int .i64 a1_0, .int .u64 a1_1, .slice A1_2 l1_2.length c1_2, .slice A1_3 l1_3.length c1_3, .int .i64 a1_4, .int .i64 a1_5, .int .i64 a1_6, .int .i64 a1_7, .int .i64 a1_8, .int .i64 a1_9]] w fun e w' => e = .returned (.bool r) ∧ Below w.heap.size w w' := by
 have hu40 := Tryd.underlying40; have hu38 := Tryd.underlying38
 have HR0_2 := Goto.m0 hr0_2
 have HC0_2 := Goto.m0 hc0_2
 clear hr0_2 hc0_2
 have HR0_3 := Goto.m0 hr0_3
 have HC0_3 := Goto.m0 hc0_3
 clear hr0_3 hc0_3
 have HR1_2 := Goto.m0 hr1_2
 have HC1_2 := Goto.m0 hc1_2
 clear hr1_2 hc1_2
 have HR1_3 := Goto.m0 hr1_3
 have HC1_3 := Goto.m0 hc1_3
 clear hr1_3 hc1_3
 have HB := Goto.m0 (Below.refl w.heap.size w)
 have H : (if (a0_0 == a1_0 && (a0_1 == a1_1)) = true then ((slices_EqualFunc_int_int_int_int.f k l0_2 l1_2 ()).bind fun t182 => (if t182 = true then ((slices_Equal_int_int.f k l0_3 l1_3).bind fun t183 => (if t183 = true then (if a0_4 = a1_4 then (if a0_5 = a1_5 then (if a0_6 = a1_6 then (if a0_7 = a1_7 then (if a0_8 = a1_8 then (some (a0_9 == a1_9)) else (some false)) else (some false)) else (some false)) else (some false)) else (some false)) else (some false))) else (some false))) else (some false)) = some r := h
 clear h
 by_cases c3 : (a0_0 == a1_0 && (a0_1 == a1_1)) = true
 ·
  rw [if_pos c3] at H
  have c3b0 : (a0_0 == a1_0 && (a0_1 == a1_1)) = true := c3
  (try (have c3b1 : decide (a0_0 = a1_0 && (a0_1 == a1_1)) = true := by simpa using c3))
  (try (have c3b2 : (a0_0 == a1_0 && (a0_1 == a1_1)) = true := by simpa using c3))
  clear c3
  replace H := Option.bind_eq_some_iff.mp H
  obtain ⟨t182, A40, H⟩ := H
  have A4 := Goto.m0 A40
  clear A40
  by_cases c5 : t182 = true
  ·
   subst c5
   rw [if_pos rfl] at H
   replace H := Option.bind_eq_some_iff.mp H
   obtain ⟨t183, A60, H⟩ := H
   have A6 := Goto.m0 A60
   clear A60
   by_cases c7 : t183 = true
   ·
    subst c7
    rw [if_pos rfl] at H
    by_cases c8 : a0_4 = a1_4
    ·
     rw [if_pos c8] at H
     have c8b0 : (a0_4 == a1_4) = true := beq_iff_eq.mpr c8
     have c8b1 : (a0_4 != a1_4) = false := bne_eq_false_iff_eq.mpr c8
     clear c8
     by_cases c9 : a0_5 = a1_5
     ·
      rw [if_pos c9] at H
      have c9b0 : (a0_5 == a1_5) = true := beq_iff_eq.mpr c9
      have c9b1 : (a0_5 != a1_5) = false := bne_eq_false_iff_eq.mpr c9
      clear c9
      by_cases c10 : a0_6 = a1_6
      ·
       rw [if_pos c10] at H
       have c10b0 : (a0_6 == a1_6) = true := beq_iff_eq.mpr c10
       have c10b1 : (a0_6 != a1_6) = false := bne_eq_false_iff_eq.mpr c10
       clear c10
       by_cases c11 : a0_7 = a1_7
       ·
        rw [if_pos c11] at H
        have c11b0 : (a0_7 == a1_7) = true := beq_iff_eq.mpr c11
        have c11b1 : (a0_7 != a1_7) = false := bne_eq_false_iff_eq.mpr c11
        clear c11
        by_cases c12 : a0_8 = a1_8
        ·
         rw [if_pos c12] at H
         have c12b0 : (a0_8 == a1_8) = true := beq_iff_eq.mpr c12
         have c12b1 : (a0_8 != a1_8) = false := bne_eq_false_iff_eq.mpr c12
         clear c12
         obtain rfl := Option.some.inj H
         go_enter Tryd.func27, Tryd.ntmps27
         go_wp2_with (first | (apply wp_region_lit; refine conf_sameDomain.flatc ?_) | (with_reducible refine conf_sameDomain.flatc ?_) | (with_reducible refine conf_sameDomain.flatn ?_) | ((with_reducible refine gate_dst (N := 2) rfl ?_); refine box_event ?hg (N := 2) ?hd (cs := #[.int .i64 a0_0, .int .u64 a0_1, .slice A0_2 l0_2.length c0_2, .slice A0_3 l0_3.length c0_3, .int .i64 a0_4, .int .i64 a0_5, .int .i64 a0_6, .int .i64 a0_7, .int .i64 a0_8, .int .i64 a0_9]) (t := 40) ?hr ?_; (case hd => rfl); (case hg => rfl); (case hr => first | (go_simp; done) | (go_simp; rfl)); intro gb180 hg w13 hbox hb; have BK180 := Goto.m0 (hbox); have GW180 := Goto.gs HB hg; have GE180 := Goto.gs HB hg; replace HB := Goto.hs HB hb; clear hb hbox hg) | ((with_reducible refine gate_dst (N := 3) rfl ?_); refine box_event ?hg (N := 3) ?hd (cs := #[.int .i64 a1_0, .int .u64 a1_1, .slice A1_2 l1_2.length c1_2, .slice A1_3 l1_3.length c1_3, .int .i64 a1_4, .int .i64 a1_5, .int .i64 a1_6, .int .i64 a1_7, .int .i64 a1_8, .int .i64 a1_9]) (t := 40) ?hr ?_; (case hd => rfl); (case hg => rfl); (case hr => first | (go_simp; done) | (go_simp; rfl)); intro gb181 hg w14 hbox hb; have BK181 := Goto.m0 (hbox); have GW181 := Goto.gs HB hg; have GE181 := Goto.gs HB hg; have NB180_181 := Goto.nl BK180 hg; have NB181_180 := Goto.nr BK180 hg; replace BK180 := Goto.bb BK180 hb; replace HB := Goto.hs HB hb; clear hb hbox hg; have hnb15 := NB180_181.out; have hnc15 := NB181_180.out; have hcz16_0 := Goto.bc0 BK180; have hcz16_1 := Goto.bc1 BK180; have hcz16_2 := Goto.bc2 BK180; have hcz16_3 := Goto.bc3 BK180; have hcz16_4 := Goto.bc4 BK180; have hcz16_5 := Goto.bc5 BK180; have hcz16_6 := Goto.bc6 BK180; have hcz16_7 := Goto.bc7 BK180; have hcz16_8 := Goto.bc8 BK180; have hcz16_9 := Goto.bc9 BK180; have hfz16_0 := Goto.bf BK180 0; have hfz16_1 := Goto.bf BK180 1; have hfz16_2 := Goto.bf BK180 2; have hfz16_3 := Goto.bf BK180 3; have hfz16_4 := Goto.bf BK180 4; have hfz16_5 := Goto.bf BK180 5; have hfz16_6 := Goto.bf BK180 6; have hfz16_7 := Goto.bf BK180 7; have hfz16_8 := Goto.bf BK180 8; have hfz16_9 := Goto.bf BK180 9; have hcz17_0 := Goto.bc0 BK181; have hcz17_1 := Goto.bc1 BK181; have hcz17_2 := Goto.bc2 BK181; have hcz17_3 := Goto.bc3 BK181; have hcz17_4 := Goto.bc4 BK181; have hcz17_5 := Goto.bc5 BK181; have hcz17_6 := Goto.bc6 BK181; have hcz17_7 := Goto.bc7 BK181; have hcz17_8 := Goto.bc8 BK181; have hcz17_9 := Goto.bc9 BK181; have hfz17_0 := Goto.bf BK181 0; have hfz17_1 := Goto.bf BK181 1; have hfz17_2 := Goto.bf BK181 2; have hfz17_3 := Goto.bf BK181 3; have hfz17_4 := Goto.bf BK181 4; have hfz17_5 := Goto.bf BK181 5; have hfz17_6 := Goto.bf BK181 6; have hfz17_7 := Goto.bf BK181 7; have hfz17_8 := Goto.bf BK181 8; have hfz17_9 := Goto.bf BK181 9) | (go_at_call 24; (with_reducible refine (slices_EqualFunc_int_int_int_int.calls k _ _ l0_2 _ _ l1_2 () true _ ?side1 ?side2 ?side3 ?side4 A4.out).mono ?_); (case side1 => repeat (first | exact (Kd.C_below HR0_2.out HB.out) | (with_reducible refine Kd.C_alloc ?_ _) | (with_reducible refine Kd.C_drewN ?_ _) | (with_reducible refine Kd.C_drew ?_))); (case side2 => exact HC0_2.out); (case side3 => repeat (first | exact (Kd.C_below HR1_2.out HB.out) | (with_reducible refine Kd.C_alloc ?_ _) | (with_reducible refine Kd.C_drewN ?_ _) | (with_reducible refine Kd.C_drew ?_))); (case side4 => exact HC1_2.out); rintro e w' ⟨rfl, ⟨nd, rfl⟩⟩) | (go_at_call 25; (with_reducible refine (slices_Equal_int_int.calls k _ _ l0_3 _ _ l1_3 true _ ?side1 ?side2 ?side3 ?side4 A6.out).mono ?_); (case side1 => repeat (first | exact (Kd.C_below HR0_3.out (Goto.hx HB)) | (with_reducible refine Kd.C_alloc ?_ _) | (with_reducible refine Kd.C_drewN ?_ _) | (with_reducible refine Kd.C_drew ?_))); (case side2 => exact HC0_3.out); (case side3 => repeat (first | exact (Kd.C_below HR1_3.out (Goto.hx HB)) | (with_reducible refine Kd.C_alloc ?_ _) | (with_reducible refine Kd.C_drewN ?_ _) | (with_reducible refine Kd.C_drew ?_))); (case side4 => exact HC1_3.out); rintro e w' ⟨rfl, ⟨nd, rfl⟩⟩))
         go_ret
         exact ⟨Goto.er, by repeat (first | (with_reducible first | exact HB.out | apply below_alloc | apply pw_below_drewN | apply below_drew1 | refine below_set ?_ GE180.out | refine below_set ?_ GE181.out) | exact HB.out)⟩
        ·
         rw [if_neg c12] at H
         have c12b0 : (a0_8 == a1_8) = false := beq_eq_false_iff_ne.mpr c12
         have c12b1 : (a0_8 != a1_8) = true := bne_iff_ne.mpr c12
         obtain rfl := Option.some.inj H
         go_enter Tryd.func27, Tryd.ntmps27
         go_wp2_with (first | (apply wp_region_lit; refine conf_sameDomain.flatc ?_) | (with_reducible refine conf_sameDomain.flatc ?_) | (with_reducible refine conf_sameDomain.flatn ?_) | ((with_reducible refine gate_dst (N := 2) rfl ?_); refine box_event ?hg (N := 2) ?hd (cs := #[.int .i64 a0_0, .int .u64 a0_1, .slice A0_2 l0_2.length c0_2, .slice A0_3 l0_3.length c0_3, .int .i64 a0_4, .int .i64 a0_5, .int .i64 a0_6, .int .i64 a0_7, .int .i64 a0_8, .int .i64 a0_9]) (t := 40) ?hr ?_; (case hd => rfl); (case hg => rfl); (case hr => first | (go_simp; done) | (go_simp; rfl)); intro gb180 hg w18 hbox hb; have BK180 := Goto.m0 (hbox); have GW180 := Goto.gs HB hg; have GE180 := Goto.gs HB hg; replace HB := Goto.hs HB hb; clear hb hbox hg) | ((with_reducible refine gate_dst (N := 3) rfl ?_); refine box_event ?hg (N := 3) ?hd (cs := #[.int .i64 a1_0, .int .u64 a1_1, .slice A1_2 l1_2.length c1_2, .slice A1_3 l1_3.length c1_3, .int .i64 a1_4, .int .i64 a1_5, .int .i64 a1_6, .int .i64 a1_7, .int .i64 a1_8, .int .i64 a1_9]) (t := 40) ?hr ?_; (case hd => rfl); (case hg => rfl); (case hr => first | (go_simp; done) | (go_simp; rfl)); intro gb181 hg w19 hbox hb; have BK181 := Goto.m0 (hbox); have GW181 := Goto.gs HB hg; have GE181 := Goto.gs HB hg; have NB180_181 := Goto.nl BK180 hg; have NB181_180 := Goto.nr BK180 hg; replace BK180 := Goto.bb BK180 hb; replace HB := Goto.hs HB hb; clear hb hbox hg; have hnb20 := NB180_181.out; have hnc20 := NB181_180.out; have hcz21_0 := Goto.bc0 BK180; have hcz21_1 := Goto.bc1 BK180; have hcz21_2 := Goto.bc2 BK180; have hcz21_3 := Goto.bc3 BK180; have hcz21_4 := Goto.bc4 BK180; have hcz21_5 := Goto.bc5 BK180; have hcz21_6 := Goto.bc6 BK180; have hcz21_7 := Goto.bc7 BK180; have hcz21_8 := Goto.bc8 BK180; have hcz21_9 := Goto.bc9 BK180; have hfz21_0 := Goto.bf BK180 0; have hfz21_1 := Goto.bf BK180 1; have hfz21_2 := Goto.bf BK180 2; have hfz21_3 := Goto.bf BK180 3; have hfz21_4 := Goto.bf BK180 4; have hfz21_5 := Goto.bf BK180 5; have hfz21_6 := Goto.bf BK180 6; have hfz21_7 := Goto.bf BK180 7; have hfz21_8 := Goto.bf BK180 8; have hfz21_9 := Goto.bf BK180 9; have hcz22_0 := Goto.bc0 BK181; have hcz22_1 := Goto.bc1 BK181; have hcz22_2 := Goto.bc2 BK181; have hcz22_3 := Goto.bc3 BK181; have hcz22_4 := Goto.bc4 BK181; have hcz22_5 := Goto.bc5 BK181; have hcz22_6 := Goto.bc6 BK181; have hcz22_7 := Goto.bc7 BK181; have hcz22_8 := Goto.bc8 BK181; have hcz22_9 := Goto.bc9 BK181; have hfz22_0 := Goto.bf BK181 0; have hfz22_1 := Goto.bf BK181 1; have hfz22_2 := Goto.bf BK181 2; have hfz22_3 := Goto.bf BK181 3; have hfz22_4 := Goto.bf BK181 4; have hfz22_5 := Goto.bf BK181 5; have hfz22_6 := Goto.bf BK181 6; have hfz22_7 := Goto.bf BK181 7; have hfz22_8 := Goto.bf BK181 8; have hfz22_9 := Goto.bf BK181 9) | (go_at_call 24; (with_reducible refine (slices_EqualFunc_int_int_int_int.calls k _ _ l0_2 _ _ l1_2 () true _ ?side1 ?side2 ?side3 ?side4 A4.out).mono ?_); (case side1 => repeat (first | exact (Kd.C_below HR0_2.out HB.out) | (with_reducible refine Kd.C_alloc ?_ _) | (with_reducible refine Kd.C_drewN ?_ _) | (with_reducible refine Kd.C_drew ?_))); (case side2 => exact HC0_2.out); (case side3 => repeat (first | exact (Kd.C_below HR1_2.out HB.out) | (with_reducible refine Kd.C_alloc ?_ _) | (with_reducible refine Kd.C_drewN ?_ _) | (with_reducible refine Kd.C_drew ?_))); (case side4 => exact HC1_2.out); rintro e w' ⟨rfl, ⟨nd, rfl⟩⟩) | (go_at_call 25; (with_reducible refine (slices_Equal_int_int.calls k _ _ l0_3 _ _ l1_3 true _ ?side1 ?side2 ?side3 ?side4 A6.out).mono ?_); (case side1 => repeat (first | exact (Kd.C_below HR0_3.out (Goto.hx HB)) | (with_reducible refine Kd.C_alloc ?_ _) | (with_reducible refine Kd.C_drewN ?_ _) | (with_reducible refine Kd.C_drew ?_))); (case side2 => exact HC0_3.out); (case side3 => repeat (first | exact (Kd.C_below HR1_3.out (Goto.hx HB)) | (with_reducible refine Kd.C_alloc ?_ _) | (with_reducible refine Kd.C_drewN ?_ _) | (with_reducible refine Kd.C_drew ?_))); (case side4 => exact HC1_3.out); rintro e w' ⟨rfl, ⟨nd, rfl⟩⟩))
         go_ret
         exact ⟨Goto.er, by repeat (first | (with_reducible first | exact HB.out | apply below_alloc | apply pw_below_drewN | apply below_drew1 | refine below_set ?_ GE180.out | refine below_set ?_ GE181.out) | exact HB.out)⟩
       ·
        rw [if_neg c11] at H
        have c11b0 : (a0_7 == a1_7) = false := beq_eq_false_iff_ne.mpr c11
        have c11b1 : (a0_7 != a1_7) = true := bne_iff_ne.mpr c11
        obtain rfl := Option.some.inj H
        go_enter Tryd.func27, Tryd.ntmps27
        go_wp2_with (first | (apply wp_region_lit; refine conf_sameDomain.flatc ?_) | (with_reducible refine conf_sameDomain.flatc ?_) | (with_reducible refine conf_sameDomain.flatn ?_) | ((with_reducible refine gate_dst (N := 2) rfl ?_); refine box_event ?hg (N := 2) ?hd (cs := #[.int .i64 a0_0, .int .u64 a0_1, .slice A0_2 l0_2.length c0_2, .slice A0_3 l0_3.length c0_3, .int .i64 a0_4, .int .i64 a0_5, .int .i64 a0_6, .int .i64 a0_7, .int .i64 a0_8, .int .i64 a0_9]) (t := 40) ?hr ?_; (case hd => rfl); (case hg => rfl); (case hr => first | (go_simp; done) | (go_simp; rfl)); intro gb180 hg w23 hbox hb; have BK180 := Goto.m0 (hbox); have GW180 := Goto.gs HB hg; have GE180 := Goto.gs HB hg; replace HB := Goto.hs HB hb; clear hb hbox hg) | ((with_reducible refine gate_dst (N := 3) rfl ?_); refine box_event ?hg (N := 3) ?hd (cs := #[.int .i64 a1_0, .int .u64 a1_1, .slice A1_2 l1_2.length c1_2, .slice A1_3 l1_3.length c1_3, .int .i64 a1_4, .int .i64 a1_5, .int .i64 a1_6, .int .i64 a1_7, .int .i64 a1_8, .int .i64 a1_9]) (t := 40) ?hr ?_; (case hd => rfl); (case hg => rfl); (case hr => first | (go_simp; done) | (go_simp; rfl)); intro gb181 hg w24 hbox hb; have BK181 := Goto.m0 (hbox); have GW181 := Goto.gs HB hg; have GE181 := Goto.gs HB hg; have NB180_181 := Goto.nl BK180 hg; have NB181_180 := Goto.nr BK180 hg; replace BK180 := Goto.bb BK180 hb; replace HB := Goto.hs HB hb; clear hb hbox hg; have hnb25 := NB180_181.out; have hnc25 := NB181_180.out; have hcz26_0 := Goto.bc0 BK180; have hcz26_1 := Goto.bc1 BK180; have hcz26_2 := Goto.bc2 BK180; have hcz26_3 := Goto.bc3 BK180; have hcz26_4 := Goto.bc4 BK180; have hcz26_5 := Goto.bc5 BK180; have hcz26_6 := Goto.bc6 BK180; have hcz26_7 := Goto.bc7 BK180; have hcz26_8 := Goto.bc8 BK180; have hcz26_9 := Goto.bc9 BK180; have hfz26_0 := Goto.bf BK180 0; have hfz26_1 := Goto.bf BK180 1; have hfz26_2 := Goto.bf BK180 2; have hfz26_3 := Goto.bf BK180 3; have hfz26_4 := Goto.bf BK180 4; have hfz26_5 := Goto.bf BK180 5; have hfz26_6 := Goto.bf BK180 6; have hfz26_7 := Goto.bf BK180 7; have hfz26_8 := Goto.bf BK180 8; have hfz26_9 := Goto.bf BK180 9; have hcz27_0 := Goto.bc0 BK181; have hcz27_1 := Goto.bc1 BK181; have hcz27_2 := Goto.bc2 BK181; have hcz27_3 := Goto.bc3 BK181; have hcz27_4 := Goto.bc4 BK181; have hcz27_5 := Goto.bc5 BK181; have hcz27_6 := Goto.bc6 BK181; have hcz27_7 := Goto.bc7 BK181; have hcz27_8 := Goto.bc8 BK181; have hcz27_9 := Goto.bc9 BK181; have hfz27_0 := Goto.bf BK181 0; have hfz27_1 := Goto.bf BK181 1; have hfz27_2 := Goto.bf BK181 2; have hfz27_3 := Goto.bf BK181 3; have hfz27_4 := Goto.bf BK181 4; have hfz27_5 := Goto.bf BK181 5; have hfz27_6 := Goto.bf BK181 6; have hfz27_7 := Goto.bf BK181 7; have hfz27_8 := Goto.bf BK181 8; have hfz27_9 := Goto.bf BK181 9) | (go_at_call 24; (with_reducible refine (slices_EqualFunc_int_int_int_int.calls k _ _ l0_2 _ _ l1_2 () true _ ?side1 ?side2 ?side3 ?side4 A4.out).mono ?_); (case side1 => repeat (first | exact (Kd.C_below HR0_2.out HB.out) | (with_reducible refine Kd.C_alloc ?_ _) | (with_reducible refine Kd.C_drewN ?_ _) | (with_reducible refine Kd.C_drew ?_))); (case side2 => exact HC0_2.out); (case side3 => repeat (first | exact (Kd.C_below HR1_2.out HB.out) | (with_reducible refine Kd.C_alloc ?_ _) | (with_reducible refine Kd.C_drewN ?_ _) | (with_reducible refine Kd.C_drew ?_))); (case side4 => exact HC1_2.out); rintro e w' ⟨rfl, ⟨nd, rfl⟩⟩) | (go_at_call 25; (with_reducible refine (slices_Equal_int_int.calls k _ _ l0_3 _ _ l1_3 true _ ?side1 ?side2 ?side3 ?side4 A6.out).mono ?_); (case side1 => repeat (first | exact (Kd.C_below HR0_3.out (Goto.hx HB)) | (with_reducible refine Kd.C_alloc ?_ _) | (with_reducible refine Kd.C_drewN ?_ _) | (with_reducible refine Kd.C_drew ?_))); (case side2 => exact HC0_3.out); (case side3 => repeat (first | exact (Kd.C_below HR1_3.out (Goto.hx HB)) | (with_reducible refine Kd.C_alloc ?_ _) | (with_reducible refine Kd.C_drewN ?_ _) | (with_reducible refine Kd.C_drew ?_))); (case side4 => exact HC1_3.out); rintro e w' ⟨rfl, ⟨nd, rfl⟩⟩))
        go_ret
        exact ⟨Goto.er, by repeat (first | (with_reducible first | exact HB.out | apply below_alloc | apply pw_below_drewN | apply below_drew1 | refine below_set ?_ GE180.out | refine below_set ?_ GE181.out) | exact HB.out)⟩
      ·
       rw [if_neg c10] at H
       have c10b0 : (a0_6 == a1_6) = false := beq_eq_false_iff_ne.mpr c10
       have c10b1 : (a0_6 != a1_6) = true := bne_iff_ne.mpr c10
       obtain rfl := Option.some.inj H
       go_enter Tryd.func27, Tryd.ntmps27
       go_wp2_with (first | (apply wp_region_lit; refine conf_sameDomain.flatc ?_) | (with_reducible refine conf_sameDomain.flatc ?_) | (with_reducible refine conf_sameDomain.flatn ?_) | ((with_reducible refine gate_dst (N := 2) rfl ?_); refine box_event ?hg (N := 2) ?hd (cs := #[.int .i64 a0_0, .int .u64 a0_1, .slice A0_2 l0_2.length c0_2, .slice A0_3 l0_3.length c0_3, .int .i64 a0_4, .int .i64 a0_5, .int .i64 a0_6, .int .i64 a0_7, .int .i64 a0_8, .int .i64 a0_9]) (t := 40) ?hr ?_; (case hd => rfl); (case hg => rfl); (case hr => first | (go_simp; done) | (go_simp; rfl)); intro gb180 hg w28 hbox hb; have BK180 := Goto.m0 (hbox); have GW180 := Goto.gs HB hg; have GE180 := Goto.gs HB hg; replace HB := Goto.hs HB hb; clear hb hbox hg) | ((with_reducible refine gate_dst (N := 3) rfl ?_); refine box_event ?hg (N := 3) ?hd (cs := #[.int .i64 a1_0, .int .u64 a1_1, .slice A1_2 l1_2.length c1_2, .slice A1_3 l1_3.length c1_3, .int .i64 a1_4, .int .i64 a1_5, .int .i64 a1_6, .int .i64 a1_7, .int .i64 a1_8, .int .i64 a1_9]) (t := 40) ?hr ?_; (case hd => rfl); (case hg => rfl); (case hr => first | (go_simp; done) | (go_simp; rfl)); intro gb181 hg w29 hbox hb; have BK181 := Goto.m0 (hbox); have GW181 := Goto.gs HB hg; have GE181 := Goto.gs HB hg; have NB180_181 := Goto.nl BK180 hg; have NB181_180 := Goto.nr BK180 hg; replace BK180 := Goto.bb BK180 hb; replace HB := Goto.hs HB hb; clear hb hbox hg; have hnb30 := NB180_181.out; have hnc30 := NB181_180.out; have hcz31_0 := Goto.bc0 BK180; have hcz31_1 := Goto.bc1 BK180; have hcz31_2 := Goto.bc2 BK180; have hcz31_3 := Goto.bc3 BK180; have hcz31_4 := Goto.bc4 BK180; have hcz31_5 := Goto.bc5 BK180; have hcz31_6 := Goto.bc6 BK180; have hcz31_7 := Goto.bc7 BK180; have hcz31_8 := Goto.bc8 BK180; have hcz31_9 := Goto.bc9 BK180; have hfz31_0 := Goto.bf BK180 0; have hfz31_1 := Goto.bf BK180 1; have hfz31_2 := Goto.bf BK180 2; have hfz31_3 := Goto.bf BK180 3; have hfz31_4 := Goto.bf BK180 4; have hfz31_5 := Goto.bf BK180 5; have hfz31_6 := Goto.bf BK180 6; have hfz31_7 := Goto.bf BK180 7; have hfz31_8 := Goto.bf BK180 8; have hfz31_9 := Goto.bf BK180 9; have hcz32_0 := Goto.bc0 BK181; have hcz32_1 := Goto.bc1 BK181; have hcz32_2 := Goto.bc2 BK181; have hcz32_3 := Goto.bc3 BK181; have hcz32_4 := Goto.bc4 BK181; have hcz32_5 := Goto.bc5 BK181; have hcz32_6 := Goto.bc6 BK181; have hcz32_7 := Goto.bc7 BK181; have hcz32_8 := Goto.bc8 BK181; have hcz32_9 := Goto.bc9 BK181; have hfz32_0 := Goto.bf BK181 0; have hfz32_1 := Goto.bf BK181 1; have hfz32_2 := Goto.bf BK181 2; have hfz32_3 := Goto.bf BK181 3; have hfz32_4 := Goto.bf BK181 4; have hfz32_5 := Goto.bf BK181 5; have hfz32_6 := Goto.bf BK181 6; have hfz32_7 := Goto.bf BK181 7; have hfz32_8 := Goto.bf BK181 8; have hfz32_9 := Goto.bf BK181 9) | (go_at_call 24; (with_reducible refine (slices_EqualFunc_int_int_int_int.calls k _ _ l0_2 _ _ l1_2 () true _ ?side1 ?side2 ?side3 ?side4 A4.out).mono ?_); (case side1 => repeat (first | exact (Kd.C_below HR0_2.out HB.out) | (with_reducible refine Kd.C_alloc ?_ _) | (with_reducible refine Kd.C_drewN ?_ _) | (with_reducible refine Kd.C_drew ?_))); (case side2 => exact HC0_2.out); (case side3 => repeat (first | exact (Kd.C_below HR1_2.out HB.out) | (with_reducible refine Kd.C_alloc ?_ _) | (with_reducible refine Kd.C_drewN ?_ _) | (with_reducible refine Kd.C_drew ?_))); (case side4 => exact HC1_2.out); rintro e w' ⟨rfl, ⟨nd, rfl⟩⟩) | (go_at_call 25; (with_reducible refine (slices_Equal_int_int.calls k _ _ l0_3 _ _ l1_3 true _ ?side1 ?side2 ?side3 ?side4 A6.out).mono ?_); (case side1 => repeat (first | exact (Kd.C_below HR0_3.out (Goto.hx HB)) | (with_reducible refine Kd.C_alloc ?_ _) | (with_reducible refine Kd.C_drewN ?_ _) | (with_reducible refine Kd.C_drew ?_))); (case side2 => exact HC0_3.out); (case side3 => repeat (first | exact (Kd.C_below HR1_3.out (Goto.hx HB)) | (with_reducible refine Kd.C_alloc ?_ _) | (with_reducible refine Kd.C_drewN ?_ _) | (with_reducible refine Kd.C_drew ?_))); (case side4 => exact HC1_3.out); rintro e w' ⟨rfl, ⟨nd, rfl⟩⟩))
       go_ret
       exact ⟨Goto.er, by repeat (first | (with_reducible first | exact HB.out | apply below_alloc | apply pw_below_drewN | apply below_drew1 | refine below_set ?_ GE180.out | refine below_set ?_ GE181.out) | exact HB.out)⟩
     ·
      rw [if_neg c9] at H
      have c9b0 : (a0_5 == a1_5) = false := beq_eq_false_iff_ne.mpr c9
      have c9b1 : (a0_5 != a1_5) = true := bne_iff_ne.mpr c9
      obtain rfl := Option.some.inj H
      go_enter Tryd.func27, Tryd.ntmps27
      go_wp2_with (first | (apply wp_region_lit; refine conf_sameDomain.flatc ?_) | (with_reducible refine conf_sameDomain.flatc ?_) | (with_reducible refine conf_sameDomain.flatn ?_) | ((with_reducible refine gate_dst (N := 2) rfl ?_); refine box_event ?hg (N := 2) ?hd (cs := #[.int .i64 a0_0, .int .u64 a0_1, .slice A0_2 l0_2.length c0_2, .slice A0_3 l0_3.length c0_3, .int .i64 a0_4, .int .i64 a0_5, .int .i64 a0_6, .int .i64 a0_7, .int .i64 a0_8, .int .i64 a0_9]) (t := 40) ?hr ?_; (case hd => rfl); (case hg => rfl); (case hr => first | (go_simp; done) | (go_simp; rfl)); intro gb180 hg w33 hbox hb; have BK180 := Goto.m0 (hbox); have GW180 := Goto.gs HB hg; have GE180 := Goto.gs HB hg; replace HB := Goto.hs HB hb; clear hb hbox hg) | ((with_reducible refine gate_dst (N := 3) rfl ?_); refine box_event ?hg (N := 3) ?hd (cs := #[.int .i64 a1_0, .int .u64 a1_1, .slice A1_2 l1_2.length c1_2, .slice A1_3 l1_3.length c1_3, .int .i64 a1_4, .int .i64 a1_5, .int .i64 a1_6, .int .i64 a1_7, .int .i64 a1_8, .int .i64 a1_9]) (t := 40) ?hr ?_; (case hd => rfl); (case hg => rfl); (case hr => first | (go_simp; done) | (go_simp; rfl)); intro gb181 hg w34 hbox hb; have BK181 := Goto.m0 (hbox); have GW181 := Goto.gs HB hg; have GE181 := Goto.gs HB hg; have NB180_181 := Goto.nl BK180 hg; have NB181_180 := Goto.nr BK180 hg; replace BK180 := Goto.bb BK180 hb; replace HB := Goto.hs HB hb; clear hb hbox hg; have hnb35 := NB180_181.out; have hnc35 := NB181_180.out; have hcz36_0 := Goto.bc0 BK180; have hcz36_1 := Goto.bc1 BK180; have hcz36_2 := Goto.bc2 BK180; have hcz36_3 := Goto.bc3 BK180; have hcz36_4 := Goto.bc4 BK180; have hcz36_5 := Goto.bc5 BK180; have hcz36_6 := Goto.bc6 BK180; have hcz36_7 := Goto.bc7 BK180; have hcz36_8 := Goto.bc8 BK180; have hcz36_9 := Goto.bc9 BK180; have hfz36_0 := Goto.bf BK180 0; have hfz36_1 := Goto.bf BK180 1; have hfz36_2 := Goto.bf BK180 2; have hfz36_3 := Goto.bf BK180 3; have hfz36_4 := Goto.bf BK180 4; have hfz36_5 := Goto.bf BK180 5; have hfz36_6 := Goto.bf BK180 6; have hfz36_7 := Goto.bf BK180 7; have hfz36_8 := Goto.bf BK180 8; have hfz36_9 := Goto.bf BK180 9; have hcz37_0 := Goto.bc0 BK181; have hcz37_1 := Goto.bc1 BK181; have hcz37_2 := Goto.bc2 BK181; have hcz37_3 := Goto.bc3 BK181; have hcz37_4 := Goto.bc4 BK181; have hcz37_5 := Goto.bc5 BK181; have hcz37_6 := Goto.bc6 BK181; have hcz37_7 := Goto.bc7 BK181; have hcz37_8 := Goto.bc8 BK181; have hcz37_9 := Goto.bc9 BK181; have hfz37_0 := Goto.bf BK181 0; have hfz37_1 := Goto.bf BK181 1; have hfz37_2 := Goto.bf BK181 2; have hfz37_3 := Goto.bf BK181 3; have hfz37_4 := Goto.bf BK181 4; have hfz37_5 := Goto.bf BK181 5; have hfz37_6 := Goto.bf BK181 6; have hfz37_7 := Goto.bf BK181 7; have hfz37_8 := Goto.bf BK181 8; have hfz37_9 := Goto.bf BK181 9) | (go_at_call 24; (with_reducible refine (slices_EqualFunc_int_int_int_int.calls k _ _ l0_2 _ _ l1_2 () true _ ?side1 ?side2 ?side3 ?side4 A4.out).mono ?_); (case side1 => repeat (first | exact (Kd.C_below HR0_2.out HB.out) | (with_reducible refine Kd.C_alloc ?_ _) | (with_reducible refine Kd.C_drewN ?_ _) | (with_reducible refine Kd.C_drew ?_))); (case side2 => exact HC0_2.out); (case side3 => repeat (first | exact (Kd.C_below HR1_2.out HB.out) | (with_reducible refine Kd.C_alloc ?_ _) | (with_reducible refine Kd.C_drewN ?_ _) | (with_reducible refine Kd.C_drew ?_))); (case side4 => exact HC1_2.out); rintro e w' ⟨rfl, ⟨nd, rfl⟩⟩) | (go_at_call 25; (with_reducible refine (slices_Equal_int_int.calls k _ _ l0_3 _ _ l1_3 true _ ?side1 ?side2 ?side3 ?side4 A6.out).mono ?_); (case side1 => repeat (first | exact (Kd.C_below HR0_3.out (Goto.hx HB)) | (with_reducible refine Kd.C_alloc ?_ _) | (with_reducible refine Kd.C_drewN ?_ _) | (with_reducible refine Kd.C_drew ?_))); (case side2 => exact HC0_3.out); (case side3 => repeat (first | exact (Kd.C_below HR1_3.out (Goto.hx HB)) | (with_reducible refine Kd.C_alloc ?_ _) | (with_reducible refine Kd.C_drewN ?_ _) | (with_reducible refine Kd.C_drew ?_))); (case side4 => exact HC1_3.out); rintro e w' ⟨rfl, ⟨nd, rfl⟩⟩))
      go_ret
      exact ⟨Goto.er, by repeat (first | (with_reducible first | exact HB.out | apply below_alloc | apply pw_below_drewN | apply below_drew1 | refine below_set ?_ GE180.out | refine below_set ?_ GE181.out) | exact HB.out)⟩
    ·
     rw [if_neg c8] at H
     have c8b0 : (a0_4 == a1_4) = false := beq_eq_false_iff_ne.mpr c8
     have c8b1 : (a0_4 != a1_4) = true := bne_iff_ne.mpr c8
     obtain rfl := Option.some.inj H
     go_enter Tryd.func27, Tryd.ntmps27
     go_wp2_with (first | (apply wp_region_lit; refine conf_sameDomain.flatc ?_) | (with_reducible refine conf_sameDomain.flatc ?_) | (with_reducible refine conf_sameDomain.flatn ?_) | ((with_reducible refine gate_dst (N := 2) rfl ?_); refine box_event ?hg (N := 2) ?hd (cs := #[.int .i64 a0_0, .int .u64 a0_1, .slice A0_2 l0_2.length c0_2, .slice A0_3 l0_3.length c0_3, .int .i64 a0_4, .int .i64 a0_5, .int .i64 a0_6, .int .i64 a0_7, .int .i64 a0_8, .int .i64 a0_9]) (t := 40) ?hr ?_; (case hd => rfl); (case hg => rfl); (case hr => first | (go_simp; done) | (go_simp; rfl)); intro gb180 hg w38 hbox hb; have BK180 := Goto.m0 (hbox); have GW180 := Goto.gs HB hg; have GE180 := Goto.gs HB hg; replace HB := Goto.hs HB hb; clear hb hbox hg) | ((with_reducible refine gate_dst (N := 3) rfl ?_); refine box_event ?hg (N := 3) ?hd (cs := #[.int .i64 a1_0, .int .u64 a1_1, .slice A1_2 l1_2.length c1_2, .slice A1_3 l1_3.length c1_3, .int .i64 a1_4, .int .i64 a1_5, .int .i64 a1_6, .int .i64 a1_7, .int .i64 a1_8, .int .i64 a1_9]) (t := 40) ?hr ?_; (case hd => rfl); (case hg => rfl); (case hr => first | (go_simp; done) | (go_simp; rfl)); intro gb181 hg w39 hbox hb; have BK181 := Goto.m0 (hbox); have GW181 := Goto.gs HB hg; have GE181 := Goto.gs HB hg; have NB180_181 := Goto.nl BK180 hg; have NB181_180 := Goto.nr BK180 hg; replace BK180 := Goto.bb BK180 hb; replace HB := Goto.hs HB hb; clear hb hbox hg; have hnb40 := NB180_181.out; have hnc40 := NB181_180.out; have hcz41_0 := Goto.bc0 BK180; have hcz41_1 := Goto.bc1 BK180; have hcz41_2 := Goto.bc2 BK180; have hcz41_3 := Goto.bc3 BK180; have hcz41_4 := Goto.bc4 BK180; have hcz41_5 := Goto.bc5 BK180; have hcz41_6 := Goto.bc6 BK180; have hcz41_7 := Goto.bc7 BK180; have hcz41_8 := Goto.bc8 BK180; have hcz41_9 := Goto.bc9 BK180; have hfz41_0 := Goto.bf BK180 0; have hfz41_1 := Goto.bf BK180 1; have hfz41_2 := Goto.bf BK180 2; have hfz41_3 := Goto.bf BK180 3; have hfz41_4 := Goto.bf BK180 4; have hfz41_5 := Goto.bf BK180 5; have hfz41_6 := Goto.bf BK180 6; have hfz41_7 := Goto.bf BK180 7; have hfz41_8 := Goto.bf BK180 8; have hfz41_9 := Goto.bf BK180 9; have hcz42_0 := Goto.bc0 BK181; have hcz42_1 := Goto.bc1 BK181; have hcz42_2 := Goto.bc2 BK181; have hcz42_3 := Goto.bc3 BK181; have hcz42_4 := Goto.bc4 BK181; have hcz42_5 := Goto.bc5 BK181; have hcz42_6 := Goto.bc6 BK181; have hcz42_7 := Goto.bc7 BK181; have hcz42_8 := Goto.bc8 BK181; have hcz42_9 := Goto.bc9 BK181; have hfz42_0 := Goto.bf BK181 0; have hfz42_1 := Goto.bf BK181 1; have hfz42_2 := Goto.bf BK181 2; have hfz42_3 := Goto.bf BK181 3; have hfz42_4 := Goto.bf BK181 4; have hfz42_5 := Goto.bf BK181 5; have hfz42_6 := Goto.bf BK181 6; have hfz42_7 := Goto.bf BK181 7; have hfz42_8 := Goto.bf BK181 8; have hfz42_9 := Goto.bf BK181 9) | (go_at_call 24; (with_reducible refine (slices_EqualFunc_int_int_int_int.calls k _ _ l0_2 _ _ l1_2 () true _ ?side1 ?side2 ?side3 ?side4 A4.out).mono ?_); (case side1 => repeat (first | exact (Kd.C_below HR0_2.out HB.out) | (with_reducible refine Kd.C_alloc ?_ _) | (with_reducible refine Kd.C_drewN ?_ _) | (with_reducible refine Kd.C_drew ?_))); (case side2 => exact HC0_2.out); (case side3 => repeat (first | exact (Kd.C_below HR1_2.out HB.out) | (with_reducible refine Kd.C_alloc ?_ _) | (with_reducible refine Kd.C_drewN ?_ _) | (with_reducible refine Kd.C_drew ?_))); (case side4 => exact HC1_2.out); rintro e w' ⟨rfl, ⟨nd, rfl⟩⟩) | (go_at_call 25; (with_reducible refine (slices_Equal_int_int.calls k _ _ l0_3 _ _ l1_3 true _ ?side1 ?side2 ?side3 ?side4 A6.out).mono ?_); (case side1 => repeat (first | exact (Kd.C_below HR0_3.out (Goto.hx HB)) | (with_reducible refine Kd.C_alloc ?_ _) | (with_reducible refine Kd.C_drewN ?_ _) | (with_reducible refine Kd.C_drew ?_))); (case side2 => exact HC0_3.out); (case side3 => repeat (first | exact (Kd.C_below HR1_3.out (Goto.hx HB)) | (with_reducible refine Kd.C_alloc ?_ _) | (with_reducible refine Kd.C_drewN ?_ _) | (with_reducible refine Kd.C_drew ?_))); (case side4 => exact HC1_3.out); rintro e w' ⟨rfl, ⟨nd, rfl⟩⟩))
     go_ret
     exact ⟨Goto.er, by repeat (first | (with_reducible first | exact HB.out | apply below_alloc | apply pw_below_drewN | apply below_drew1 | refine below_set ?_ GE180.out | refine below_set ?_ GE181.out) | exact HB.out)⟩
   ·
    replace c7 := Bool.eq_false_iff.mpr c7
    subst c7
    rw [if_neg (show ¬ (false = true) by decide)] at H
    obtain rfl := Option.some.inj H
    go_enter Tryd.func27, Tryd.ntmps27
    go_wp2_with (first | (apply wp_region_lit; refine conf_sameDomain.flatc ?_) | (with_reducible refine conf_sameDomain.flatc ?_) | (with_reducible refine conf_sameDomain.flatn ?_) | ((with_reducible refine gate_dst (N := 2) rfl ?_); refine box_event ?hg (N := 2) ?hd (cs := #[.int .i64 a0_0, .int .u64 a0_1, .slice A0_2 l0_2.length c0_2, .slice A0_3 l0_3.length c0_3, .int .i64 a0_4, .int .i64 a0_5, .int .i64 a0_6, .int .i64 a0_7, .int .i64 a0_8, .int .i64 a0_9]) (t := 40) ?hr ?_; (case hd => rfl); (case hg => rfl); (case hr => first | (go_simp; done) | (go_simp; rfl)); intro gb180 hg w43 hbox hb; have BK180 := Goto.m0 (hbox); have GW180 := Goto.gs HB hg; have GE180 := Goto.gs HB hg; replace HB := Goto.hs HB hb; clear hb hbox hg) | ((with_reducible refine gate_dst (N := 3) rfl ?_); refine box_event ?hg (N := 3) ?hd (cs := #[.int .i64 a1_0, .int .u64 a1_1, .slice A1_2 l1_2.length c1_2, .slice A1_3 l1_3.length c1_3, .int .i64 a1_4, .int .i64 a1_5, .int .i64 a1_6, .int .i64 a1_7, .int .i64 a1_8, .int .i64 a1_9]) (t := 40) ?hr ?_; (case hd => rfl); (case hg => rfl); (case hr => first | (go_simp; done) | (go_simp; rfl)); intro gb181 hg w44 hbox hb; have BK181 := Goto.m0 (hbox); have GW181 := Goto.gs HB hg; have GE181 := Goto.gs HB hg; have NB180_181 := Goto.nl BK180 hg; have NB181_180 := Goto.nr BK180 hg; replace BK180 := Goto.bb BK180 hb; replace HB := Goto.hs HB hb; clear hb hbox hg; have hnb45 := NB180_181.out; have hnc45 := NB181_180.out; have hcz46_0 := Goto.bc0 BK180; have hcz46_1 := Goto.bc1 BK180; have hcz46_2 := Goto.bc2 BK180; have hcz46_3 := Goto.bc3 BK180; have hcz46_4 := Goto.bc4 BK180; have hcz46_5 := Goto.bc5 BK180; have hcz46_6 := Goto.bc6 BK180; have hcz46_7 := Goto.bc7 BK180; have hcz46_8 := Goto.bc8 BK180; have hcz46_9 := Goto.bc9 BK180; have hfz46_0 := Goto.bf BK180 0; have hfz46_1 := Goto.bf BK180 1; have hfz46_2 := Goto.bf BK180 2; have hfz46_3 := Goto.bf BK180 3; have hfz46_4 := Goto.bf BK180 4; have hfz46_5 := Goto.bf BK180 5; have hfz46_6 := Goto.bf BK180 6; have hfz46_7 := Goto.bf BK180 7; have hfz46_8 := Goto.bf BK180 8; have hfz46_9 := Goto.bf BK180 9; have hcz47_0 := Goto.bc0 BK181; have hcz47_1 := Goto.bc1 BK181; have hcz47_2 := Goto.bc2 BK181; have hcz47_3 := Goto.bc3 BK181; have hcz47_4 := Goto.bc4 BK181; have hcz47_5 := Goto.bc5 BK181; have hcz47_6 := Goto.bc6 BK181; have hcz47_7 := Goto.bc7 BK181; have hcz47_8 := Goto.bc8 BK181; have hcz47_9 := Goto.bc9 BK181; have hfz47_0 := Goto.bf BK181 0; have hfz47_1 := Goto.bf BK181 1; have hfz47_2 := Goto.bf BK181 2; have hfz47_3 := Goto.bf BK181 3; have hfz47_4 := Goto.bf BK181 4; have hfz47_5 := Goto.bf BK181 5; have hfz47_6 := Goto.bf BK181 6; have hfz47_7 := Goto.bf BK181 7; have hfz47_8 := Goto.bf BK181 8; have hfz47_9 := Goto.bf BK181 9) | (go_at_call 24; (with_reducible refine (slices_EqualFunc_int_int_int_int.calls k _ _ l0_2 _ _ l1_2 () true _ ?side1 ?side2 ?side3 ?side4 A4.out).mono ?_); (case side1 => repeat (first | exact (Kd.C_below HR0_2.out HB.out) | (with_reducible refine Kd.C_alloc ?_ _) | (with_reducible refine Kd.C_drewN ?_ _) | (with_reducible refine Kd.C_drew ?_))); (case side2 => exact HC0_2.out); (case side3 => repeat (first | exact (Kd.C_below HR1_2.out HB.out) | (with_reducible refine Kd.C_alloc ?_ _) | (with_reducible refine Kd.C_drewN ?_ _) | (with_reducible refine Kd.C_drew ?_))); (case side4 => exact HC1_2.out); rintro e w' ⟨rfl, ⟨nd, rfl⟩⟩) | (go_at_call 25; (with_reducible refine (slices_Equal_int_int.calls k _ _ l0_3 _ _ l1_3 false _ ?side1 ?side2 ?side3 ?side4 A6.out).mono ?_); (case side1 => repeat (first | exact (Kd.C_below HR0_3.out (Goto.hx HB)) | (with_reducible refine Kd.C_alloc ?_ _) | (with_reducible refine Kd.C_drewN ?_ _) | (with_reducible refine Kd.C_drew ?_))); (case side2 => exact HC0_3.out); (case side3 => repeat (first | exact (Kd.C_below HR1_3.out (Goto.hx HB)) | (with_reducible refine Kd.C_alloc ?_ _) | (with_reducible refine Kd.C_drewN ?_ _) | (with_reducible refine Kd.C_drew ?_))); (case side4 => exact HC1_3.out); rintro e w' ⟨rfl, ⟨nd, rfl⟩⟩))
    go_ret
    exact ⟨Goto.er, by repeat (first | (with_reducible first | exact HB.out | apply below_alloc | apply pw_below_drewN | apply below_drew1 | refine below_set ?_ GE180.out | refine below_set ?_ GE181.out) | exact HB.out)⟩
  ·
   replace c5 := Bool.eq_false_iff.mpr c5
   subst c5
   rw [if_neg (show ¬ (false = true) by decide)] at H
   obtain rfl := Option.some.inj H
   go_enter Tryd.func27, Tryd.ntmps27
   go_wp2_with (first | (apply wp_region_lit; refine conf_sameDomain.flatc ?_) | (with_reducible refine conf_sameDomain.flatc ?_) | (with_reducible refine conf_sameDomain.flatn ?_) | ((with_reducible refine gate_dst (N := 2) rfl ?_); refine box_event ?hg (N := 2) ?hd (cs := #[.int .i64 a0_0, .int .u64 a0_1, .slice A0_2 l0_2.length c0_2, .slice A0_3 l0_3.length c0_3, .int .i64 a0_4, .int .i64 a0_5, .int .i64 a0_6, .int .i64 a0_7, .int .i64 a0_8, .int .i64 a0_9]) (t := 40) ?hr ?_; (case hd => rfl); (case hg => rfl); (case hr => first | (go_simp; done) | (go_simp; rfl)); intro gb180 hg w48 hbox hb; have BK180 := Goto.m0 (hbox); have GW180 := Goto.gs HB hg; have GE180 := Goto.gs HB hg; replace HB := Goto.hs HB hb; clear hb hbox hg) | ((with_reducible refine gate_dst (N := 3) rfl ?_); refine box_event ?hg (N := 3) ?hd (cs := #[.int .i64 a1_0, .int .u64 a1_1, .slice A1_2 l1_2.length c1_2, .slice A1_3 l1_3.length c1_3, .int .i64 a1_4, .int .i64 a1_5, .int .i64 a1_6, .int .i64 a1_7, .int .i64 a1_8, .int .i64 a1_9]) (t := 40) ?hr ?_; (case hd => rfl); (case hg => rfl); (case hr => first | (go_simp; done) | (go_simp; rfl)); intro gb181 hg w49 hbox hb; have BK181 := Goto.m0 (hbox); have GW181 := Goto.gs HB hg; have GE181 := Goto.gs HB hg; have NB180_181 := Goto.nl BK180 hg; have NB181_180 := Goto.nr BK180 hg; replace BK180 := Goto.bb BK180 hb; replace HB := Goto.hs HB hb; clear hb hbox hg; have hnb50 := NB180_181.out; have hnc50 := NB181_180.out; have hcz51_0 := Goto.bc0 BK180; have hcz51_1 := Goto.bc1 BK180; have hcz51_2 := Goto.bc2 BK180; have hcz51_3 := Goto.bc3 BK180; have hcz51_4 := Goto.bc4 BK180; have hcz51_5 := Goto.bc5 BK180; have hcz51_6 := Goto.bc6 BK180; have hcz51_7 := Goto.bc7 BK180; have hcz51_8 := Goto.bc8 BK180; have hcz51_9 := Goto.bc9 BK180; have hfz51_0 := Goto.bf BK180 0; have hfz51_1 := Goto.bf BK180 1; have hfz51_2 := Goto.bf BK180 2; have hfz51_3 := Goto.bf BK180 3; have hfz51_4 := Goto.bf BK180 4; have hfz51_5 := Goto.bf BK180 5; have hfz51_6 := Goto.bf BK180 6; have hfz51_7 := Goto.bf BK180 7; have hfz51_8 := Goto.bf BK180 8; have hfz51_9 := Goto.bf BK180 9; have hcz52_0 := Goto.bc0 BK181; have hcz52_1 := Goto.bc1 BK181; have hcz52_2 := Goto.bc2 BK181; have hcz52_3 := Goto.bc3 BK181; have hcz52_4 := Goto.bc4 BK181; have hcz52_5 := Goto.bc5 BK181; have hcz52_6 := Goto.bc6 BK181; have hcz52_7 := Goto.bc7 BK181; have hcz52_8 := Goto.bc8 BK181; have hcz52_9 := Goto.bc9 BK181; have hfz52_0 := Goto.bf BK181 0; have hfz52_1 := Goto.bf BK181 1; have hfz52_2 := Goto.bf BK181 2; have hfz52_3 := Goto.bf BK181 3; have hfz52_4 := Goto.bf BK181 4; have hfz52_5 := Goto.bf BK181 5; have hfz52_6 := Goto.bf BK181 6; have hfz52_7 := Goto.bf BK181 7; have hfz52_8 := Goto.bf BK181 8; have hfz52_9 := Goto.bf BK181 9) | (go_at_call 24; (with_reducible refine (slices_EqualFunc_int_int_int_int.calls k _ _ l0_2 _ _ l1_2 () false _ ?side1 ?side2 ?side3 ?side4 A4.out).mono ?_); (case side1 => repeat (first | exact (Kd.C_below HR0_2.out HB.out) | (with_reducible refine Kd.C_alloc ?_ _) | (with_reducible refine Kd.C_drewN ?_ _) | (with_reducible refine Kd.C_drew ?_))); (case side2 => exact HC0_2.out); (case side3 => repeat (first | exact (Kd.C_below HR1_2.out HB.out) | (with_reducible refine Kd.C_alloc ?_ _) | (with_reducible refine Kd.C_drewN ?_ _) | (with_reducible refine Kd.C_drew ?_))); (case side4 => exact HC1_2.out); rintro e w' ⟨rfl, ⟨nd, rfl⟩⟩))
   go_ret
   exact ⟨Goto.er, by repeat (first | (with_reducible first | exact HB.out | apply below_alloc | apply pw_below_drewN | apply below_drew1 | refine below_set ?_ GE180.out | refine below_set ?_ GE181.out) | exact HB.out)⟩
 ·
  rw [if_neg c3] at H
  have c3b0 : (a0_0 == a1_0 && (a0_1 == a1_1)) = false := by simpa using c3
  (try (have c3b1 : decide (a0_0 = a1_0 && (a0_1 == a1_1)) = false := by simpa using c3))
  (try (have c3b2 : (a0_0 == a1_0 && (a0_1 == a1_1)) = false := by simpa using c3))
  (try (have c3b3 : ¬ (a0_0 = a1_0 && (a0_1 == a1_1)) := by simpa using c3))
  clear c3
  obtain rfl := Option.some.inj H
  go_enter Tryd.func27, Tryd.ntmps27
  go_wp2_with (first | (apply wp_region_lit; refine conf_sameDomain.flatc ?_) | (with_reducible refine conf_sameDomain.flatc ?_) | (with_reducible refine conf_sameDomain.flatn ?_) | ((with_reducible refine gate_dst (N := 2) rfl ?_); refine box_event ?hg (N := 2) ?hd (cs := #[.int .i64 a0_0, .int .u64 a0_1, .slice A0_2 l0_2.length c0_2, .slice A0_3 l0_3.length c0_3, .int .i64 a0_4, .int .i64 a0_5, .int .i64 a0_6, .int .i64 a0_7, .int .i64 a0_8, .int .i64 a0_9]) (t := 40) ?hr ?_; (case hd => rfl); (case hg => rfl); (case hr => first | (go_simp; done) | (go_simp; rfl)); intro gb180 hg w53 hbox hb; have BK180 := Goto.m0 (hbox); have GW180 := Goto.gs HB hg; have GE180 := Goto.gs HB hg; replace HB := Goto.hs HB hb; clear hb hbox hg) | ((with_reducible refine gate_dst (N := 3) rfl ?_); refine box_event ?hg (N := 3) ?hd (cs := #[.int .i64 a1_0, .int .u64 a1_1, .slice A1_2 l1_2.length c1_2, .slice A1_3 l1_3.length c1_3, .int .i64 a1_4, .int .i64 a1_5, .int .i64 a1_6, .int .i64 a1_7, .int .i64 a1_8, .int .i64 a1_9]) (t := 40) ?hr ?_; (case hd => rfl); (case hg => rfl); (case hr => first | (go_simp; done) | (go_simp; rfl)); intro gb181 hg w54 hbox hb; have BK181 := Goto.m0 (hbox); have GW181 := Goto.gs HB hg; have GE181 := Goto.gs HB hg; have NB180_181 := Goto.nl BK180 hg; have NB181_180 := Goto.nr BK180 hg; replace BK180 := Goto.bb BK180 hb; replace HB := Goto.hs HB hb; clear hb hbox hg; have hnb55 := NB180_181.out; have hnc55 := NB181_180.out; have hcz56_0 := Goto.bc0 BK180; have hcz56_1 := Goto.bc1 BK180; have hcz56_2 := Goto.bc2 BK180; have hcz56_3 := Goto.bc3 BK180; have hcz56_4 := Goto.bc4 BK180; have hcz56_5 := Goto.bc5 BK180; have hcz56_6 := Goto.bc6 BK180; have hcz56_7 := Goto.bc7 BK180; have hcz56_8 := Goto.bc8 BK180; have hcz56_9 := Goto.bc9 BK180; have hfz56_0 := Goto.bf BK180 0; have hfz56_1 := Goto.bf BK180 1; have hfz56_2 := Goto.bf BK180 2; have hfz56_3 := Goto.bf BK180 3; have hfz56_4 := Goto.bf BK180 4; have hfz56_5 := Goto.bf BK180 5; have hfz56_6 := Goto.bf BK180 6; have hfz56_7 := Goto.bf BK180 7; have hfz56_8 := Goto.bf BK180 8; have hfz56_9 := Goto.bf BK180 9; have hcz57_0 := Goto.bc0 BK181; have hcz57_1 := Goto.bc1 BK181; have hcz57_2 := Goto.bc2 BK181; have hcz57_3 := Goto.bc3 BK181; have hcz57_4 := Goto.bc4 BK181; have hcz57_5 := Goto.bc5 BK181; have hcz57_6 := Goto.bc6 BK181; have hcz57_7 := Goto.bc7 BK181; have hcz57_8 := Goto.bc8 BK181; have hcz57_9 := Goto.bc9 BK181; have hfz57_0 := Goto.bf BK181 0; have hfz57_1 := Goto.bf BK181 1; have hfz57_2 := Goto.bf BK181 2; have hfz57_3 := Goto.bf BK181 3; have hfz57_4 := Goto.bf BK181 4; have hfz57_5 := Goto.bf BK181 5; have hfz57_6 := Goto.bf BK181 6; have hfz57_7 := Goto.bf BK181 7; have hfz57_8 := Goto.bf BK181 8; have hfz57_9 := Goto.bf BK181 9))
  go_ret
  exact ⟨Goto.er, by repeat (first | (with_reducible first | exact HB.out | apply below_alloc | apply pw_below_drewN | apply below_drew1 | refine below_set ?_ GE180.out | refine below_set ?_ GE181.out) | exact HB.out)⟩

/-! ### api_Domain: function 26 -/
def api_Domain.l0 : Nat → List (S40) → List (S40) → Int → Int → Option (Bool)
  | 0, _, _, _, _ => none
  | k + 1, x1, x15, x16, x17 => if x17 < x16 then (if 0 ≤ x17 then (if x17 < (x15.length : Int) then (if x17 < (x1.length : Int) then ((conf_sameDomain.f k ((rd_T40 x15 x17).f0.f0) ((rd_T40 x15 x17).f0.f1) ((rd_T40 x15 x17).f1) ((rd_T40 x15 x17).f2) ((rd_T40 x15 x17).f3) ((rd_T40 x15 x17).f4) ((rd_T40 x15 x17).f5) ((rd_T40 x15 x17).f6) ((rd_T40 x15 x17).f7) ((rd_T40 x15 x17).f8) ((rd_T40 x1 x17).f0.f0) ((rd_T40 x1 x17).f0.f1) ((rd_T40 x1 x17).f1) ((rd_T40 x1 x17).f2) ((rd_T40 x1 x17).f3) ((rd_T40 x1 x17).f4) ((rd_T40 x1 x17).f5) ((rd_T40 x1 x17).f6) ((rd_T40 x1 x17).f7) ((rd_T40 x1 x17).f8)).bind fun t188 => (if t188 = true then (api_Domain.l0 k x1 x15 x16 (wrap64 (x17 + 1))) else (some false))) else (none)) else (none)) else (none)) else (some true)
def api_Domain.f (k : Nat) (l0 : List (S40)) (l1 : List (S40)) (a2 : Unit) : Option (Bool) := if (l0.length : Int) = (l1.length : Int) then (api_Domain.l0 k l1 l0 (l0.length : Int) 0) else (some false)
set_option maxHeartbeats 8000000 in
set_option maxRecDepth 100000 in
theorem api_Domain.calls (k : Nat) (A0 : Option Addr) (c0 : Nat) (l0 : List (S40)) (A1 : Option Addr) (c1 : Nat) (l1 : List (S40)) (a2 : Unit) (r : Bool) (w : World) (hr0 : Kd.C k40 w A0 l0.length l0) (hc0 : l0.length ≤ c0) (hr1 : Kd.C k40 w A1 l1.length l1) (hc1 : l1.length ≤ c1) (h : api_Domain.f k l0 l1 a2 = some r) :
    Calls Tryd.prog 26 #[.slice A0 l0.length c0, .slice A1 l1.length c1, .func (.func 27) #[] #[]] w fun e w' => e = .returned (.bool r) ∧ Below w.heap.size w w' := by
  cases a2
  by_cases hl : (l0.length : Int) = (l1.length : Int)
  · have hb : ((l0.length : Int) != (l1.length : Int)) = false := bne_eq_false_iff_eq.2 hl
    have h' : api_Domain.l0 k l1 l0 (l0.length : Int) ((0 : Nat) : Int) = some r := by
      unfold api_Domain.f at h
      rw [if_pos hl] at h
      exact h
    have HL := Goto.m0 hl
    clear hl h
    go_enter Tryd.func26, Tryd.ntmps26
    go_wp2
    go_loopw [17] (fun v wr => ∃ (i k' : Nat), i ≤ l0.length ∧ v = .int .i64 (i : Nat) ∧ api_Domain.l0 k' l1 l0 (l0.length : Int) (i : Int) = some r ∧ Below w.heap.size w wr) (fun v _ => l0.length - (Lib.intOf v).toNat)
    case atStart => exact ⟨0, k, Nat.zero_le _, rfl, h', Below.refl _ _⟩
    case round =>
      clear h'
      obtain ⟨i, k', hi, rfl, hk, hbw⟩ := hrel
      obtain ⟨k', rfl⟩ : ∃ m, k' = m + 1 := by
        cases k' with
        | zero => simp [api_Domain.l0] at hk
        | succ m => exact ⟨m, rfl⟩
      simp only [api_Domain.l0] at hk
      by_cases hlt : i < l0.length
      · have hltI : (i : Int) < (l0.length : Int) := by omega
        have hltJ : (i : Int) < (l1.length : Int) := by have := HL.out; omega
        rw [if_pos (by omega), if_pos (by omega), if_pos (by omega), if_pos hltJ, show wrap64 ((i : Int) + 1) = ((i + 1 : Nat) : Int) by have := hr0.2.1; unfold wrap64; omega] at hk
        obtain ⟨t, ht, hk⟩ := Option.bind_eq_some_iff.1 hk
        have HT := Goto.m0 ht
        have HK := Goto.m0 hk
        clear ht hk
        obtain ⟨ad, X2, x2, X3, x3, rfl, f0, f1, f2, f3, f4, f5, f6, f7, f8, f9, xl2, xC2, xl3, xC3⟩ := at_T40 (Kd.C_below hr0 hbw) (i : Int) (by omega) (by omega)
        obtain ⟨ae, Y2, y2, Y3, y3, rfl, h0, h1, h2, h3, h4, h5, h6, h7, h8, h9, yl2, yC2, yl3, yC3⟩ := at_T40 (Kd.C_below hr1 hbw) (i : Int) (by omega) (by omega)
        simp only [Int.toNat_natCast] at f0 f1 f2 f3 f4 f5 f6 f7 f8 f9 h0 h1 h2 h3 h4 h5 h6 h7 h8 h9
        generalize rd_T40 l0 (i : Int) = x at f0 f1 f2 f3 f4 f5 f6 f7 f8 f9 xl2 xC2 xl3 xC3 HT
        generalize rd_T40 l1 (i : Int) = y at h0 h1 h2 h3 h4 h5 h6 h7 h8 h9 yl2 yC2 yl3 yC3 HT
        have hltE : (ae.add (i * 10)).block < wr.heap.size := World.block_lt_of_cell? wr _ h0
        have g0 := (World.cell?_alloc_lt wr (.cells #[.int .i64 x.f0.f0, .int .u64 x.f0.f1, .slice X2 x.f1.length x2, .slice X3 x.f2.length x3, .int .i64 x.f3, .int .i64 x.f4, .int .i64 x.f5, .int .i64 x.f6, .int .i64 x.f7, .int .i64 x.f8] 40) _ hltE).trans h0
        have g1 := (World.cell?_alloc_lt wr (.cells #[.int .i64 x.f0.f0, .int .u64 x.f0.f1, .slice X2 x.f1.length x2, .slice X3 x.f2.length x3, .int .i64 x.f3, .int .i64 x.f4, .int .i64 x.f5, .int .i64 x.f6, .int .i64 x.f7, .int .i64 x.f8] 40) ⟨(ae.add (i * 10)).block, (ae.add (i * 10)).off + 1, none⟩ hltE).trans h1
        have g2 := (World.cell?_alloc_lt wr (.cells #[.int .i64 x.f0.f0, .int .u64 x.f0.f1, .slice X2 x.f1.length x2, .slice X3 x.f2.length x3, .int .i64 x.f3, .int .i64 x.f4, .int .i64 x.f5, .int .i64 x.f6, .int .i64 x.f7, .int .i64 x.f8] 40) ⟨(ae.add (i * 10)).block, (ae.add (i * 10)).off + 2, none⟩ hltE).trans h2
        have g3 := (World.cell?_alloc_lt wr (.cells #[.int .i64 x.f0.f0, .int .u64 x.f0.f1, .slice X2 x.f1.length x2, .slice X3 x.f2.length x3, .int .i64 x.f3, .int .i64 x.f4, .int .i64 x.f5, .int .i64 x.f6, .int .i64 x.f7, .int .i64 x.f8] 40) ⟨(ae.add (i * 10)).block, (ae.add (i * 10)).off + 3, none⟩ hltE).trans h3
        have g4 := (World.cell?_alloc_lt wr (.cells #[.int .i64 x.f0.f0, .int .u64 x.f0.f1, .slice X2 x.f1.length x2, .slice X3 x.f2.length x3, .int .i64 x.f3, .int .i64 x.f4, .int .i64 x.f5, .int .i64 x.f6, .int .i64 x.f7, .int .i64 x.f8] 40) ⟨(ae.add (i * 10)).block, (ae.add (i * 10)).off + 4, none⟩ hltE).trans h4
        have g5 := (World.cell?_alloc_lt wr (.cells #[.int .i64 x.f0.f0, .int .u64 x.f0.f1, .slice X2 x.f1.length x2, .slice X3 x.f2.length x3, .int .i64 x.f3, .int .i64 x.f4, .int .i64 x.f5, .int .i64 x.f6, .int .i64 x.f7, .int .i64 x.f8] 40) ⟨(ae.add (i * 10)).block, (ae.add (i * 10)).off + 5, none⟩ hltE).trans h5
        have g6 := (World.cell?_alloc_lt wr (.cells #[.int .i64 x.f0.f0, .int .u64 x.f0.f1, .slice X2 x.f1.length x2, .slice X3 x.f2.length x3, .int .i64 x.f3, .int .i64 x.f4, .int .i64 x.f5, .int .i64 x.f6, .int .i64 x.f7, .int .i64 x.f8] 40) ⟨(ae.add (i * 10)).block, (ae.add (i * 10)).off + 6, none⟩ hltE).trans h6
        have g7 := (World.cell?_alloc_lt wr (.cells #[.int .i64 x.f0.f0, .int .u64 x.f0.f1, .slice X2 x.f1.length x2, .slice X3 x.f2.length x3, .int .i64 x.f3, .int .i64 x.f4, .int .i64 x.f5, .int .i64 x.f6, .int .i64 x.f7, .int .i64 x.f8] 40) ⟨(ae.add (i * 10)).block, (ae.add (i * 10)).off + 7, none⟩ hltE).trans h7
        have g8 := (World.cell?_alloc_lt wr (.cells #[.int .i64 x.f0.f0, .int .u64 x.f0.f1, .slice X2 x.f1.length x2, .slice X3 x.f2.length x3, .int .i64 x.f3, .int .i64 x.f4, .int .i64 x.f5, .int .i64 x.f6, .int .i64 x.f7, .int .i64 x.f8] 40) ⟨(ae.add (i * 10)).block, (ae.add (i * 10)).off + 8, none⟩ hltE).trans h8
        have g9 := (World.cell?_alloc_lt wr (.cells #[.int .i64 x.f0.f0, .int .u64 x.f0.f1, .slice X2 x.f1.length x2, .slice X3 x.f2.length x3, .int .i64 x.f3, .int .i64 x.f4, .int .i64 x.f5, .int .i64 x.f6, .int .i64 x.f7, .int .i64 x.f8] 40) ⟨(ae.add (i * 10)).block, (ae.add (i * 10)).off + 9, none⟩ hltE).trans h9
        clear h0 h1 h2 h3 h4 h5 h6 h7 h8 h9
        have hb2 := fun X Y => ((Below.refl wr.heap.size wr).alloc (Nat.le_refl _) X).alloc (by simp) Y
        have hbig : l0.length ≤ 9223372036854775807 := hr0.2.1
        have hwr : IntKind.i64.wrap ((i : Int) + 1) = ((i + 1 : Nat) : Int) := by
          simp [IntKind.wrap, IntKind.bits, IntKind.signed]
          omega
        cases t
        all_goals (
          go_wp2_with (first
            | (go_at_call 27
               have hc := fun X Y => conf_sameDomain.calls k' x.f0.f0 x.f0.f1 X2 x2 x.f1 X3 x3 x.f2 x.f3 x.f4 x.f5 x.f6 x.f7 x.f8 y.f0.f0 y.f0.f1 Y2 y2 y.f1 Y3 y3 y.f2 y.f3 y.f4 y.f5 y.f6 y.f7 y.f8 _ _ (Kd.C_below xC2 (hb2 X Y)) xl2 (Kd.C_below xC3 (hb2 X Y)) xl3 (Kd.C_below yC2 (hb2 X Y)) yl2 (Kd.C_below yC3 (hb2 X Y)) yl3 HT.out
               with_reducible refine (hc _ _).mono ?_
               clear hc
               rintro e wA ⟨rfl, hbA⟩
               have hbZ := hbw.trans (((hb2 _ _).trans (hbA.mono (by simp; omega))).mono hbw.size)))
          first
            | (go_ret
               exact ⟨by rw [← Option.some.inj (HK.out : some false = some r)]; rfl, hbZ⟩)
            | (go_roundw
               case rel => exact ⟨i + 1, k', by omega, by first | rfl | exact congrArg (Value.int .i64) hwr | simp [hwr], HK.out, hbZ⟩
               case measure =>
                 simp only [Lib.intOf, hwr]
                 omega))
      · rw [if_neg (by omega)] at hk
        obtain rfl := Option.some.inj hk
        obtain rfl : i = l0.length := by omega
        clear hi hlt hk
        have hno : ¬ (l0.length : Int) < (l0.length : Int) := by omega
        go_wp2
        go_ret
        exact ⟨rfl, hbw⟩
  · have hb : ((l0.length : Int) != (l1.length : Int)) = true := bne_iff_ne.2 hl
    unfold api_Domain.f at h
    rw [if_neg hl] at h
    obtain rfl := Option.some.inj h
    clear h hl
    go_enter Tryd.func26, Tryd.ntmps26
    go_wp2
    go_ret
    exact ⟨rfl, Below.refl _ _⟩

/-! ### conf_Same: function 11 -/
def conf_Same.f (k : Nat) (a0_0 : Int) (a0_1 : Int) (l0_2 : List (List Int)) (l0_3 : List (S40)) (a1_0 : Int) (a1_1 : Int) (l1_2 : List (List Int)) (l1_3 : List (S40)) : Option (Bool) := if a0_0 = a1_0 then (if a0_1 = a1_1 then ((slices_EqualFunc_int_int_int_int.f k l0_2 l1_2 ()).bind fun t191 => (if t191 = true then ((api_Domain.f k l0_3 l1_3 ()).bind fun t192 => (some t192)) else (some false))) else (some false)) else (some false)
set_option maxHeartbeats 8000000 in
set_option maxRecDepth 100000 in
theorem conf_Same.calls (k : Nat) (a0_0 : Int) (a0_1 : Int) (A0_2 : Option Addr) (c0_2 : Nat) (l0_2 : List (List Int)) (A0_3 : Option Addr) (c0_3 : Nat) (l0_3 : List (S40)) (a1_0 : Int) (a1_1 : Int) (A1_2 : Option Addr) (c1_2 : Nat) (l1_2 : List (List Int)) (A1_3 : Option Addr) (c1_3 : Nat) (l1_3 : List (S40)) (r : Bool) (w : World) (hr0_2 : Kd.C (Kd.slice 3 (Kd.int .i64)) w A0_2 l0_2.length l0_2) (hc0_2 : l0_2.length ≤ c0_2) (hr0_3 : Kd.C k40 w A0_3 l0_3.length l0_3) (hc0_3 : l0_3.length ≤ c0_3) (hr1_2 : Kd.C (Kd.slice 3 (Kd.int .i64)) w A1_2 l1_2.length l1_2) (hc1_2 : l1_2.length ≤ c1_2) (hr1_3 : Kd.C k40 w A1_3 l1_3.length l1_3) (hc1_3 : l1_3.length ≤ c1_3) (h : conf_Same.f k a0_0 a0_1 l0_2 l0_3 a1_0 a1_1 l1_2 l1_3 = some r) :
    Calls Tryd.prog 11 #[.agg #[.int .i64 a0_0, .int .i64 a0_1, .slice A0_2 l0_2.length c0_2, .slice A0_3 l0_3.length c0_3], .agg #[.int .i64 a1_0, .int .i64 a1_1, .slice A1_2 l1_2.length c1_2, .slice A1_3 l1_3.length c1_3]] w fun e w' => e = .returned (.bool r) ∧ Below w.heap.size w w' := by
 have hu25 := Tryd.underlying25
 have HR0_2 := Goto.m0 hr0_2
 have HC0_2 := Goto.m0 hc0_2
 clear hr0_2 hc0_2
 have HR0_3 := Goto.m0 hr0_3
 have HC0_3 := Goto.m0 hc0_3
 clear hr0_3 hc0_3
 have HR1_2 := Goto.m0 hr1_2
 have HC1_2 := Goto.m0 hc1_2
 clear hr1_2 hc1_2
 have HR1_3 := Goto.m0 hr1_3
 have HC1_3 := Goto.m0 hc1_3
 clear hr1_3 hc1_3
 have HB := Goto.m0 (Below.refl w.heap.size w)
 have H : (if a0_0 = a1_0 then (if a0_1 = a1_1 then ((slices_EqualFunc_int_int_int_int.f k l0_2 l1_2 ()).bind fun t191 => (if t191 = true then ((api_Domain.f k l0_3 l1_3 ()).bind fun t192 => (some t192)) else (some false))) else (some false)) else (some false)) = some r := h
 clear h
 by_cases c3 : a0_0 = a1_0
 ·
  rw [if_pos c3] at H
  have c3b0 : (a0_0 == a1_0) = true := beq_iff_eq.mpr c3
  have c3b1 : (a0_0 != a1_0) = false := bne_eq_false_iff_eq.mpr c3
  clear c3
  by_cases c4 : a0_1 = a1_1
  ·
   rw [if_pos c4] at H
   have c4b0 : (a0_1 == a1_1) = true := beq_iff_eq.mpr c4
   have c4b1 : (a0_1 != a1_1) = false := bne_eq_false_iff_eq.mpr c4
   clear c4
   replace H := Option.bind_eq_some_iff.mp H
   obtain ⟨t191, A50, H⟩ := H
   have A5 := Goto.m0 A50
   clear A50
   by_cases c6 : t191 = true
   ·
    subst c6
    rw [if_pos rfl] at H
    replace H := Option.bind_eq_some_iff.mp H
    obtain ⟨t192, A70, H⟩ := H
    have A7 := Goto.m0 A70
    clear A70
    obtain rfl := Option.some.inj H
    go_enter Tryd.func11, Tryd.ntmps11
    go_wp2_with (first | ((with_reducible refine gate_dst (N := 2) rfl ?_); refine box_event ?hg (N := 2) ?hd (cs := #[.int .i64 a0_0, .int .i64 a0_1, .slice A0_2 l0_2.length c0_2, .slice A0_3 l0_3.length c0_3]) (t := 25) ?hr ?_; (case hd => rfl); (case hg => rfl); (case hr => first | (go_simp; done) | (go_simp; rfl)); intro gb189 hg w8 hbox hb; have BK189 := Goto.m0 (hbox); have GW189 := Goto.gs HB hg; have GE189 := Goto.gs HB hg; replace HB := Goto.hs HB hb; clear hb hbox hg) | ((with_reducible refine gate_dst (N := 3) rfl ?_); refine box_event ?hg (N := 3) ?hd (cs := #[.int .i64 a1_0, .int .i64 a1_1, .slice A1_2 l1_2.length c1_2, .slice A1_3 l1_3.length c1_3]) (t := 25) ?hr ?_; (case hd => rfl); (case hg => rfl); (case hr => first | (go_simp; done) | (go_simp; rfl)); intro gb190 hg w9 hbox hb; have BK190 := Goto.m0 (hbox); have GW190 := Goto.gs HB hg; have GE190 := Goto.gs HB hg; have NB189_190 := Goto.nl BK189 hg; have NB190_189 := Goto.nr BK189 hg; replace BK189 := Goto.bb BK189 hb; replace HB := Goto.hs HB hb; clear hb hbox hg; have hnb10 := NB189_190.out; have hnc10 := NB190_189.out; have hcz11_0 := Goto.bc0 BK189; have hcz11_1 := Goto.bc1 BK189; have hcz11_2 := Goto.bc2 BK189; have hcz11_3 := Goto.bc3 BK189; have hfz11_0 := Goto.bf BK189 0; have hfz11_1 := Goto.bf BK189 1; have hfz11_2 := Goto.bf BK189 2; have hfz11_3 := Goto.bf BK189 3; have hcz12_0 := Goto.bc0 BK190; have hcz12_1 := Goto.bc1 BK190; have hcz12_2 := Goto.bc2 BK190; have hcz12_3 := Goto.bc3 BK190; have hfz12_0 := Goto.bf BK190 0; have hfz12_1 := Goto.bf BK190 1; have hfz12_2 := Goto.bf BK190 2; have hfz12_3 := Goto.bf BK190 3) | (go_at_call 24; (with_reducible refine (slices_EqualFunc_int_int_int_int.calls k _ _ l0_2 _ _ l1_2 () true _ ?side1 ?side2 ?side3 ?side4 A5.out).mono ?_); (case side1 => repeat (first | exact (Kd.C_below HR0_2.out HB.out) | (with_reducible refine Kd.C_alloc ?_ _) | (with_reducible refine Kd.C_drewN ?_ _) | (with_reducible refine Kd.C_drew ?_))); (case side2 => exact HC0_2.out); (case side3 => repeat (first | exact (Kd.C_below HR1_2.out HB.out) | (with_reducible refine Kd.C_alloc ?_ _) | (with_reducible refine Kd.C_drewN ?_ _) | (with_reducible refine Kd.C_drew ?_))); (case side4 => exact HC1_2.out); rintro e w' ⟨rfl, ⟨nd, rfl⟩⟩) | (go_at_call 26; (with_reducible refine (api_Domain.calls k _ _ l0_3 _ _ l1_3 () t192 _ ?side1 ?side2 ?side3 ?side4 A7.out).mono ?_); (case side1 => repeat (first | exact (Kd.C_below HR0_3.out (Goto.hx HB)) | (with_reducible refine Kd.C_alloc ?_ _) | (with_reducible refine Kd.C_drewN ?_ _) | (with_reducible refine Kd.C_drew ?_))); (case side2 => exact HC0_3.out); (case side3 => repeat (first | exact (Kd.C_below HR1_3.out (Goto.hx HB)) | (with_reducible refine Kd.C_alloc ?_ _) | (with_reducible refine Kd.C_drewN ?_ _) | (with_reducible refine Kd.C_drew ?_))); (case side4 => exact HC1_3.out); rintro e w13 ⟨rfl, hb⟩; replace BK189 := Goto.bb BK189 hb; replace BK190 := Goto.bb BK190 hb; replace HB := Goto.hs HB hb; (try clear hb); (try clear hb2); (try clear hk); (try clear hi)))
    go_ret
    exact ⟨Goto.er, by repeat (first | (with_reducible first | exact HB.out | apply below_alloc | apply pw_below_drewN | apply below_drew1 | refine below_set ?_ GE189.out | refine below_set ?_ GE190.out) | exact HB.out)⟩
   ·
    replace c6 := Bool.eq_false_iff.mpr c6
    subst c6
    rw [if_neg (show ¬ (false = true) by decide)] at H
    obtain rfl := Option.some.inj H
    go_enter Tryd.func11, Tryd.ntmps11
    go_wp2_with (first | ((with_reducible refine gate_dst (N := 2) rfl ?_); refine box_event ?hg (N := 2) ?hd (cs := #[.int .i64 a0_0, .int .i64 a0_1, .slice A0_2 l0_2.length c0_2, .slice A0_3 l0_3.length c0_3]) (t := 25) ?hr ?_; (case hd => rfl); (case hg => rfl); (case hr => first | (go_simp; done) | (go_simp; rfl)); intro gb189 hg w14 hbox hb; have BK189 := Goto.m0 (hbox); have GW189 := Goto.gs HB hg; have GE189 := Goto.gs HB hg; replace HB := Goto.hs HB hb; clear hb hbox hg) | ((with_reducible refine gate_dst (N := 3) rfl ?_); refine box_event ?hg (N := 3) ?hd (cs := #[.int .i64 a1_0, .int .i64 a1_1, .slice A1_2 l1_2.length c1_2, .slice A1_3 l1_3.length c1_3]) (t := 25) ?hr ?_; (case hd => rfl); (case hg => rfl); (case hr => first | (go_simp; done) | (go_simp; rfl)); intro gb190 hg w15 hbox hb; have BK190 := Goto.m0 (hbox); have GW190 := Goto.gs HB hg; have GE190 := Goto.gs HB hg; have NB189_190 := Goto.nl BK189 hg; have NB190_189 := Goto.nr BK189 hg; replace BK189 := Goto.bb BK189 hb; replace HB := Goto.hs HB hb; clear hb hbox hg; have hnb16 := NB189_190.out; have hnc16 := NB190_189.out; have hcz17_0 := Goto.bc0 BK189; have hcz17_1 := Goto.bc1 BK189; have hcz17_2 := Goto.bc2 BK189; have hcz17_3 := Goto.bc3 BK189; have hfz17_0 := Goto.bf BK189 0; have hfz17_1 := Goto.bf BK189 1; have hfz17_2 := Goto.bf BK189 2; have hfz17_3 := Goto.bf BK189 3; have hcz18_0 := Goto.bc0 BK190; have hcz18_1 := Goto.bc1 BK190; have hcz18_2 := Goto.bc2 BK190; have hcz18_3 := Goto.bc3 BK190; have hfz18_0 := Goto.bf BK190 0; have hfz18_1 := Goto.bf BK190 1; have hfz18_2 := Goto.bf BK190 2; have hfz18_3 := Goto.bf BK190 3) | (go_at_call 24; (with_reducible refine (slices_EqualFunc_int_int_int_int.calls k _ _ l0_2 _ _ l1_2 () false _ ?side1 ?side2 ?side3 ?side4 A5.out).mono ?_); (case side1 => repeat (first | exact (Kd.C_below HR0_2.out HB.out) | (with_reducible refine Kd.C_alloc ?_ _) | (with_reducible refine Kd.C_drewN ?_ _) | (with_reducible refine Kd.C_drew ?_))); (case side2 => exact HC0_2.out); (case side3 => repeat (first | exact (Kd.C_below HR1_2.out HB.out) | (with_reducible refine Kd.C_alloc ?_ _) | (with_reducible refine Kd.C_drewN ?_ _) | (with_reducible refine Kd.C_drew ?_))); (case side4 => exact HC1_2.out); rintro e w' ⟨rfl, ⟨nd, rfl⟩⟩))
    go_ret
    exact ⟨Goto.er, by repeat (first | (with_reducible first | exact HB.out | apply below_alloc | apply pw_below_drewN | apply below_drew1 | refine below_set ?_ GE189.out | refine below_set ?_ GE190.out) | exact HB.out)⟩
  ·
   rw [if_neg c4] at H
   have c4b0 : (a0_1 == a1_1) = false := beq_eq_false_iff_ne.mpr c4
   have c4b1 : (a0_1 != a1_1) = true := bne_iff_ne.mpr c4
   obtain rfl := Option.some.inj H
   go_enter Tryd.func11, Tryd.ntmps11
   go_wp2_with (first | ((with_reducible refine gate_dst (N := 2) rfl ?_); refine box_event ?hg (N := 2) ?hd (cs := #[.int .i64 a0_0, .int .i64 a0_1, .slice A0_2 l0_2.length c0_2, .slice A0_3 l0_3.length c0_3]) (t := 25) ?hr ?_; (case hd => rfl); (case hg => rfl); (case hr => first | (go_simp; done) | (go_simp; rfl)); intro gb189 hg w19 hbox hb; have BK189 := Goto.m0 (hbox); have GW189 := Goto.gs HB hg; have GE189 := Goto.gs HB hg; replace HB := Goto.hs HB hb; clear hb hbox hg) | ((with_reducible refine gate_dst (N := 3) rfl ?_); refine box_event ?hg (N := 3) ?hd (cs := #[.int .i64 a1_0, .int .i64 a1_1, .slice A1_2 l1_2.length c1_2, .slice A1_3 l1_3.length c1_3]) (t := 25) ?hr ?_; (case hd => rfl); (case hg => rfl); (case hr => first | (go_simp; done) | (go_simp; rfl)); intro gb190 hg w20 hbox hb; have BK190 := Goto.m0 (hbox); have GW190 := Goto.gs HB hg; have GE190 := Goto.gs HB hg; have NB189_190 := Goto.nl BK189 hg; have NB190_189 := Goto.nr BK189 hg; replace BK189 := Goto.bb BK189 hb; replace HB := Goto.hs HB hb; clear hb hbox hg; have hnb21 := NB189_190.out; have hnc21 := NB190_189.out; have hcz22_0 := Goto.bc0 BK189; have hcz22_1 := Goto.bc1 BK189; have hcz22_2 := Goto.bc2 BK189; have hcz22_3 := Goto.bc3 BK189; have hfz22_0 := Goto.bf BK189 0; have hfz22_1 := Goto.bf BK189 1; have hfz22_2 := Goto.bf BK189 2; have hfz22_3 := Goto.bf BK189 3; have hcz23_0 := Goto.bc0 BK190; have hcz23_1 := Goto.bc1 BK190; have hcz23_2 := Goto.bc2 BK190; have hcz23_3 := Goto.bc3 BK190; have hfz23_0 := Goto.bf BK190 0; have hfz23_1 := Goto.bf BK190 1; have hfz23_2 := Goto.bf BK190 2; have hfz23_3 := Goto.bf BK190 3))
   go_ret
   exact ⟨Goto.er, by repeat (first | (with_reducible first | exact HB.out | apply below_alloc | apply pw_below_drewN | apply below_drew1 | refine below_set ?_ GE189.out | refine below_set ?_ GE190.out) | exact HB.out)⟩
 ·
  rw [if_neg c3] at H
  have c3b0 : (a0_0 == a1_0) = false := beq_eq_false_iff_ne.mpr c3
  have c3b1 : (a0_0 != a1_0) = true := bne_iff_ne.mpr c3
  obtain rfl := Option.some.inj H
  go_enter Tryd.func11, Tryd.ntmps11
  go_wp2_with (first | ((with_reducible refine gate_dst (N := 2) rfl ?_); refine box_event ?hg (N := 2) ?hd (cs := #[.int .i64 a0_0, .int .i64 a0_1, .slice A0_2 l0_2.length c0_2, .slice A0_3 l0_3.length c0_3]) (t := 25) ?hr ?_; (case hd => rfl); (case hg => rfl); (case hr => first | (go_simp; done) | (go_simp; rfl)); intro gb189 hg w24 hbox hb; have BK189 := Goto.m0 (hbox); have GW189 := Goto.gs HB hg; have GE189 := Goto.gs HB hg; replace HB := Goto.hs HB hb; clear hb hbox hg) | ((with_reducible refine gate_dst (N := 3) rfl ?_); refine box_event ?hg (N := 3) ?hd (cs := #[.int .i64 a1_0, .int .i64 a1_1, .slice A1_2 l1_2.length c1_2, .slice A1_3 l1_3.length c1_3]) (t := 25) ?hr ?_; (case hd => rfl); (case hg => rfl); (case hr => first | (go_simp; done) | (go_simp; rfl)); intro gb190 hg w25 hbox hb; have BK190 := Goto.m0 (hbox); have GW190 := Goto.gs HB hg; have GE190 := Goto.gs HB hg; have NB189_190 := Goto.nl BK189 hg; have NB190_189 := Goto.nr BK189 hg; replace BK189 := Goto.bb BK189 hb; replace HB := Goto.hs HB hb; clear hb hbox hg; have hnb26 := NB189_190.out; have hnc26 := NB190_189.out; have hcz27_0 := Goto.bc0 BK189; have hcz27_1 := Goto.bc1 BK189; have hcz27_2 := Goto.bc2 BK189; have hcz27_3 := Goto.bc3 BK189; have hfz27_0 := Goto.bf BK189 0; have hfz27_1 := Goto.bf BK189 1; have hfz27_2 := Goto.bf BK189 2; have hfz27_3 := Goto.bf BK189 3; have hcz28_0 := Goto.bc0 BK190; have hcz28_1 := Goto.bc1 BK190; have hcz28_2 := Goto.bc2 BK190; have hcz28_3 := Goto.bc3 BK190; have hfz28_0 := Goto.bf BK190 0; have hfz28_1 := Goto.bf BK190 1; have hfz28_2 := Goto.bf BK190 2; have hfz28_3 := Goto.bf BK190 3))
  go_ret
  exact ⟨Goto.er, by repeat (first | (with_reducible first | exact HB.out | apply below_alloc | apply pw_below_drewN | apply below_drew1 | refine below_set ?_ GE189.out | refine below_set ?_ GE190.out) | exact HB.out)⟩

/-! ### tontinehelp_Base: function 13 -/
-- NOT PRINTED: function 30 (reflectlite_TypeOf)

-- NOT PRINTED: function 31 (errors_is)

-- NOT PRINTED: function 14 (errors_Is)

end Go.Proofs.YtjgdcifbhmjinaaDoor.P
