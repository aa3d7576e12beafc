/- Printed by a program of this workplace (a turned copy of the kit's optional print), out of the translation; not trusted: Lean checks it. -/
import Derived.Test.YtjgdcifbhmjinaaDoorPx0
import Derived.Test.YtjgdcifbhmjinaaDoorPx6
import Derived.Test.YtjgdcifbhmjinaaDoorPx7
import Derived.Test.YtjgdcifbhmjinaaDoorPx8
import Derived.Test.YtjgdcifbhmjinaaDoorPx12
import Derived.Test.YtjgdcifbhmjinaaDoorCode
import Derived.Test.YtjgdcifbhmjinaaDoorKnE
import Derived.Test.YtjgdcifbhmjinaaDoorRSame
namespace Go.Proofs.YtjgdcifbhmjinaaDoor.P
open Go.RowKit Go.Proofs.YtjgdcifbhmjinaaDoorW.PrintWords Go.Proofs.YtjgdcifbhmjinaaDoorW.PrintLast Go.Proofs.YtjgdcifbhmjinaaDoorW.PrintMore
attribute [local go_sem] max2_int min2_int max_two min_two max_three min_three max_four min_four   -- for this text's walks alone
set_option linter.unusedVariables false
set_option linter.unusedSimpArgs false

/-! ### tontinelaw3_ConfTells: function 3 -/
def tontinelaw3_ConfTells.j0 : Nat → Bool → Int → Int → List (List Int) → List (S40) → Int → Int → List (List Int) → List (S40) → Option (Bool)
  | 0, _, _, _, _, _, _, _, _, _ => none
  | k + 1, x12, x303000, x303001, x303002, x303003, x304000, x304001, x304002, x304003 => if x12 = true then (some true) else ((conf_Is.f k x303000 x303001 x303002 x303003).bind fun t307 => ((ext_6.f t307).bind fun t308 => ((tontineref1_IsConf.f k x303000 x303001 x303002 x303003).bind fun t309 => (if t308 = t309 then ((conf_Ticks.f k x303000 x303001 x303002 x303003).bind fun t310 => ((tontineref1_Ticks.f k x303000 x303001 x303002 x303003).bind fun t311 => (if t310 = t311 then ((conf_Same.f k x303000 x303001 x303002 x303003 x304000 x304001 x304002 x304003).bind fun t312 => ((ext_12.f x303000 x303001 x303002 x303003 x304000 x304001 x304002 x304003).bind fun t313 => (if (t312 == t313) = true then ((conf_Same.f k x303000 x303001 x303002 x303003 x303000 x303001 x303002 x303003).bind fun t314 => (some t314)) else (some false)))) else (some false)))) else (some false)))))
def tontinelaw3_ConfTells.f (k : Nat) (a0_0 : Int) (a0_1 : Int) (l0_2 : List (List Int)) (l0_3 : List (S40)) (a1_0 : Int) (a1_1 : Int) (l1_2 : List (List Int)) (l1_3 : List (S40)) : Option (Bool) := (ext_4.f).bind fun t304 => (if t304 = true then ((tontinehelp_WideConf.f k a0_0 a0_1 l0_2 l0_3).bind fun t305 => (if t305 = true then (tontinelaw3_ConfTells.j0 k true a0_0 a0_1 l0_2 l0_3 a1_0 a1_1 l1_2 l1_3) else ((tontinehelp_WideConf.f k a1_0 a1_1 l1_2 l1_3).bind fun t306 => (tontinelaw3_ConfTells.j0 k t306 a0_0 a0_1 l0_2 l0_3 a1_0 a1_1 l1_2 l1_3)))) else (some false))
def tontinelaw3_ConfTells.T5 : Bool × List (List Nat × List Nat) := (true, [([], []), ([0], [0]), ([1, 1], [1]), ([], []), ([3, 2], [3]), ([2, 4], [2, 4]), ([5, 4], [5]), ([6], [6]), ([7, 6, 6], [6, 7]), ([6], [6]), ([9, 8, 6], [6, 9]), ([8, 10, 6], [6, 8, 10]), ([6, 11], [6, 11]), ([12, 10], [12]), ([13], [13]), ([13], [13]), ([14, 15, 13, 13], [13, 14, 15]), ([13], [13]), ([13], [13]), ([17, 18, 16, 13], [13, 17, 18]), ([16, 19, 13], [13, 16, 19]), ([13, 20], [13, 20]), ([21, 19], [21]), ([22], [22]), ([22], [22]), ([23, 24, 22, 22], [22, 23, 24]), ([22, 25], [22, 25]), ([26, 25, 0, 1, 2, 3, 4, 5, 6, 7, 8, 9, 10, 11, 12, 13, 14, 15, 16, 17, 18, 19, 20, 21, 22, 23, 24, 25, 26], [26])])
def tontinelaw3_ConfTells.B5 : List Nat := [0, 1, 3, 0, 15, 31, 63, 127, 255, 127, 1023, 2047, 4095, 8191, 16383, 16383, 65535, 16383, 16383, 524287, 1048575, 2097151, 4194303, 8388607, 8388607, 33554431, 67108863, 134217727]
theorem tontinelaw3_ConfTells.tab5 : rtab .any (opsOf Tryd.f3 5) = tontinelaw3_ConfTells.T5 := by kernel_rfl
theorem tontinelaw3_ConfTells.bits5 : waitsOk tontinelaw3_ConfTells.T5.2 tontinelaw3_ConfTells.B5 = true := by kernel_rfl
set_option maxHeartbeats 8000000 in
set_option maxRecDepth 100000 in
theorem tontinelaw3_ConfTells.calls (k : Nat) (a0_0 : Int) (a0_1 : Int) (A0_2 : Option Addr) (c0_2 : Nat) (l0_2 : List (List Int)) (A0_3 : Option Addr) (c0_3 : Nat) (l0_3 : List (S40)) (a1_0 : Int) (a1_1 : Int) (A1_2 : Option Addr) (c1_2 : Nat) (l1_2 : List (List Int)) (A1_3 : Option Addr) (c1_3 : Nat) (l1_3 : List (S40)) (r : Bool) (hrt : r = true) (w : World) (hld : w.cell? ⟨0, 0, none⟩ = some (.iface 74 (.agg #[.pointer (some ⟨1, 30, none⟩)]))) (hr0_2 : Kd.C (Kd.slice 3 (Kd.int .i64)) w A0_2 l0_2.length l0_2) (hc0_2 : l0_2.length ≤ c0_2) (hr0_3 : Kd.C k40 w A0_3 l0_3.length l0_3) (hc0_3 : l0_3.length ≤ c0_3) (hr1_2 : Kd.C (Kd.slice 3 (Kd.int .i64)) w A1_2 l1_2.length l1_2) (hc1_2 : l1_2.length ≤ c1_2) (hr1_3 : Kd.C k40 w A1_3 l1_3.length l1_3) (hc1_3 : l1_3.length ≤ c1_3) (h : tontinelaw3_ConfTells.f k a0_0 a0_1 l0_2 l0_3 a1_0 a1_1 l1_2 l1_3 = some r) :
    Calls Tryd.prog 3 #[.agg #[.int .i64 a0_0, .int .i64 a0_1, .slice A0_2 l0_2.length c0_2, .slice A0_3 l0_3.length c0_3], .agg #[.int .i64 a1_0, .int .i64 a1_1, .slice A1_2 l1_2.length c1_2, .slice A1_3 l1_3.length c1_3]] w fun e w' => e = .returned (.bool r) ∧ Below w.heap.size w w' := by
 have hu25 := Tryd.underlying25
 have HR0_2 := Goto.m0 hr0_2
 have HC0_2 := Goto.m0 hc0_2
 clear hr0_2 hc0_2
 have HR0_3 := Goto.m0 hr0_3
 have HC0_3 := Goto.m0 hc0_3
 clear hr0_3 hc0_3
 have HR1_2 := Goto.m0 hr1_2
 have HC1_2 := Goto.m0 hc1_2
 clear hr1_2 hc1_2
 have HR1_3 := Goto.m0 hr1_3
 have HC1_3 := Goto.m0 hc1_3
 clear hr1_3 hc1_3
 have HB := Goto.m0 (Below.refl w.heap.size w)
 have HRT := Goto.m0 hrt
 clear hrt
 have HLD := Goto.m0 hld
 clear hld
 have H : ((ext_4.f).bind fun t304 => (if t304 = true then ((tontinehelp_WideConf.f k a0_0 a0_1 l0_2 l0_3).bind fun t305 => (if t305 = true then (tontinelaw3_ConfTells.j0 k true a0_0 a0_1 l0_2 l0_3 a1_0 a1_1 l1_2 l1_3) else ((tontinehelp_WideConf.f k a1_0 a1_1 l1_2 l1_3).bind fun t306 => (tontinelaw3_ConfTells.j0 k t306 a0_0 a0_1 l0_2 l0_3 a1_0 a1_1 l1_2 l1_3)))) else (some false))) = some r := h
 clear h
 replace H := Option.bind_eq_some_iff.mp H
 obtain ⟨t304, A30, H⟩ := H
 have A3 := Goto.m0 A30
 clear A30
 by_cases c4 : t304 = true
 ·
  subst c4
  rw [if_pos rfl] at H
  have HC5 := Goto.m0 H
  clear H
  go_enter Tryd.func3, Tryd.ntmps3
  go_upto_region 3 with (first | ((with_reducible refine gate_dst (N := 2) rfl ?_); refine box_event ?hg (N := 2) ?hd (cs := #[.int .i64 a0_0, .int .i64 a0_1, .slice A0_2 l0_2.length c0_2, .slice A0_3 l0_3.length c0_3]) (t := 25) ?hr ?_; (case hd => rfl); (case hg => rfl); (case hr => first | (go_simp; done) | (go_simp; rfl)); intro gb302 hg w6 hbox hb; have BK302 := Goto.m0 (hbox); have GW302 := Goto.gs HB hg; have GE302 := Goto.gs HB hg; replace HB := Goto.hs HB hb; clear hb hbox hg) | ((with_reducible refine gate_dst (N := 3) rfl ?_); refine box_event ?hg (N := 3) ?hd (cs := #[.int .i64 a1_0, .int .i64 a1_1, .slice A1_2 l1_2.length c1_2, .slice A1_3 l1_3.length c1_3]) (t := 25) ?hr ?_; (case hd => rfl); (case hg => rfl); (case hr => first | (go_simp; done) | (go_simp; rfl)); intro gb303 hg w7 hbox hb; have BK303 := Goto.m0 (hbox); have GW303 := Goto.gs HB hg; have GE303 := Goto.gs HB hg; have NB302_303 := Goto.nl BK302 hg; have NB303_302 := Goto.nr BK302 hg; replace BK302 := Goto.bb BK302 hb; replace HB := Goto.hs HB hb; clear hb hbox hg) | ((first | (with_reducible refine gate_callee (f := 4) rfl ?_) | (with_reducible refine Goto.gate_calleeF rfl ?_)); (first | refine goesL_ (some 5) rfl rfl Tryd.func4 (by kernel_rfl) rfl #[] rfl (by (try simp only [List.map_toArray, List.map_cons, List.map_nil]); first | done | rfl | (simp only [List.length_drop, List.length_take]; rfl)) ?_ | refine Goto.goesF_ (some 5) rfl rfl Tryd.func4 (by kernel_rfl) rfl #[] rfl (by (try simp only [List.map_toArray, List.map_cons, List.map_nil]); first | done | rfl | (simp only [List.length_drop, List.length_take]; rfl)) ?_); (with_reducible refine (ext_4.calls  true (by first | rfl | assumption | (simp only [Bool.not_eq_true, Bool.not_eq_false] at *; assumption)) _ A3.out).mono ?_); rintro e w8 ⟨rfl, hb⟩; refine ⟨_, rfl, ?_⟩; replace BK302 := Goto.bb BK302 hb; replace BK303 := Goto.bb BK303 hb; replace HB := Goto.hs HB hb; (try clear hb); (try clear hb2); (try clear hk); (try clear hi)))
  (try simp only [Act.put, List.setIfInBounds_toArray, List.set_cons_zero, List.set_cons_succ])
  go_cut [12] (fun v12 wc => ∃ (kq : Nat) (x12_4 : Bool), v12 = .bool x12_4 ∧ Aside0 (tontinelaw3_ConfTells.j0 kq x12_4 a0_0 a0_1 l0_2 l0_3 a1_0 a1_1 l1_2 l1_3 = some r) ∧ Aside0 (kq ≤ k) ∧ Aside0 (wc.heap[gb302]? = some (.cells #[.int .i64 a0_0, .int .i64 a0_1, (.slice A0_2 l0_2.length c0_2), (.slice A0_3 l0_3.length c0_3)] 25 (0, 0))) ∧ Aside0 (wc.heap[gb303]? = some (.cells #[.int .i64 a1_0, .int .i64 a1_1, (.slice A1_2 l1_2.length c1_2), (.slice A1_3 l1_3.length c1_3)] 25 (0, 0))) ∧ Aside0 (Below w.heap.size w wc))
  case first =>
   have H := HC5.out; clear HC5
   replace H := Option.bind_eq_some_iff.mp H
   obtain ⟨t305, A90, H⟩ := H
   have A9 := Goto.m0 A90
   clear A90
   by_cases c10 : t305 = true
   ·
    subst c10
    rw [if_pos rfl] at H
    have H' := Goto.m0 H
    clear H; have hnb11 := NB302_303.out; have hnc11 := NB303_302.out; have hcz12_0 := Goto.bc0 BK302; have hcz12_1 := Goto.bc1 BK302; have hcz12_2 := Goto.bc2 BK302; have hcz12_3 := Goto.bc3 BK302; have hfz12_0 := Goto.bf BK302 0; have hfz12_1 := Goto.bf BK302 1; have hfz12_2 := Goto.bf BK302 2; have hfz12_3 := Goto.bf BK302 3
    go_wp2_with (first | ((first | (with_reducible refine gate_callee (f := 5) rfl ?_) | (with_reducible refine Goto.gate_calleeF rfl ?_)); (first | refine goesL_ (some 8) rfl rfl Tryd.func5 (by kernel_rfl) rfl #[.agg #[.int .i64 a0_0, .int .i64 a0_1, .slice A0_2 l0_2.length c0_2, .slice A0_3 l0_3.length c0_3]] rfl (by (try simp only [List.map_toArray, List.map_cons, List.map_nil]); first | done | rfl | (simp only [List.length_drop, List.length_take]; rfl)) ?_ | refine Goto.goesF_ (some 8) rfl rfl Tryd.func5 (by kernel_rfl) rfl #[.agg #[.int .i64 a0_0, .int .i64 a0_1, .slice A0_2 l0_2.length c0_2, .slice A0_3 l0_3.length c0_3]] rfl (by (try simp only [List.map_toArray, List.map_cons, List.map_nil]); first | done | rfl | (simp only [List.length_drop, List.length_take]; rfl)) ?_); (with_reducible refine (tontinehelp_WideConf.calls k a0_0 a0_1 _ _ l0_2 _ _ l0_3 true _ ?side1 ?side2 ?side3 ?side4 A9.out).mono ?_); (case side1 => repeat (first | exact (Kd.C_below HR0_2.out HB.out) | (with_reducible refine Kd.C_alloc ?_ _) | (with_reducible refine Kd.C_drewN ?_ _) | (with_reducible refine Kd.C_drew ?_))); (case side2 => exact HC0_2.out); (case side3 => repeat (first | exact (Kd.C_below HR0_3.out HB.out) | (with_reducible refine Kd.C_alloc ?_ _) | (with_reducible refine Kd.C_drewN ?_ _) | (with_reducible refine Kd.C_drew ?_))); (case side4 => exact HC0_3.out); rintro e w13 ⟨rfl, hb⟩; refine ⟨_, rfl, ?_⟩; replace BK302 := Goto.bb BK302 hb; replace BK303 := Goto.bb BK303 hb; replace HB := Goto.hs HB hb; (try clear hb); (try clear hb2); (try clear hk); (try clear hi)))
    go_meet
    case rel => exact ⟨_, (true), (by first | rfl | (simp; done) | (simp [*]; done)), H', ⟨by first | omega | exact Nat.le_refl _⟩, ⟨Goto.bx BK302⟩, ⟨Goto.bx BK303⟩, ⟨Goto.hx HB⟩⟩
   ·
    replace c10 := Bool.eq_false_iff.mpr c10
    subst c10
    rw [if_neg (show ¬ (false = true) by decide)] at H
    replace H := Option.bind_eq_some_iff.mp H
    obtain ⟨t306, A140, H⟩ := H
    have A14 := Goto.m0 A140
    clear A140
    have H' := Goto.m0 H
    clear H; have hnb15 := NB302_303.out; have hnc15 := NB303_302.out; have hcz16_0 := Goto.bc0 BK302; have hcz16_1 := Goto.bc1 BK302; have hcz16_2 := Goto.bc2 BK302; have hcz16_3 := Goto.bc3 BK302; have hfz16_0 := Goto.bf BK302 0; have hfz16_1 := Goto.bf BK302 1; have hfz16_2 := Goto.bf BK302 2; have hfz16_3 := Goto.bf BK302 3
    go_wp2_with (first | ((first | (with_reducible refine gate_callee (f := 5) rfl ?_) | (with_reducible refine Goto.gate_calleeF rfl ?_)); (first | refine goesL_ (some 8) rfl rfl Tryd.func5 (by kernel_rfl) rfl #[.agg #[.int .i64 a0_0, .int .i64 a0_1, .slice A0_2 l0_2.length c0_2, .slice A0_3 l0_3.length c0_3]] rfl (by (try simp only [List.map_toArray, List.map_cons, List.map_nil]); first | done | rfl | (simp only [List.length_drop, List.length_take]; rfl)) ?_ | refine Goto.goesF_ (some 8) rfl rfl Tryd.func5 (by kernel_rfl) rfl #[.agg #[.int .i64 a0_0, .int .i64 a0_1, .slice A0_2 l0_2.length c0_2, .slice A0_3 l0_3.length c0_3]] rfl (by (try simp only [List.map_toArray, List.map_cons, List.map_nil]); first | done | rfl | (simp only [List.length_drop, List.length_take]; rfl)) ?_); (with_reducible refine (tontinehelp_WideConf.calls k a0_0 a0_1 _ _ l0_2 _ _ l0_3 false _ ?side1 ?side2 ?side3 ?side4 A9.out).mono ?_); (case side1 => repeat (first | exact (Kd.C_below HR0_2.out HB.out) | (with_reducible refine Kd.C_alloc ?_ _) | (with_reducible refine Kd.C_drewN ?_ _) | (with_reducible refine Kd.C_drew ?_))); (case side2 => exact HC0_2.out); (case side3 => repeat (first | exact (Kd.C_below HR0_3.out HB.out) | (with_reducible refine Kd.C_alloc ?_ _) | (with_reducible refine Kd.C_drewN ?_ _) | (with_reducible refine Kd.C_drew ?_))); (case side4 => exact HC0_3.out); rintro e w17 ⟨rfl, hb⟩; refine ⟨_, rfl, ?_⟩; replace BK302 := Goto.bb BK302 hb; replace BK303 := Goto.bb BK303 hb; replace HB := Goto.hs HB hb; (try clear hb); (try clear hb2); (try clear hk); (try clear hi); have hcz18_0 := Goto.bc0 BK303; have hcz18_1 := Goto.bc1 BK303; have hcz18_2 := Goto.bc2 BK303; have hcz18_3 := Goto.bc3 BK303; have hfz18_0 := Goto.bf BK303 0; have hfz18_1 := Goto.bf BK303 1; have hfz18_2 := Goto.bf BK303 2; have hfz18_3 := Goto.bf BK303 3) | (go_at_call 5; (with_reducible refine (tontinehelp_WideConf.calls k a1_0 a1_1 _ _ l1_2 _ _ l1_3 t306 _ ?side1 ?side2 ?side3 ?side4 A14.out).mono ?_); (case side1 => repeat (first | exact (Kd.C_below HR1_2.out HB.out) | (with_reducible refine Kd.C_alloc ?_ _) | (with_reducible refine Kd.C_drewN ?_ _) | (with_reducible refine Kd.C_drew ?_))); (case side2 => exact HC1_2.out); (case side3 => repeat (first | exact (Kd.C_below HR1_3.out HB.out) | (with_reducible refine Kd.C_alloc ?_ _) | (with_reducible refine Kd.C_drewN ?_ _) | (with_reducible refine Kd.C_drew ?_))); (case side4 => exact HC1_3.out); rintro e w19 ⟨rfl, hb⟩; replace BK302 := Goto.bb BK302 hb; replace BK303 := Goto.bb BK303 hb; replace HB := Goto.hs HB hb; (try clear hb); (try clear hb2); (try clear hk); (try clear hi)))
    go_meet
    case rel => exact ⟨_, (t306), (by first | rfl | (simp; done) | (simp [*]; done)), H', ⟨by first | omega | exact Nat.le_refl _⟩, ⟨Goto.bx BK302⟩, ⟨Goto.bx BK303⟩, ⟨Goto.hx HB⟩⟩
  case rest =>
   clear HC5; try clear c1; try clear p2; try clear c3; try clear c4; try clear c5; try clear c10; try clear c11; try clear c15; try clear hcz12_0; try clear hcz12_1; try clear hcz12_2; try clear hcz12_3; try clear hcz16_0; try clear hcz16_1; try clear hcz16_2; try clear hcz16_3; try clear hcz18_0; try clear hcz18_1; try clear hcz18_2; try clear hcz18_3; try clear hfz12_0; try clear hfz12_1; try clear hfz12_2; try clear hfz12_3; try clear hfz16_0; try clear hfz16_1; try clear hfz16_2; try clear hfz16_3; try clear hfz18_0; try clear hfz18_1; try clear hfz18_2; try clear hfz18_3
   obtain ⟨kq, x12_4, rfl, HA, HJ4, BK302, BK303, HB⟩ := hcut
   cases kq with
   | zero => exact absurd HA.out (by simp [tontinelaw3_ConfTells.j0])
   | succ kj4 =>
    have H := HA.out; clear HA
    simp only [tontinelaw3_ConfTells.j0] at H
    by_cases c20 : x12_4 = true
    ·
     subst c20
     rw [if_pos rfl] at H
     obtain rfl := Option.some.inj H
     go_wp2
     go_ret
     exact ⟨Goto.er, by repeat (first | (with_reducible first | exact HB.out | apply below_alloc | apply pw_below_drewN | apply below_drew1 | refine below_set ?_ GE302.out | refine below_set ?_ GE303.out) | exact HB.out)⟩
    ·
     replace c20 := Bool.eq_false_iff.mpr c20
     subst c20
     rw [if_neg (show ¬ (false = true) by decide)] at H
     replace H := Option.bind_eq_some_iff.mp H
     obtain ⟨t307, A210, H⟩ := H
     have A21 := Goto.m0 A210
     clear A210
     replace H := Option.bind_eq_some_iff.mp H
     obtain ⟨t308, A220, H⟩ := H
     have A22 := Goto.m0 A220
     clear A220
     replace H := Option.bind_eq_some_iff.mp H
     obtain ⟨t309, A230, H⟩ := H
     have A23 := Goto.m0 A230
     clear A230
     by_cases c24 : t308 = t309
     ·
      rw [if_pos c24] at H
      have c24b0 : (t308 == t309) = true := beq_iff_eq.mpr c24
      have c24b1 : (t308 != t309) = false := bne_eq_false_iff_eq.mpr c24
      clear c24
      replace H := Option.bind_eq_some_iff.mp H
      obtain ⟨t310, A250, H⟩ := H
      have A25 := Goto.m0 A250
      clear A250
      replace H := Option.bind_eq_some_iff.mp H
      obtain ⟨t311, A260, H⟩ := H
      have A26 := Goto.m0 A260
      clear A260
      by_cases c27 : t310 = t311
      ·
       rw [if_pos c27] at H
       have c27b0 : (t310 == t311) = true := beq_iff_eq.mpr c27
       have c27b1 : (t310 != t311) = false := bne_eq_false_iff_eq.mpr c27
       clear c27
       replace H := Option.bind_eq_some_iff.mp H
       obtain ⟨t312, A280, H⟩ := H
       have A28 := Goto.m0 A280
       clear A280
       replace H := Option.bind_eq_some_iff.mp H
       obtain ⟨t313, A290, H⟩ := H
       have A29 := Goto.m0 A290
       clear A290
       by_cases c30 : (t312 == t313) = true
       ·
        rw [if_pos c30] at H
        have c30b0 : (t312 == t313) = true := c30
        (try (have c30b1 : decide (t312 = t313) = true := by simpa using c30))
        (try (have c30b2 : (t312 == t313) = true := by simpa using c30))
        clear c30
        replace H := Option.bind_eq_some_iff.mp H
        obtain ⟨t314, A310, H⟩ := H
        have A31 := Goto.m0 A310
        clear A310
        obtain rfl := Option.some.inj H
        try go_wp2
        replace BK302 := Goto.m0 (blk_drew BK302.out); replace BK303 := Goto.m0 (blk_drew BK303.out); replace HB := Goto.m0 (below_drew1 HB.out)
        refine start_ (n := 28) (S := fun w' => w'.cell? ⟨gb302, 0, none⟩ = some (.int .i64 a0_0) ∧ w'.cell? ⟨gb302, 1, none⟩ = some (.int .i64 a0_1) ∧ w'.cell? ⟨gb302, 2, none⟩ = some (.slice A0_2 l0_2.length c0_2) ∧ w'.cell? ⟨gb302, 3, none⟩ = some (.slice A0_3 l0_3.length c0_3) ∧ w'.cell? ⟨gb303, 0, none⟩ = some (.int .i64 a1_0) ∧ w'.cell? ⟨gb303, 1, none⟩ = some (.int .i64 a1_1) ∧ w'.cell? ⟨gb303, 2, none⟩ = some (.slice A1_2 l1_2.length c1_2) ∧ w'.cell? ⟨gb303, 3, none⟩ = some (.slice A1_3 l1_3.length c1_3)) (ds := []) (.replicate 28 false) (by kernel_rfl) rfl rfl ⟨(blk_cell BK302.out 0).trans rfl, (blk_cell BK302.out 1).trans rfl, (blk_cell BK302.out 2).trans rfl, (blk_cell BK302.out 3).trans rfl, (blk_cell BK303.out 0).trans rfl, (blk_cell BK303.out 1).trans rfl, (blk_cell BK303.out 2).trans rfl, (blk_cell BK303.out 3).trans rfl⟩ (fun hHeld => ?_); refine with_tabW tontinelaw3_ConfTells.tab5 tontinelaw3_ConfTells.bits5 (fun HT_ HW_ => ?_)
        generalize wc.drew = w32 at BK302 BK303 HB hHeld ⊢
        refine take_ (i := 0) (N := some 13) (v := ?_) (a' := ?_) (Goto.bs 28 1) rfl rfl (take_ofW HT_.out HW_.out (by kernel_rfl)) (fun _ _ _ h => h) (Or.inl ⟨by rfl, ?_⟩) hHeld ?_ ?_
        rotate_left
        ·
         rintro w' ⟨s0, s1, s2, s3, s4, s5, s6, s7⟩
         go_simp
         with_reducible rfl
        rotate_left
        ·
         exact Goto.ap
        refine take_ (i := 3) (N := some 16) (v := ?_) (a' := ?_) (Goto.bs 28 9) rfl rfl (take_ofW HT_.out HW_.out (by kernel_rfl)) (fun _ _ _ h => h) (Or.inl ⟨by rfl, ?_⟩) hHeld ?_ ?_
        rotate_left
        ·
         rintro w' ⟨s0, s1, s2, s3, s4, s5, s6, s7⟩
         go_simp
         with_reducible rfl
        rotate_left
        ·
         exact Goto.ap
        refine one_ (i := 1) (N := some 14) (Goto.bs 28 11) rfl rfl (one_of HT_.out (by kernel_rfl)) (by decide) (fun K hK => ?_)
        refine goes_ Tryd.func7 (by kernel_rfl) rfl #[.agg #[.int .i64 a0_0, .int .i64 a0_1, .slice A0_2 l0_2.length c0_2, .slice A0_3 l0_3.length c0_3]] (by rfl) rfl rfl (by (try simp only [List.map_toArray, List.map_cons, List.map_nil]); first | done | rfl | (simp only [List.length_drop, List.length_take]; rfl)) ?_
        with_reducible refine (conf_Is.calls kj4 a0_0 a0_1 _ _ l0_2 _ _ l0_3 t307 _ ?side1 ?side2 ?side3 ?side4 A21.out).mono ?_
        (case side1 => repeat (first | exact (Kd.C_below HR0_2.out HB.out) | (with_reducible refine Kd.C_alloc ?_ _) | (with_reducible refine Kd.C_drewN ?_ _) | (with_reducible refine Kd.C_drew ?_)))
        (case side2 => exact HC0_2.out)
        (case side3 => repeat (first | exact (Kd.C_below HR0_3.out HB.out) | (with_reducible refine Kd.C_alloc ?_ _) | (with_reducible refine Kd.C_drewN ?_ _) | (with_reducible refine Kd.C_drew ?_)))
        (case side4 => exact HC0_3.out)
        rintro e w33 ⟨rfl, hb⟩
        refine ⟨_, rfl, ?_⟩
        replace BK302 := Goto.bb BK302 hb; replace BK303 := Goto.bb BK303 hb; replace HB := Goto.hs HB hb
        (try clear hb)
        (try clear hb2)
        (try clear hk)
        (try clear hi)
        (try simp only [errW_none, errW_some])
        have CA22 := fun W hl_ => ext_6.calls t307 t308 W hl_ A22.out
        try simp only [errW_none, errW_some] at CA22
        refine hK.out _ _ ⟨(blk_cell BK302.out 0).trans rfl, (blk_cell BK302.out 1).trans rfl, (blk_cell BK302.out 2).trans rfl, (blk_cell BK302.out 3).trans rfl, (blk_cell BK303.out 0).trans rfl, (blk_cell BK303.out 1).trans rfl, (blk_cell BK303.out 2).trans rfl, (blk_cell BK303.out 3).trans rfl⟩ (fun hHeld => ?_)
        clear hK K
        refine norm_ (a' := ?_) ?_ ?_
        rotate_left
        ·
         show Act.put _ (some 14) _ = _
         exact Goto.ap
        refine one_ (i := 2) (N := some 15) (Goto.bs 28 15) rfl rfl (one_of HT_.out (by kernel_rfl)) (by decide) (fun K hK => ?_)
        refine goes_ Tryd.func6 (by kernel_rfl) rfl #[errW t307] (by rfl) rfl rfl (by (try simp only [List.map_toArray, List.map_cons, List.map_nil]); first | done | rfl | (simp only [List.length_drop, List.length_take]; rfl)) ?_
        with_reducible refine (CA22 _ (Goto.kc (Goto.hx HB) HLD.out)).mono ?_
        rintro e w34 ⟨rfl, hb⟩
        refine ⟨_, rfl, ?_⟩
        replace BK302 := Goto.bb BK302 hb; replace BK303 := Goto.bb BK303 hb; replace HB := Goto.hs HB hb
        (try clear hb)
        (try clear hb2)
        (try clear hk)
        (try clear hi)
        refine hK.out _ _ ⟨(blk_cell BK302.out 0).trans rfl, (blk_cell BK302.out 1).trans rfl, (blk_cell BK302.out 2).trans rfl, (blk_cell BK302.out 3).trans rfl, (blk_cell BK303.out 0).trans rfl, (blk_cell BK303.out 1).trans rfl, (blk_cell BK303.out 2).trans rfl, (blk_cell BK303.out 3).trans rfl⟩ (fun hHeld => ?_)
        clear hK K
        refine norm_ (a' := ?_) ?_ ?_
        rotate_left
        ·
         show Act.put _ (some 15) _ = _
         exact Goto.ap
        refine one_ (i := 4) (N := some 17) (Goto.bs 28 31) rfl rfl (one_of HT_.out (by kernel_rfl)) (by decide) (fun K hK => ?_)
        refine goes_ Tryd.func8 (by kernel_rfl) rfl #[.agg #[.int .i64 a0_0, .int .i64 a0_1, .slice A0_2 l0_2.length c0_2, .slice A0_3 l0_3.length c0_3]] (by rfl) rfl rfl (by (try simp only [List.map_toArray, List.map_cons, List.map_nil]); first | done | rfl | (simp only [List.length_drop, List.length_take]; rfl)) ?_
        with_reducible refine (tontineref1_IsConf.calls kj4 a0_0 a0_1 _ _ l0_2 _ _ l0_3 t309 _ ?side1 ?side2 ?side3 ?side4 A23.out).mono ?_
        (case side1 => repeat (first | exact (Kd.C_below HR0_2.out HB.out) | (with_reducible refine Kd.C_alloc ?_ _) | (with_reducible refine Kd.C_drewN ?_ _) | (with_reducible refine Kd.C_drew ?_)))
        (case side2 => exact HC0_2.out)
        (case side3 => repeat (first | exact (Kd.C_below HR0_3.out HB.out) | (with_reducible refine Kd.C_alloc ?_ _) | (with_reducible refine Kd.C_drewN ?_ _) | (with_reducible refine Kd.C_drew ?_)))
        (case side4 => exact HC0_3.out)
        rintro e w35 ⟨rfl, hb⟩
        refine ⟨_, rfl, ?_⟩
        replace BK302 := Goto.bb BK302 hb; replace BK303 := Goto.bb BK303 hb; replace HB := Goto.hs HB hb
        (try clear hb)
        (try clear hb2)
        (try clear hk)
        (try clear hi)
        refine hK.out _ _ ⟨(blk_cell BK302.out 0).trans rfl, (blk_cell BK302.out 1).trans rfl, (blk_cell BK302.out 2).trans rfl, (blk_cell BK302.out 3).trans rfl, (blk_cell BK303.out 0).trans rfl, (blk_cell BK303.out 1).trans rfl, (blk_cell BK303.out 2).trans rfl, (blk_cell BK303.out 3).trans rfl⟩ (fun hHeld => ?_)
        clear hK K
        refine norm_ (a' := ?_) ?_ ?_
        rotate_left
        ·
         show Act.put _ (some 17) _ = _
         exact Goto.ap
        refine Goto.pu 5 18 28 63 ?_
        refine Goto.pu 6 19 28 127 ?_
        refine take_ (i := 7) (N := some 20) (v := ?_) (a' := ?_) (Goto.bs 28 255) rfl rfl (take_ofW HT_.out HW_.out (by kernel_rfl)) (fun _ _ _ h => h) (Or.inl ⟨by rfl, ?_⟩) hHeld ?_ ?_
        rotate_left
        ·
         rintro w' ⟨s0, s1, s2, s3, s4, s5, s6, s7⟩
         go_simp
         with_reducible rfl
        rotate_left
        ·
         exact Goto.ap
        refine take_ (i := 9) (N := some 22) (v := ?_) (a' := ?_) (Goto.bs 28 767) rfl rfl (take_ofW HT_.out HW_.out (by kernel_rfl)) (fun _ _ _ h => h) (Or.inl ⟨by rfl, ?_⟩) hHeld ?_ ?_
        rotate_left
        ·
         rintro w' ⟨s0, s1, s2, s3, s4, s5, s6, s7⟩
         go_simp
         with_reducible rfl
        rotate_left
        ·
         exact Goto.ap
        refine one_ (i := 8) (N := some 21) (Goto.bs 28 1023) rfl rfl (one_of HT_.out (by kernel_rfl)) (by decide) (fun K hK => ?_)
        refine goes_ Tryd.func9 (by kernel_rfl) rfl #[.agg #[.int .i64 a0_0, .int .i64 a0_1, .slice A0_2 l0_2.length c0_2, .slice A0_3 l0_3.length c0_3]] (by rfl) rfl rfl (by (try simp only [List.map_toArray, List.map_cons, List.map_nil]); first | done | rfl | (simp only [List.length_drop, List.length_take]; rfl)) ?_
        with_reducible refine (conf_Ticks.calls kj4 a0_0 a0_1 _ _ l0_2 _ _ l0_3 t310 _ ?side1 ?side2 ?side3 ?side4 A25.out).mono ?_
        (case side1 => repeat (first | exact (Kd.C_below HR0_2.out HB.out) | (with_reducible refine Kd.C_alloc ?_ _) | (with_reducible refine Kd.C_drewN ?_ _) | (with_reducible refine Kd.C_drew ?_)))
        (case side2 => exact HC0_2.out)
        (case side3 => repeat (first | exact (Kd.C_below HR0_3.out HB.out) | (with_reducible refine Kd.C_alloc ?_ _) | (with_reducible refine Kd.C_drewN ?_ _) | (with_reducible refine Kd.C_drew ?_)))
        (case side4 => exact HC0_3.out)
        rintro e w36 ⟨rfl, hb⟩
        refine ⟨_, rfl, ?_⟩
        replace BK302 := Goto.bb BK302 hb; replace BK303 := Goto.bb BK303 hb; replace HB := Goto.hs HB hb
        (try clear hb)
        (try clear hb2)
        (try clear hk)
        (try clear hi)
        refine hK.out _ _ ⟨(blk_cell BK302.out 0).trans rfl, (blk_cell BK302.out 1).trans rfl, (blk_cell BK302.out 2).trans rfl, (blk_cell BK302.out 3).trans rfl, (blk_cell BK303.out 0).trans rfl, (blk_cell BK303.out 1).trans rfl, (blk_cell BK303.out 2).trans rfl, (blk_cell BK303.out 3).trans rfl⟩ (fun hHeld => ?_)
        clear hK K
        refine norm_ (a' := ?_) ?_ ?_
        rotate_left
        ·
         show Act.put _ (some 21) _ = _
         exact Goto.ap
        refine one_ (i := 10) (N := some 23) (Goto.bs 28 2047) rfl rfl (one_of HT_.out (by kernel_rfl)) (by decide) (fun K hK => ?_)
        refine goes_ Tryd.func10 (by kernel_rfl) rfl #[.agg #[.int .i64 a0_0, .int .i64 a0_1, .slice A0_2 l0_2.length c0_2, .slice A0_3 l0_3.length c0_3]] (by rfl) rfl rfl (by (try simp only [List.map_toArray, List.map_cons, List.map_nil]); first | done | rfl | (simp only [List.length_drop, List.length_take]; rfl)) ?_
        with_reducible refine (tontineref1_Ticks.calls kj4 a0_0 a0_1 _ _ l0_2 _ _ l0_3 t311 _ ?side1 ?side2 ?side3 ?side4 A26.out).mono ?_
        (case side1 => repeat (first | exact (Kd.C_below HR0_2.out HB.out) | (with_reducible refine Kd.C_alloc ?_ _) | (with_reducible refine Kd.C_drewN ?_ _) | (with_reducible refine Kd.C_drew ?_)))
        (case side2 => exact HC0_2.out)
        (case side3 => repeat (first | exact (Kd.C_below HR0_3.out HB.out) | (with_reducible refine Kd.C_alloc ?_ _) | (with_reducible refine Kd.C_drewN ?_ _) | (with_reducible refine Kd.C_drew ?_)))
        (case side4 => exact HC0_3.out)
        rintro e w37 ⟨rfl, hb⟩
        refine ⟨_, rfl, ?_⟩
        replace BK302 := Goto.bb BK302 hb; replace BK303 := Goto.bb BK303 hb; replace HB := Goto.hs HB hb
        (try clear hb)
        (try clear hb2)
        (try clear hk)
        (try clear hi)
        refine hK.out _ _ ⟨(blk_cell BK302.out 0).trans rfl, (blk_cell BK302.out 1).trans rfl, (blk_cell BK302.out 2).trans rfl, (blk_cell BK302.out 3).trans rfl, (blk_cell BK303.out 0).trans rfl, (blk_cell BK303.out 1).trans rfl, (blk_cell BK303.out 2).trans rfl, (blk_cell BK303.out 3).trans rfl⟩ (fun hHeld => ?_)
        clear hK K
        refine norm_ (a' := ?_) ?_ ?_
        rotate_left
        ·
         show Act.put _ (some 23) _ = _
         exact Goto.ap
        refine Goto.pu 11 24 28 4095 ?_
        refine Goto.pu 12 25 28 8191 ?_
        refine Goto.pu 13 26 28 16383 ?_
        refine take_ (i := 14) (N := some 27) (v := ?_) (a' := ?_) (Goto.bs 28 32767) rfl rfl (take_ofW HT_.out HW_.out (by kernel_rfl)) (fun _ _ _ h => h) (Or.inl ⟨by rfl, ?_⟩) hHeld ?_ ?_
        rotate_left
        ·
         rintro w' ⟨s0, s1, s2, s3, s4, s5, s6, s7⟩
         go_simp
         with_reducible rfl
        rotate_left
        ·
         exact Goto.ap
        refine take_ (i := 15) (N := some 28) (v := ?_) (a' := ?_) (Goto.bs 28 65535) rfl rfl (take_ofW HT_.out HW_.out (by kernel_rfl)) (fun _ _ _ h => h) (Or.inl ⟨by rfl, ?_⟩) hHeld ?_ ?_
        rotate_left
        ·
         rintro w' ⟨s0, s1, s2, s3, s4, s5, s6, s7⟩
         go_simp
         with_reducible rfl
        rotate_left
        ·
         exact Goto.ap
        refine take_ (i := 17) (N := some 30) (v := ?_) (a' := ?_) (Goto.bs 28 196607) rfl rfl (take_ofW HT_.out HW_.out (by kernel_rfl)) (fun _ _ _ h => h) (Or.inl ⟨by rfl, ?_⟩) hHeld ?_ ?_
        rotate_left
        ·
         rintro w' ⟨s0, s1, s2, s3, s4, s5, s6, s7⟩
         go_simp
         with_reducible rfl
        rotate_left
        ·
         exact Goto.ap
        refine take_ (i := 18) (N := some 31) (v := ?_) (a' := ?_) (Goto.bs 28 458751) rfl rfl (take_ofW HT_.out HW_.out (by kernel_rfl)) (fun _ _ _ h => h) (Or.inl ⟨by rfl, ?_⟩) hHeld ?_ ?_
        rotate_left
        ·
         rintro w' ⟨s0, s1, s2, s3, s4, s5, s6, s7⟩
         go_simp
         with_reducible rfl
        rotate_left
        ·
         exact Goto.ap
        refine one_ (i := 16) (N := some 29) (Goto.bs 28 524287) rfl rfl (one_of HT_.out (by kernel_rfl)) (by decide) (fun K hK => ?_)
        refine goes_ Tryd.func11 (by kernel_rfl) rfl #[.agg #[.int .i64 a0_0, .int .i64 a0_1, .slice A0_2 l0_2.length c0_2, .slice A0_3 l0_3.length c0_3], .agg #[.int .i64 a1_0, .int .i64 a1_1, .slice A1_2 l1_2.length c1_2, .slice A1_3 l1_3.length c1_3]] (by rfl) rfl rfl (by (try simp only [List.map_toArray, List.map_cons, List.map_nil]); first | done | rfl | (simp only [List.length_drop, List.length_take]; rfl)) ?_
        with_reducible refine (conf_Same.calls kj4 a0_0 a0_1 _ _ l0_2 _ _ l0_3 a1_0 a1_1 _ _ l1_2 _ _ l1_3 t312 _ ?side1 ?side2 ?side3 ?side4 ?side5 ?side6 ?side7 ?side8 A28.out).mono ?_
        (case side1 => repeat (first | exact (Kd.C_below HR0_2.out HB.out) | (with_reducible refine Kd.C_alloc ?_ _) | (with_reducible refine Kd.C_drewN ?_ _) | (with_reducible refine Kd.C_drew ?_)))
        (case side2 => exact HC0_2.out)
        (case side3 => repeat (first | exact (Kd.C_below HR0_3.out HB.out) | (with_reducible refine Kd.C_alloc ?_ _) | (with_reducible refine Kd.C_drewN ?_ _) | (with_reducible refine Kd.C_drew ?_)))
        (case side4 => exact HC0_3.out)
        (case side5 => repeat (first | exact (Kd.C_below HR1_2.out HB.out) | (with_reducible refine Kd.C_alloc ?_ _) | (with_reducible refine Kd.C_drewN ?_ _) | (with_reducible refine Kd.C_drew ?_)))
        (case side6 => exact HC1_2.out)
        (case side7 => repeat (first | exact (Kd.C_below HR1_3.out HB.out) | (with_reducible refine Kd.C_alloc ?_ _) | (with_reducible refine Kd.C_drewN ?_ _) | (with_reducible refine Kd.C_drew ?_)))
        (case side8 => exact HC1_3.out)
        rintro e w38 ⟨rfl, hb⟩
        refine ⟨_, rfl, ?_⟩
        replace BK302 := Goto.bb BK302 hb; replace BK303 := Goto.bb BK303 hb; replace HB := Goto.hs HB hb
        (try clear hb)
        (try clear hb2)
        (try clear hk)
        (try clear hi)
        refine hK.out _ _ ⟨(blk_cell BK302.out 0).trans rfl, (blk_cell BK302.out 1).trans rfl, (blk_cell BK302.out 2).trans rfl, (blk_cell BK302.out 3).trans rfl, (blk_cell BK303.out 0).trans rfl, (blk_cell BK303.out 1).trans rfl, (blk_cell BK303.out 2).trans rfl, (blk_cell BK303.out 3).trans rfl⟩ (fun hHeld => ?_)
        clear hK K
        refine norm_ (a' := ?_) ?_ ?_
        rotate_left
        ·
         show Act.put _ (some 29) _ = _
         exact Goto.ap
        refine one_ (i := 19) (N := some 32) (Goto.bs 28 1048575) rfl rfl (one_of HT_.out (by kernel_rfl)) (by decide) (fun K hK => ?_)
        refine goes_ Tryd.func12 (by kernel_rfl) rfl #[.agg #[.int .i64 a0_0, .int .i64 a0_1, .slice A0_2 l0_2.length c0_2, .slice A0_3 l0_3.length c0_3], .agg #[.int .i64 a1_0, .int .i64 a1_1, .slice A1_2 l1_2.length c1_2, .slice A1_3 l1_3.length c1_3]] (by rfl) rfl rfl (by (try simp only [List.map_toArray, List.map_cons, List.map_nil]); first | done | rfl | (simp only [List.length_drop, List.length_take]; rfl)) ?_
        with_reducible refine (ext_12.calls a0_0 a0_1 _ _ l0_2 _ _ l0_3 a1_0 a1_1 _ _ l1_2 _ _ l1_3 t313 _ ?side1 ?side2 ?side3 ?side4 ?side5 ?side6 ?side7 ?side8 A29.out).mono ?_
        (case side1 => repeat (first | exact (Kd.C_below HR0_2.out HB.out) | (with_reducible refine Kd.C_alloc ?_ _) | (with_reducible refine Kd.C_drewN ?_ _) | (with_reducible refine Kd.C_drew ?_)))
        (case side2 => exact HC0_2.out)
        (case side3 => repeat (first | exact (Kd.C_below HR0_3.out HB.out) | (with_reducible refine Kd.C_alloc ?_ _) | (with_reducible refine Kd.C_drewN ?_ _) | (with_reducible refine Kd.C_drew ?_)))
        (case side4 => exact HC0_3.out)
        (case side5 => repeat (first | exact (Kd.C_below HR1_2.out HB.out) | (with_reducible refine Kd.C_alloc ?_ _) | (with_reducible refine Kd.C_drewN ?_ _) | (with_reducible refine Kd.C_drew ?_)))
        (case side6 => exact HC1_2.out)
        (case side7 => repeat (first | exact (Kd.C_below HR1_3.out HB.out) | (with_reducible refine Kd.C_alloc ?_ _) | (with_reducible refine Kd.C_drewN ?_ _) | (with_reducible refine Kd.C_drew ?_)))
        (case side8 => exact HC1_3.out)
        rintro e w39 ⟨rfl, hb⟩
        refine ⟨_, rfl, ?_⟩
        replace BK302 := Goto.bb BK302 hb; replace BK303 := Goto.bb BK303 hb; replace HB := Goto.hs HB hb
        (try clear hb)
        (try clear hb2)
        (try clear hk)
        (try clear hi)
        refine hK.out _ _ ⟨(blk_cell BK302.out 0).trans rfl, (blk_cell BK302.out 1).trans rfl, (blk_cell BK302.out 2).trans rfl, (blk_cell BK302.out 3).trans rfl, (blk_cell BK303.out 0).trans rfl, (blk_cell BK303.out 1).trans rfl, (blk_cell BK303.out 2).trans rfl, (blk_cell BK303.out 3).trans rfl⟩ (fun hHeld => ?_)
        clear hK K
        refine norm_ (a' := ?_) ?_ ?_
        rotate_left
        ·
         show Act.put _ (some 32) _ = _
         exact Goto.ap
        refine Goto.pu 20 33 28 2097151 ?_
        refine Goto.pu 21 34 28 4194303 ?_
        refine Goto.pu 22 35 28 8388607 ?_
        refine take_ (i := 23) (N := some 36) (v := ?_) (a' := ?_) (Goto.bs 28 16777215) rfl rfl (take_ofW HT_.out HW_.out (by kernel_rfl)) (fun _ _ _ h => h) (Or.inl ⟨by rfl, ?_⟩) hHeld ?_ ?_
        rotate_left
        ·
         rintro w' ⟨s0, s1, s2, s3, s4, s5, s6, s7⟩
         go_simp
         with_reducible rfl
        rotate_left
        ·
         exact Goto.ap
        refine take_ (i := 24) (N := some 37) (v := ?_) (a' := ?_) (Goto.bs 28 33554431) rfl rfl (take_ofW HT_.out HW_.out (by kernel_rfl)) (fun _ _ _ h => h) (Or.inl ⟨by rfl, ?_⟩) hHeld ?_ ?_
        rotate_left
        ·
         rintro w' ⟨s0, s1, s2, s3, s4, s5, s6, s7⟩
         go_simp
         with_reducible rfl
        rotate_left
        ·
         exact Goto.ap
        refine one_ (i := 25) (N := some 38) (Goto.bs 28 67108863) rfl rfl (one_of HT_.out (by kernel_rfl)) (by decide) (fun K hK => ?_)
        refine goes_ Tryd.func11 (by kernel_rfl) rfl #[.agg #[.int .i64 a0_0, .int .i64 a0_1, .slice A0_2 l0_2.length c0_2, .slice A0_3 l0_3.length c0_3], .agg #[.int .i64 a0_0, .int .i64 a0_1, .slice A0_2 l0_2.length c0_2, .slice A0_3 l0_3.length c0_3]] (by rfl) rfl rfl (by (try simp only [List.map_toArray, List.map_cons, List.map_nil]); first | done | rfl | (simp only [List.length_drop, List.length_take]; rfl)) ?_
        with_reducible refine (conf_Same.calls kj4 a0_0 a0_1 _ _ l0_2 _ _ l0_3 a0_0 a0_1 _ _ l0_2 _ _ l0_3 t314 _ ?side1 ?side2 ?side3 ?side4 ?side5 ?side6 ?side7 ?side8 A31.out).mono ?_
        (case side1 => repeat (first | exact (Kd.C_below HR0_2.out HB.out) | (with_reducible refine Kd.C_alloc ?_ _) | (with_reducible refine Kd.C_drewN ?_ _) | (with_reducible refine Kd.C_drew ?_)))
        (case side2 => exact HC0_2.out)
        (case side3 => repeat (first | exact (Kd.C_below HR0_3.out HB.out) | (with_reducible refine Kd.C_alloc ?_ _) | (with_reducible refine Kd.C_drewN ?_ _) | (with_reducible refine Kd.C_drew ?_)))
        (case side4 => exact HC0_3.out)
        (case side5 => repeat (first | exact (Kd.C_below HR0_2.out HB.out) | (with_reducible refine Kd.C_alloc ?_ _) | (with_reducible refine Kd.C_drewN ?_ _) | (with_reducible refine Kd.C_drew ?_)))
        (case side6 => exact HC0_2.out)
        (case side7 => repeat (first | exact (Kd.C_below HR0_3.out HB.out) | (with_reducible refine Kd.C_alloc ?_ _) | (with_reducible refine Kd.C_drewN ?_ _) | (with_reducible refine Kd.C_drew ?_)))
        (case side8 => exact HC0_3.out)
        rintro e w40 ⟨rfl, hb⟩
        refine ⟨_, rfl, ?_⟩
        replace BK302 := Goto.bb BK302 hb; replace BK303 := Goto.bb BK303 hb; replace HB := Goto.hs HB hb
        (try clear hb)
        (try clear hb2)
        (try clear hk)
        (try clear hi)
        refine hK.out _ _ ⟨(blk_cell BK302.out 0).trans rfl, (blk_cell BK302.out 1).trans rfl, (blk_cell BK302.out 2).trans rfl, (blk_cell BK302.out 3).trans rfl, (blk_cell BK303.out 0).trans rfl, (blk_cell BK303.out 1).trans rfl, (blk_cell BK303.out 2).trans rfl, (blk_cell BK303.out 3).trans rfl⟩ (fun hHeld => ?_)
        clear hK K
        refine norm_ (a' := ?_) ?_ ?_
        rotate_left
        ·
         show Act.put _ (some 38) _ = _
         exact Goto.ap
        refine Goto.pu 26 39 28 134217727 ?_
        refine Goto.pu 27 4 28 268435455 ?_
        refine done_ (done_of HT_.out (by kernel_rfl)) ?_
        try go_wp2
        go_ret
        exact ⟨Goto.er, by repeat (first | (with_reducible first | exact HB.out | apply below_alloc | apply pw_below_drewN | apply below_drew1 | refine below_set ?_ GE302.out | refine below_set ?_ GE303.out) | exact HB.out)⟩
       ·
        rw [if_neg c30] at H
        have c30b0 : (t312 == t313) = false := by simpa using c30
        (try (have c30b1 : decide (t312 = t313) = false := by simpa using c30))
        (try (have c30b2 : (t312 == t313) = false := by simpa using c30))
        (try (have c30b3 : ¬ (t312 = t313) := by simpa using c30))
        clear c30
        exact absurd ((Option.some.inj H).trans HRT.out) (by decide)
      ·
       rw [if_neg c27] at H
       have c27b0 : (t310 == t311) = false := beq_eq_false_iff_ne.mpr c27
       have c27b1 : (t310 != t311) = true := bne_iff_ne.mpr c27
       exact absurd ((Option.some.inj H).trans HRT.out) (by decide)
     ·
      rw [if_neg c24] at H
      have c24b0 : (t308 == t309) = false := beq_eq_false_iff_ne.mpr c24
      have c24b1 : (t308 != t309) = true := bne_iff_ne.mpr c24
      exact absurd ((Option.some.inj H).trans HRT.out) (by decide)
 ·
  replace c4 := Bool.eq_false_iff.mpr c4
  subst c4
  rw [if_neg (show ¬ (false = true) by decide)] at H
  exact absurd ((Option.some.inj H).trans HRT.out) (by decide)

end Go.Proofs.YtjgdcifbhmjinaaDoor.P
