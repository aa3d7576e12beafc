/- Printed by a program of this workplace (a turned copy of the kit's optional print), out of the translation; not trusted: Lean checks it. -/
import Derived.Test.YtjgdcifbhmjinaaDoorPx0
import Derived.Test.YtjgdcifbhmjinaaDoorPx1
import Derived.Test.YtjgdcifbhmjinaaDoorPx2
namespace Go.Proofs.YtjgdcifbhmjinaaDoor.P
open Go.RowKit Go.Proofs.YtjgdcifbhmjinaaDoorW.PrintWords Go.Proofs.YtjgdcifbhmjinaaDoorW.PrintLast Go.Proofs.YtjgdcifbhmjinaaDoorW.PrintMore
attribute [local go_sem] max2_int min2_int max_two min_two max_three min_three max_four min_four   -- for this text's walks alone
set_option linter.unusedVariables false
set_option linter.unusedSimpArgs false

attribute [local go_sem high] eqA38
/-! ### conf_falls: function 41 -/
def conf_falls.j0 : Nat → Bool → Int → Int → List (List Int) → List (S40) → Int → Int → List (List Int) → List Int → Int → Int → Int → Int → Int → Int → Option (Bool)
  | 0, _, _, _, _, _, _, _, _, _, _, _, _, _, _, _ => none
  | k + 1, x39, x150000, x150001, x150002, x150003, x152000, x152001, x152002, x152003, x152004, x152005, x152006, x152007, x152008, x152009 => if x39 = true then (some false) else (if 0 ≤ x152004 then (if x152004 < (x150003.length : Int) then ((slices_Min_int_int.f k x152003).bind fun t156 => (if t156 ≥ 0 then ((slices_Max_int_int.f k x152003).bind fun t157 => (if t157 ≤ x150000 then (if (!(((rd_T40 x150003 x152004).f0.f0) == x152000) || (!(((rd_T40 x150003 x152004).f0.f1) == x152001))) = true then ((label_Leq.f ((rd_T40 x150003 x152004).f0.f0) ((rd_T40 x150003 x152004).f0.f1) x152000 x152001).bind fun t158 => (some t158)) else (some false)) else (some false))) else (some false))) else (none)) else (none))
def conf_falls.f (k : Nat) (a0_0 : Int) (a0_1 : Int) (l0_2 : List (List Int)) (l0_3 : List (S40)) (a1 : Int) : Option (Bool) := if 0 ≤ a1 then (if a1 < (l0_3.length : Int) then (if ((rd_T40 l0_3 a1).f3) = (-1) then (some ((((rd_T40 l0_3 a1).f2).length : Int) == 0)) else ((conf_within.f ((rd_T40 l0_3 a1).f3) 0 (wrap64 ((l0_3.length : Int) - 1))).bind fun t152 => (if t152 = true then (if ((rd_T40 l0_3 a1).f3) = a1 then (conf_falls.j0 k true a0_0 a0_1 l0_2 l0_3 ((rd_T40 l0_3 a1).f0.f0) ((rd_T40 l0_3 a1).f0.f1) ((rd_T40 l0_3 a1).f1) ((rd_T40 l0_3 a1).f2) ((rd_T40 l0_3 a1).f3) ((rd_T40 l0_3 a1).f4) ((rd_T40 l0_3 a1).f5) ((rd_T40 l0_3 a1).f6) ((rd_T40 l0_3 a1).f7) ((rd_T40 l0_3 a1).f8)) else ((conf_within.f (((rd_T40 l0_3 a1).f2).length : Int) 1 4).bind fun t153 => (conf_falls.j0 k (!t153) a0_0 a0_1 l0_2 l0_3 ((rd_T40 l0_3 a1).f0.f0) ((rd_T40 l0_3 a1).f0.f1) ((rd_T40 l0_3 a1).f1) ((rd_T40 l0_3 a1).f2) ((rd_T40 l0_3 a1).f3) ((rd_T40 l0_3 a1).f4) ((rd_T40 l0_3 a1).f5) ((rd_T40 l0_3 a1).f6) ((rd_T40 l0_3 a1).f7) ((rd_T40 l0_3 a1).f8)))) else (conf_falls.j0 k true a0_0 a0_1 l0_2 l0_3 ((rd_T40 l0_3 a1).f0.f0) ((rd_T40 l0_3 a1).f0.f1) ((rd_T40 l0_3 a1).f1) ((rd_T40 l0_3 a1).f2) ((rd_T40 l0_3 a1).f3) ((rd_T40 l0_3 a1).f4) ((rd_T40 l0_3 a1).f5) ((rd_T40 l0_3 a1).f6) ((rd_T40 l0_3 a1).f7) ((rd_T40 l0_3 a1).f8))))) else (none)) else (none)
def conf_falls.T7 : Bool × List (List Nat × List Nat) := (true, [([], []), ([0], [0]), ([1], [1]), ([2], [2]), ([3, 2], [3]), ([4], [4]), ([5, 4], [4, 5]), ([6, 4, 4], [4, 6]), ([4], [4]), ([8, 4], [4, 8]), ([7, 9, 4], [4, 7, 9]), ([4, 10], [4, 10]), ([11, 7], [11]), ([12], [12]), ([12], [12]), ([14, 12], [12, 14]), ([13, 15, 12], [12, 13, 15]), ([12, 16], [12, 16]), ([17, 12], [17]), ([18], [18]), ([18], [18]), ([20, 18], [18, 20]), ([19, 21, 18, 18], [18, 19, 21]), ([18, 22], [18, 22]), ([23, 22, 0, 1, 2, 3, 4, 5, 6, 7, 8, 9, 10, 11, 12, 13, 14, 15, 16, 17, 18, 19, 20, 21, 22, 23], [23])])
def conf_falls.B7 : List Nat := [0, 1, 3, 7, 15, 31, 63, 127, 31, 287, 1023, 2047, 4095, 8191, 8191, 24575, 65535, 131071, 262143, 524287, 524287, 1572863, 4194303, 8388607, 16777215]
theorem conf_falls.tab7 : rtab .any (opsOf Tryd.f41 7) = conf_falls.T7 := by kernel_rfl
theorem conf_falls.bits7 : waitsOk conf_falls.T7.2 conf_falls.B7 = true := by kernel_rfl
set_option maxHeartbeats 8000000 in
set_option maxRecDepth 100000 in
theorem conf_falls.calls (k : Nat) (a0_0 : Int) (a0_1 : Int) (A0_2 : Option Addr) (c0_2 : Nat) (l0_2 : List (List Int)) (A0_3 : Option Addr) (c0_3 : Nat) (l0_3 : List (S40)) (a1 : Int) (r : Bool) (w : World) (hr0_2 : Kd.C (Kd.slice 3 (Kd.int .i64)) w A0_2 l0_2.length l0_2) (hc0_2 : l0_2.length ≤ c0_2) (hr0_3 : Kd.C k40 w A0_3 l0_3.length l0_3) (hc0_3 : l0_3.length ≤ c0_3) (h : conf_falls.f k a0_0 a0_1 l0_2 l0_3 a1 = some r) :
    Calls Tryd.prog 41 #[.agg #[.int .i64 a0_0, .int .i64 a0_1, .slice A0_2 l0_2.length c0_2, .slice A0_3 l0_3.length c0_3], .int .i64 a1] w fun e w' => e = .returned (.bool r) ∧ Below w.heap.size w w' := by
 have hu25 := Tryd.underlying25; have hu40 := Tryd.underlying40; have hu38 := Tryd.underlying38
 have HR0_2 := Goto.m0 hr0_2
 have HC0_2 := Goto.m0 hc0_2
 clear hr0_2 hc0_2
 have HR0_3 := Goto.m0 hr0_3
 have HC0_3 := Goto.m0 hc0_3
 clear hr0_3 hc0_3
 have HB := Goto.m0 (Below.refl w.heap.size w)
 have H : (if 0 ≤ a1 then (if a1 < (l0_3.length : Int) then (if ((rd_T40 l0_3 a1).f3) = (-1) then (some ((((rd_T40 l0_3 a1).f2).length : Int) == 0)) else ((conf_within.f ((rd_T40 l0_3 a1).f3) 0 (wrap64 ((l0_3.length : Int) - 1))).bind fun t152 => (if t152 = true then (if ((rd_T40 l0_3 a1).f3) = a1 then (conf_falls.j0 k true a0_0 a0_1 l0_2 l0_3 ((rd_T40 l0_3 a1).f0.f0) ((rd_T40 l0_3 a1).f0.f1) ((rd_T40 l0_3 a1).f1) ((rd_T40 l0_3 a1).f2) ((rd_T40 l0_3 a1).f3) ((rd_T40 l0_3 a1).f4) ((rd_T40 l0_3 a1).f5) ((rd_T40 l0_3 a1).f6) ((rd_T40 l0_3 a1).f7) ((rd_T40 l0_3 a1).f8)) else ((conf_within.f (((rd_T40 l0_3 a1).f2).length : Int) 1 4).bind fun t153 => (conf_falls.j0 k (!t153) a0_0 a0_1 l0_2 l0_3 ((rd_T40 l0_3 a1).f0.f0) ((rd_T40 l0_3 a1).f0.f1) ((rd_T40 l0_3 a1).f1) ((rd_T40 l0_3 a1).f2) ((rd_T40 l0_3 a1).f3) ((rd_T40 l0_3 a1).f4) ((rd_T40 l0_3 a1).f5) ((rd_T40 l0_3 a1).f6) ((rd_T40 l0_3 a1).f7) ((rd_T40 l0_3 a1).f8)))) else (conf_falls.j0 k true a0_0 a0_1 l0_2 l0_3 ((rd_T40 l0_3 a1).f0.f0) ((rd_T40 l0_3 a1).f0.f1) ((rd_T40 l0_3 a1).f1) ((rd_T40 l0_3 a1).f2) ((rd_T40 l0_3 a1).f3) ((rd_T40 l0_3 a1).f4) ((rd_T40 l0_3 a1).f5) ((rd_T40 l0_3 a1).f6) ((rd_T40 l0_3 a1).f7) ((rd_T40 l0_3 a1).f8))))) else (none)) else (none)) = some r := h
 clear h
 by_cases c3 : 0 ≤ a1
 ·
  rw [if_pos c3] at H
  have c3b0 : decide (0 ≤ a1) = true := decide_eq_true c3
  clear c3
  by_cases c4 : a1 < (l0_3.length : Int)
  ·
   rw [if_pos c4] at H
   have c4b0 : decide (a1 < (l0_3.length : Int)) = true := decide_eq_true c4
   clear c4
   by_cases c5 : ((rd_T40 l0_3 a1).f3) = (-1)
   ·
    rw [if_pos c5] at H
    have c5b0 : (((rd_T40 l0_3 a1).f3) == (-1)) = true := beq_iff_eq.mpr c5
    have c5b1 : (((rd_T40 l0_3 a1).f3) != (-1)) = false := bne_eq_false_iff_eq.mpr c5
    clear c5
    obtain rfl := Option.some.inj H
    go_enter Tryd.func41, Tryd.ntmps41
    go_wp2_with (first | ((with_reducible refine gate_dst (N := 2) rfl ?_); (try (refine gate_guard (by rfl) ?_; dsimp only)); refine box_event ?hg (N := 2) ?hd (cs := #[.int .i64 a0_0, .int .i64 a0_1, .slice A0_2 l0_2.length c0_2, .slice A0_3 l0_3.length c0_3]) (t := 25) ?hr ?_; (case hd => rfl); (case hg => rfl); (case hr => first | (go_simp; done) | (go_simp; rfl)); intro gb149 hg w6 hbox hb; have BK149 := Goto.m0 (hbox); have GW149 := Goto.gs HB hg; have GE149 := Goto.gs HB hg; replace HB := Goto.hs HB hb; clear hb hbox hg; have hcz7_0 := Goto.bc0 BK149; have hcz7_1 := Goto.bc1 BK149; have hcz7_2 := Goto.bc2 BK149; have hcz7_3 := Goto.bc3 BK149; have hfz7_0 := Goto.bf BK149 0; have hfz7_1 := Goto.bf BK149 1; have hfz7_2 := Goto.bf BK149 2; have hfz7_3 := Goto.bf BK149 3; have p150 : 0 ≤ (a1 : Int) := Goto.od; have q150 : a1 < (l0_3.length : Int) := Goto.od; obtain ⟨ad150, A150_2, c150_2, A150_3, c150_3, e150, hx150_0, hx150_1, hx150_2, hx150_3, hx150_4, hx150_5, hx150_6, hx150_7, hx150_8, hx150_9, hl150_2, hi150_2, hl150_3, hi150_3⟩ := at_T40 HR0_3.out a1 p150 q150; cases e150; replace hx150_0 := Goto.kc HB.out hx150_0; replace hx150_1 := Goto.kc HB.out hx150_1; replace hx150_2 := Goto.kc HB.out hx150_2; replace hx150_3 := Goto.kc HB.out hx150_3; replace hx150_4 := Goto.kc HB.out hx150_4; replace hx150_5 := Goto.kc HB.out hx150_5; replace hx150_6 := Goto.kc HB.out hx150_6; replace hx150_7 := Goto.kc HB.out hx150_7; replace hx150_8 := Goto.kc HB.out hx150_8; replace hx150_9 := Goto.kc HB.out hx150_9; have HR150_2 := Goto.m0 hi150_2; have HC150_2 := Goto.m0 hl150_2; clear hi150_2 hl150_2; have HR150_3 := Goto.m0 hi150_3; have HC150_3 := Goto.m0 hl150_3; clear hi150_3 hl150_3; replace p150 := eq_true p150; replace q150 := eq_true q150) | ((with_reducible refine gate_dst (N := 5) rfl ?_); (try (refine gate_guard (by rfl) ?_; dsimp only)); refine box_event ?hg (N := 5) ?hd (cs := #[.int .i64 0, .int .u64 0, .slice none 0 0, .slice none 0 0, .int .i64 0, .int .i64 0, .int .i64 0, .int .i64 0, .int .i64 0, .int .i64 0]) (t := 40) ?hr ?_; (case hd => rfl); (case hg => rfl); (case hr => first | (go_simp; done) | (go_simp; rfl)); intro gb151 hg w8 hbox hb; have BK151 := Goto.m0 (hbox); have GW151 := Goto.gs HB hg; have GE151 := Goto.gs HB hg; have NB149_151 := Goto.nl BK149 hg; have NB151_149 := Goto.nr BK149 hg; replace BK149 := Goto.bb BK149 hb; replace HB := Goto.hs HB hb; clear hb hbox hg; have hnb9 := NB151_149.out; have hnc9 := NB149_151.out; have hcz10_0 := Goto.bc0 BK151; have hcz10_1 := Goto.bc1 BK151; have hcz10_2 := Goto.bc2 BK151; have hcz10_3 := Goto.bc3 BK151; have hcz10_4 := Goto.bc4 BK151; have hcz10_5 := Goto.bc5 BK151; have hcz10_6 := Goto.bc6 BK151; have hcz10_7 := Goto.bc7 BK151; have hcz10_8 := Goto.bc8 BK151; have hcz10_9 := Goto.bc9 BK151; have hfz10_0 := Goto.bf BK151 0; have hfz10_1 := Goto.bf BK151 1; have hfz10_2 := Goto.bf BK151 2; have hfz10_3 := Goto.bf BK151 3; have hfz10_4 := Goto.bf BK151 4; have hfz10_5 := Goto.bf BK151 5; have hfz10_6 := Goto.bf BK151 6; have hfz10_7 := Goto.bf BK151 7; have hfz10_8 := Goto.bf BK151 8; have hfz10_9 := Goto.bf BK151 9))
    go_ret
    exact ⟨Goto.er, by repeat (first | (with_reducible first | exact HB.out | apply below_alloc | apply pw_below_drewN | apply below_drew1 | refine below_set ?_ GE149.out | refine below_set ?_ GE151.out) | exact HB.out)⟩
   ·
    rw [if_neg c5] at H
    have c5b0 : (((rd_T40 l0_3 a1).f3) == (-1)) = false := beq_eq_false_iff_ne.mpr c5
    have c5b1 : (((rd_T40 l0_3 a1).f3) != (-1)) = true := bne_iff_ne.mpr c5
    have HC11 := Goto.m0 H
    clear H
    go_enter Tryd.func41, Tryd.ntmps41
    go_upto_region 4 with (first | ((with_reducible refine gate_dst (N := 2) rfl ?_); (try (refine gate_guard (by rfl) ?_; dsimp only)); refine box_event ?hg (N := 2) ?hd (cs := #[.int .i64 a0_0, .int .i64 a0_1, .slice A0_2 l0_2.length c0_2, .slice A0_3 l0_3.length c0_3]) (t := 25) ?hr ?_; (case hd => rfl); (case hg => rfl); (case hr => first | (go_simp; done) | (go_simp; rfl)); intro gb149 hg w12 hbox hb; have BK149 := Goto.m0 (hbox); have GW149 := Goto.gs HB hg; have GE149 := Goto.gs HB hg; replace HB := Goto.hs HB hb; clear hb hbox hg; have hcz13_0 := Goto.bc0 BK149; have hcz13_1 := Goto.bc1 BK149; have hcz13_2 := Goto.bc2 BK149; have hcz13_3 := Goto.bc3 BK149; have hfz13_0 := Goto.bf BK149 0; have hfz13_1 := Goto.bf BK149 1; have hfz13_2 := Goto.bf BK149 2; have hfz13_3 := Goto.bf BK149 3; have p150 : 0 ≤ (a1 : Int) := Goto.od; have q150 : a1 < (l0_3.length : Int) := Goto.od; obtain ⟨ad150, A150_2, c150_2, A150_3, c150_3, e150, hx150_0, hx150_1, hx150_2, hx150_3, hx150_4, hx150_5, hx150_6, hx150_7, hx150_8, hx150_9, hl150_2, hi150_2, hl150_3, hi150_3⟩ := at_T40 HR0_3.out a1 p150 q150; cases e150; replace hx150_0 := Goto.kc HB.out hx150_0; replace hx150_1 := Goto.kc HB.out hx150_1; replace hx150_2 := Goto.kc HB.out hx150_2; replace hx150_3 := Goto.kc HB.out hx150_3; replace hx150_4 := Goto.kc HB.out hx150_4; replace hx150_5 := Goto.kc HB.out hx150_5; replace hx150_6 := Goto.kc HB.out hx150_6; replace hx150_7 := Goto.kc HB.out hx150_7; replace hx150_8 := Goto.kc HB.out hx150_8; replace hx150_9 := Goto.kc HB.out hx150_9; have HR150_2 := Goto.m0 hi150_2; have HC150_2 := Goto.m0 hl150_2; clear hi150_2 hl150_2; have HR150_3 := Goto.m0 hi150_3; have HC150_3 := Goto.m0 hl150_3; clear hi150_3 hl150_3; replace p150 := eq_true p150; replace q150 := eq_true q150) | ((with_reducible refine gate_dst (N := 5) rfl ?_); (try (refine gate_guard (by rfl) ?_; dsimp only)); refine box_event ?hg (N := 5) ?hd (cs := #[.int .i64 0, .int .u64 0, .slice none 0 0, .slice none 0 0, .int .i64 0, .int .i64 0, .int .i64 0, .int .i64 0, .int .i64 0, .int .i64 0]) (t := 40) ?hr ?_; (case hd => rfl); (case hg => rfl); (case hr => first | (go_simp; done) | (go_simp; rfl)); intro gb151 hg w14 hbox hb; have BK151 := Goto.m0 (hbox); have GW151 := Goto.gs HB hg; have GE151 := Goto.gs HB hg; have NB149_151 := Goto.nl BK149 hg; have NB151_149 := Goto.nr BK149 hg; replace BK149 := Goto.bb BK149 hb; replace HB := Goto.hs HB hb; clear hb hbox hg; have hnb15 := NB151_149.out; have hnc15 := NB149_151.out; have hcz16_0 := Goto.bc0 BK151; have hcz16_1 := Goto.bc1 BK151; have hcz16_2 := Goto.bc2 BK151; have hcz16_3 := Goto.bc3 BK151; have hcz16_4 := Goto.bc4 BK151; have hcz16_5 := Goto.bc5 BK151; have hcz16_6 := Goto.bc6 BK151; have hcz16_7 := Goto.bc7 BK151; have hcz16_8 := Goto.bc8 BK151; have hcz16_9 := Goto.bc9 BK151; have hfz16_0 := Goto.bf BK151 0; have hfz16_1 := Goto.bf BK151 1; have hfz16_2 := Goto.bf BK151 2; have hfz16_3 := Goto.bf BK151 3; have hfz16_4 := Goto.bf BK151 4; have hfz16_5 := Goto.bf BK151 5; have hfz16_6 := Goto.bf BK151 6; have hfz16_7 := Goto.bf BK151 7; have hfz16_8 := Goto.bf BK151 8; have hfz16_9 := Goto.bf BK151 9))
    (try simp only [Act.put, List.setIfInBounds_toArray, List.set_cons_zero, List.set_cons_succ])
    go_cut [39] (fun v39 wc => ∃ (kq : Nat) (x39_10 : Bool), v39 = .bool x39_10 ∧ Aside0 (conf_falls.j0 kq x39_10 a0_0 a0_1 l0_2 l0_3 ((rd_T40 l0_3 a1).f0.f0) ((rd_T40 l0_3 a1).f0.f1) ((rd_T40 l0_3 a1).f1) ((rd_T40 l0_3 a1).f2) ((rd_T40 l0_3 a1).f3) ((rd_T40 l0_3 a1).f4) ((rd_T40 l0_3 a1).f5) ((rd_T40 l0_3 a1).f6) ((rd_T40 l0_3 a1).f7) ((rd_T40 l0_3 a1).f8) = some r) ∧ Aside0 (kq ≤ k) ∧ Aside0 (wc.heap[gb149]? = some (.cells #[.int .i64 a0_0, .int .i64 a0_1, (.slice A0_2 l0_2.length c0_2), (.slice (some ad150) l0_3.length c0_3)] 25 (0, 0))) ∧ Aside0 (wc.heap[gb151]? = some (.cells #[.int .i64 ((rd_T40 l0_3 a1).f0.f0), .int .u64 ((rd_T40 l0_3 a1).f0.f1), (.slice A150_2 ((rd_T40 l0_3 a1).f1).length c150_2), (.slice A150_3 ((rd_T40 l0_3 a1).f2).length c150_3), .int .i64 ((rd_T40 l0_3 a1).f3), .int .i64 ((rd_T40 l0_3 a1).f4), .int .i64 ((rd_T40 l0_3 a1).f5), .int .i64 ((rd_T40 l0_3 a1).f6), .int .i64 ((rd_T40 l0_3 a1).f7), .int .i64 ((rd_T40 l0_3 a1).f8)] 40 (0, 0))) ∧ Aside0 (Below w.heap.size w wc))
    case first =>
     have H := HC11.out; clear HC11
     replace H := Option.bind_eq_some_iff.mp H
     obtain ⟨t152, A170, H⟩ := H
     have A17 := Goto.m0 A170
     clear A170
     by_cases c18 : t152 = true
     ·
      subst c18
      rw [if_pos rfl] at H
      by_cases c19 : ((rd_T40 l0_3 a1).f3) = a1
      ·
       rw [if_pos c19] at H
       have c19b0 : (((rd_T40 l0_3 a1).f3) == a1) = true := beq_iff_eq.mpr c19
       have c19b1 : (((rd_T40 l0_3 a1).f3) != a1) = false := bne_eq_false_iff_eq.mpr c19
       clear c19
       (first | rw [c19b0] | (simp only [i64_w, i32_w]; rw [c19b0]) | skip)
       have H' := Goto.m0 H
       clear H; have hnb20 := NB151_149.out; have hnc20 := NB149_151.out; have hcz21_0 := Goto.bc0 BK151; have hcz21_1 := Goto.bc1 BK151; have hcz21_2 := Goto.bc2 BK151; have hcz21_3 := Goto.bc3 BK151; have hcz21_4 := Goto.bc4 BK151; have hcz21_5 := Goto.bc5 BK151; have hcz21_6 := Goto.bc6 BK151; have hcz21_7 := Goto.bc7 BK151; have hcz21_8 := Goto.bc8 BK151; have hcz21_9 := Goto.bc9 BK151; have hfz21_0 := Goto.bf BK151 0; have hfz21_1 := Goto.bf BK151 1; have hfz21_2 := Goto.bf BK151 2; have hfz21_3 := Goto.bf BK151 3; have hfz21_4 := Goto.bf BK151 4; have hfz21_5 := Goto.bf BK151 5; have hfz21_6 := Goto.bf BK151 6; have hfz21_7 := Goto.bf BK151 7; have hfz21_8 := Goto.bf BK151 8; have hfz21_9 := Goto.bf BK151 9; have hcz22_0 := Goto.bc0 BK149; have hcz22_1 := Goto.bc1 BK149; have hcz22_2 := Goto.bc2 BK149
       have hcz22_3 := Goto.bc3 BK149
       have hfz22_0 := Goto.bf BK149 0; have hfz22_1 := Goto.bf BK149 1; have hfz22_2 := Goto.bf BK149 2; have hfz22_3 := Goto.bf BK149 3
       go_wp2_with (first | ((first | (with_reducible refine gate_callee (f := 36) rfl ?_) | (with_reducible refine Goto.gate_calleeF rfl ?_)); (first | refine goesL_ (some 25) rfl rfl Tryd.func36 (by kernel_rfl) rfl #[.int .i64 ((rd_T40 l0_3 a1).f3), .int .i64 0, .int .i64 (wrap64 ((l0_3.length : Int) - 1))] rfl (by (try simp only [List.map_toArray, List.map_cons, List.map_nil]); first | done | rfl | (simp only [List.length_drop, List.length_take]; rfl)) ?_ | refine Goto.goesF_ (some 25) rfl rfl Tryd.func36 (by kernel_rfl) rfl #[.int .i64 ((rd_T40 l0_3 a1).f3), .int .i64 0, .int .i64 (wrap64 ((l0_3.length : Int) - 1))] rfl (by (try simp only [List.map_toArray, List.map_cons, List.map_nil]); first | done | rfl | (simp only [List.length_drop, List.length_take]; rfl)) ?_); (with_reducible refine (conf_within.calls ((rd_T40 l0_3 a1).f3) 0 (wrap64 ((l0_3.length : Int) - 1)) true _ A17.out).mono ?_); rintro e w' ⟨rfl, ⟨nd, rfl⟩⟩; refine ⟨_, rfl, ?_⟩))
       go_meet
       case rel => exact ⟨_, (true), (by first | rfl | (simp; done) | (simp [*]; done)), H', ⟨by first | omega | exact Nat.le_refl _⟩, ⟨Goto.bx BK149⟩, ⟨Goto.bx BK151⟩, ⟨Goto.hx HB⟩⟩
      ·
       rw [if_neg c19] at H
       have c19b0 : (((rd_T40 l0_3 a1).f3) == a1) = false := beq_eq_false_iff_ne.mpr c19
       have c19b1 : (((rd_T40 l0_3 a1).f3) != a1) = true := bne_iff_ne.mpr c19
       (first | rw [c19b0] | (simp only [i64_w, i32_w]; rw [c19b0]) | skip)
       replace H := Option.bind_eq_some_iff.mp H
       obtain ⟨t153, A230, H⟩ := H
       have A23 := Goto.m0 A230
       clear A230
       have H' := Goto.m0 H
       clear H; have hnb24 := NB151_149.out; have hnc24 := NB149_151.out; have hcz25_0 := Goto.bc0 BK151; have hcz25_1 := Goto.bc1 BK151; have hcz25_2 := Goto.bc2 BK151; have hcz25_3 := Goto.bc3 BK151; have hcz25_4 := Goto.bc4 BK151; have hcz25_5 := Goto.bc5 BK151; have hcz25_6 := Goto.bc6 BK151; have hcz25_7 := Goto.bc7 BK151; have hcz25_8 := Goto.bc8 BK151; have hcz25_9 := Goto.bc9 BK151; have hfz25_0 := Goto.bf BK151 0; have hfz25_1 := Goto.bf BK151 1; have hfz25_2 := Goto.bf BK151 2; have hfz25_3 := Goto.bf BK151 3; have hfz25_4 := Goto.bf BK151 4; have hfz25_5 := Goto.bf BK151 5; have hfz25_6 := Goto.bf BK151 6; have hfz25_7 := Goto.bf BK151 7; have hfz25_8 := Goto.bf BK151 8; have hfz25_9 := Goto.bf BK151 9; have hcz26_0 := Goto.bc0 BK149; have hcz26_1 := Goto.bc1 BK149; have hcz26_2 := Goto.bc2 BK149
       have hcz26_3 := Goto.bc3 BK149
       have hfz26_0 := Goto.bf BK149 0; have hfz26_1 := Goto.bf BK149 1; have hfz26_2 := Goto.bf BK149 2; have hfz26_3 := Goto.bf BK149 3
       go_wp2_with (first | ((first | (with_reducible refine gate_callee (f := 36) rfl ?_) | (with_reducible refine Goto.gate_calleeF rfl ?_)); (first | refine goesL_ (some 25) rfl rfl Tryd.func36 (by kernel_rfl) rfl #[.int .i64 ((rd_T40 l0_3 a1).f3), .int .i64 0, .int .i64 (wrap64 ((l0_3.length : Int) - 1))] rfl (by (try simp only [List.map_toArray, List.map_cons, List.map_nil]); first | done | rfl | (simp only [List.length_drop, List.length_take]; rfl)) ?_ | refine Goto.goesF_ (some 25) rfl rfl Tryd.func36 (by kernel_rfl) rfl #[.int .i64 ((rd_T40 l0_3 a1).f3), .int .i64 0, .int .i64 (wrap64 ((l0_3.length : Int) - 1))] rfl (by (try simp only [List.map_toArray, List.map_cons, List.map_nil]); first | done | rfl | (simp only [List.length_drop, List.length_take]; rfl)) ?_); (with_reducible refine (conf_within.calls ((rd_T40 l0_3 a1).f3) 0 (wrap64 ((l0_3.length : Int) - 1)) true _ A17.out).mono ?_); rintro e w' ⟨rfl, ⟨nd, rfl⟩⟩; refine ⟨_, rfl, ?_⟩) | (go_at_call 36; (with_reducible refine (conf_within.calls (((rd_T40 l0_3 a1).f2).length : Int) 1 4 t153 _ A23.out).mono ?_); rintro e w' ⟨rfl, ⟨nd, rfl⟩⟩))
       go_meet
       case rel => exact ⟨_, (!t153), (by first | rfl | (simp; done) | (simp [*]; done)), H', ⟨by first | omega | exact Nat.le_refl _⟩, ⟨Goto.bx BK149⟩, ⟨Goto.bx BK151⟩, ⟨Goto.hx HB⟩⟩
     ·
      replace c18 := Bool.eq_false_iff.mpr c18
      subst c18
      rw [if_neg (show ¬ (false = true) by decide)] at H
      have H' := Goto.m0 H
      clear H; have hnb27 := NB151_149.out; have hnc27 := NB149_151.out; have hcz28_0 := Goto.bc0 BK151; have hcz28_1 := Goto.bc1 BK151; have hcz28_2 := Goto.bc2 BK151; have hcz28_3 := Goto.bc3 BK151; have hcz28_4 := Goto.bc4 BK151; have hcz28_5 := Goto.bc5 BK151; have hcz28_6 := Goto.bc6 BK151; have hcz28_7 := Goto.bc7 BK151; have hcz28_8 := Goto.bc8 BK151; have hcz28_9 := Goto.bc9 BK151; have hfz28_0 := Goto.bf BK151 0; have hfz28_1 := Goto.bf BK151 1; have hfz28_2 := Goto.bf BK151 2; have hfz28_3 := Goto.bf BK151 3; have hfz28_4 := Goto.bf BK151 4; have hfz28_5 := Goto.bf BK151 5; have hfz28_6 := Goto.bf BK151 6; have hfz28_7 := Goto.bf BK151 7; have hfz28_8 := Goto.bf BK151 8; have hfz28_9 := Goto.bf BK151 9; have hcz29_0 := Goto.bc0 BK149; have hcz29_1 := Goto.bc1 BK149; have hcz29_2 := Goto.bc2 BK149
      have hcz29_3 := Goto.bc3 BK149
      have hfz29_0 := Goto.bf BK149 0; have hfz29_1 := Goto.bf BK149 1; have hfz29_2 := Goto.bf BK149 2; have hfz29_3 := Goto.bf BK149 3
      go_wp2_with (first | ((first | (with_reducible refine gate_callee (f := 36) rfl ?_) | (with_reducible refine Goto.gate_calleeF rfl ?_)); (first | refine goesL_ (some 25) rfl rfl Tryd.func36 (by kernel_rfl) rfl #[.int .i64 ((rd_T40 l0_3 a1).f3), .int .i64 0, .int .i64 (wrap64 ((l0_3.length : Int) - 1))] rfl (by (try simp only [List.map_toArray, List.map_cons, List.map_nil]); first | done | rfl | (simp only [List.length_drop, List.length_take]; rfl)) ?_ | refine Goto.goesF_ (some 25) rfl rfl Tryd.func36 (by kernel_rfl) rfl #[.int .i64 ((rd_T40 l0_3 a1).f3), .int .i64 0, .int .i64 (wrap64 ((l0_3.length : Int) - 1))] rfl (by (try simp only [List.map_toArray, List.map_cons, List.map_nil]); first | done | rfl | (simp only [List.length_drop, List.length_take]; rfl)) ?_); (with_reducible refine (conf_within.calls ((rd_T40 l0_3 a1).f3) 0 (wrap64 ((l0_3.length : Int) - 1)) false _ A17.out).mono ?_); rintro e w' ⟨rfl, ⟨nd, rfl⟩⟩; refine ⟨_, rfl, ?_⟩))
      go_meet
      case rel => exact ⟨_, (true), (by first | rfl | (simp; done) | (simp [*]; done)), H', ⟨by first | omega | exact Nat.le_refl _⟩, ⟨Goto.bx BK149⟩, ⟨Goto.bx BK151⟩, ⟨Goto.hx HB⟩⟩
    case rest =>
     clear HC11; try clear c1; try clear p1; try clear q1; try clear hx1; try clear c2; try clear p2; try clear c3; try clear c3b0; try clear c4; try clear c4b0; try clear c5; try clear c5b0; try clear c5b1; try clear p6; try clear c9; try clear c15; try clear p15; try clear q15; try clear hx15; try clear c18; try clear c19; try clear c19b0; try clear c19b1; try clear c20; try clear c24; try clear c27; try clear hcz10_0; try clear hcz10_1; try clear hcz10_2; try clear hcz10_3; try clear hcz10_4; try clear hcz10_5; try clear hcz10_6; try clear hcz10_7; try clear hcz10_8; try clear hcz10_9; try clear hcz13_0; try clear hcz13_1; try clear hcz13_2; try clear hcz13_3; try clear hcz16_0; try clear hcz16_1; try clear hcz16_2; try clear hcz16_3; try clear hcz16_4; try clear hcz16_5; try clear hcz16_6; try clear hcz16_7; try clear hcz16_8; try clear hcz16_9; try clear hcz21_0; try clear hcz21_1; try clear hcz21_2; try clear hcz21_3; try clear hcz21_4; try clear hcz21_5; try clear hcz21_6; try clear hcz21_7; try clear hcz21_8; try clear hcz21_9; try clear hcz22_0; try clear hcz22_1; try clear hcz22_2; try clear hcz22_3; try clear hcz25_0; try clear hcz25_1; try clear hcz25_2; try clear hcz25_3; try clear hcz25_4; try clear hcz25_5; try clear hcz25_6; try clear hcz25_7; try clear hcz25_8; try clear hcz25_9; try clear hcz26_0; try clear hcz26_1; try clear hcz26_2; try clear hcz26_3; try clear hcz28_0; try clear hcz28_1; try clear hcz28_2; try clear hcz28_3; try clear hcz28_4; try clear hcz28_5; try clear hcz28_6; try clear hcz28_7; try clear hcz28_8; try clear hcz28_9; try clear hcz29_0; try clear hcz29_1; try clear hcz29_2; try clear hcz29_3; try clear hcz7_0; try clear hcz7_1; try clear hcz7_2; try clear hcz7_3; try clear hfz10_0; try clear hfz10_1; try clear hfz10_2; try clear hfz10_3; try clear hfz10_4; try clear hfz10_5; try clear hfz10_6; try clear hfz10_7; try clear hfz10_8; try clear hfz10_9; try clear hfz13_0; try clear hfz13_1; try clear hfz13_2; try clear hfz13_3; try clear hfz16_0; try clear hfz16_1; try clear hfz16_2; try clear hfz16_3; try clear hfz16_4; try clear hfz16_5; try clear hfz16_6; try clear hfz16_7; try clear hfz16_8; try clear hfz16_9; try clear hfz21_0; try clear hfz21_1; try clear hfz21_2; try clear hfz21_3; try clear hfz21_4; try clear hfz21_5; try clear hfz21_6; try clear hfz21_7; try clear hfz21_8; try clear hfz21_9; try clear hfz22_0; try clear hfz22_1; try clear hfz22_2; try clear hfz22_3; try clear hfz25_0; try clear hfz25_1; try clear hfz25_2; try clear hfz25_3; try clear hfz25_4; try clear hfz25_5; try clear hfz25_6; try clear hfz25_7; try clear hfz25_8; try clear hfz25_9; try clear hfz26_0; try clear hfz26_1; try clear hfz26_2; try clear hfz26_3; try clear hfz28_0; try clear hfz28_1; try clear hfz28_2; try clear hfz28_3; try clear hfz28_4; try clear hfz28_5; try clear hfz28_6; try clear hfz28_7; try clear hfz28_8; try clear hfz28_9; try clear hfz29_0; try clear hfz29_1; try clear hfz29_2; try clear hfz29_3; try clear hfz7_0; try clear hfz7_1; try clear hfz7_2; try clear hfz7_3; try clear hx150_0; try clear hx150_1; try clear hx150_2; try clear hx150_3; try clear hx150_4; try clear hx150_5; try clear hx150_6; try clear hx150_7; try clear hx150_8; try clear hx150_9; try clear p150; try clear q150
     obtain ⟨kq, x39_10, rfl, HA, HJ10, BK149, BK151, HB⟩ := hcut
     cases kq with
     | zero => exact absurd HA.out (by simp [conf_falls.j0])
     | succ kj10 =>
      have H := HA.out; clear HA
      simp only [conf_falls.j0] at H
      by_cases c30 : x39_10 = true
      ·
       subst c30
       rw [if_pos rfl] at H
       obtain rfl := Option.some.inj H
       go_wp2
       go_ret
       exact ⟨Goto.er, by repeat (first | (with_reducible first | exact HB.out | apply below_alloc | apply pw_below_drewN | apply below_drew1 | refine below_set ?_ GE149.out | refine below_set ?_ GE151.out) | exact HB.out)⟩
      ·
       replace c30 := Bool.eq_false_iff.mpr c30
       subst c30
       rw [if_neg (show ¬ (false = true) by decide)] at H
       by_cases c31 : 0 ≤ ((rd_T40 l0_3 a1).f3)
       ·
        rw [if_pos c31] at H
        have c31b0 : decide (0 ≤ ((rd_T40 l0_3 a1).f3)) = true := decide_eq_true c31
        clear c31
        by_cases c32 : ((rd_T40 l0_3 a1).f3) < (l0_3.length : Int)
        ·
         rw [if_pos c32] at H
         have c32b0 : decide (((rd_T40 l0_3 a1).f3) < (l0_3.length : Int)) = true := decide_eq_true c32
         clear c32
         replace H := Option.bind_eq_some_iff.mp H
         obtain ⟨t156, A330, H⟩ := H
         have A33 := Goto.m0 A330
         clear A330
         by_cases c34 : t156 ≥ 0
         ·
          rw [if_pos c34] at H
          have c34b0 : decide (0 ≤ t156) = true := decide_eq_true c34
          clear c34
          replace H := Option.bind_eq_some_iff.mp H
          obtain ⟨t157, A350, H⟩ := H
          have A35 := Goto.m0 A350
          clear A350
          by_cases c36 : t157 ≤ a0_0
          ·
           rw [if_pos c36] at H
           have c36b0 : decide (t157 ≤ a0_0) = true := decide_eq_true c36
           clear c36
           by_cases c37 : (!(((rd_T40 l0_3 ((rd_T40 l0_3 a1).f3)).f0.f0) == ((rd_T40 l0_3 a1).f0.f0)) || (!(((rd_T40 l0_3 ((rd_T40 l0_3 a1).f3)).f0.f1) == ((rd_T40 l0_3 a1).f0.f1)))) = true
           ·
            rw [if_pos c37] at H
            have c37b0 : (!(((rd_T40 l0_3 ((rd_T40 l0_3 a1).f3)).f0.f0) == ((rd_T40 l0_3 a1).f0.f0)) || (!(((rd_T40 l0_3 ((rd_T40 l0_3 a1).f3)).f0.f1) == ((rd_T40 l0_3 a1).f0.f1)))) = true := c37
            clear c37
            replace H := Option.bind_eq_some_iff.mp H
            obtain ⟨t158, A380, H⟩ := H
            have A38 := Goto.m0 A380
            clear A380
            obtain rfl := Option.some.inj H
            have hnb39 := NB149_151.out; have hnc39 := NB151_149.out; have hcz40_0 := Goto.bc0 BK149; have hcz40_1 := Goto.bc1 BK149; have hcz40_2 := Goto.bc2 BK149
            have hcz40_3 := Goto.bc3 BK149
            have hfz40_0 := Goto.bf BK149 0; have hfz40_1 := Goto.bf BK149 1; have hfz40_2 := Goto.bf BK149 2; have hfz40_3 := Goto.bf BK149 3
            have hcz41_0 := Goto.bc0 BK151
            have hcz41_1 := Goto.bc1 BK151
            have hcz41_2 := Goto.bc2 BK151
            have hcz41_3 := Goto.bc3 BK151
            have hcz41_4 := Goto.bc4 BK151
            have hcz41_5 := Goto.bc5 BK151
            have hcz41_6 := Goto.bc6 BK151
            have hcz41_7 := Goto.bc7 BK151
            have hcz41_8 := Goto.bc8 BK151
            have hcz41_9 := Goto.bc9 BK151
            have hfz41_0 := Goto.bf BK151 0; have hfz41_1 := Goto.bf BK151 1; have hfz41_2 := Goto.bf BK151 2; have hfz41_3 := Goto.bf BK151 3; have hfz41_4 := Goto.bf BK151 4; have hfz41_5 := Goto.bf BK151 5; have hfz41_6 := Goto.bf BK151 6; have hfz41_7 := Goto.bf BK151 7; have hfz41_8 := Goto.bf BK151 8; have hfz41_9 := Goto.bf BK151 9
            have p154 : 0 ≤ (((rd_T40 l0_3 a1).f3) : Int) := Goto.od
            have q154 : ((rd_T40 l0_3 a1).f3) < (l0_3.length : Int) := Goto.od
            obtain ⟨ad154, A154_2, c154_2, A154_3, c154_3, e154, hx154_0, hx154_1, hx154_2, hx154_3, hx154_4, hx154_5, hx154_6, hx154_7, hx154_8, hx154_9, hl154_2, hi154_2, hl154_3, hi154_3⟩ := at_T40 HR0_3.out ((rd_T40 l0_3 a1).f3) p154 q154
            obtain rfl : ad150 = ad154 := (by injection e154)
            replace hx154_0 := Goto.kc HB.out hx154_0
            replace hx154_1 := Goto.kc HB.out hx154_1
            replace hx154_2 := Goto.kc HB.out hx154_2
            replace hx154_3 := Goto.kc HB.out hx154_3
            replace hx154_4 := Goto.kc HB.out hx154_4
            replace hx154_5 := Goto.kc HB.out hx154_5
            replace hx154_6 := Goto.kc HB.out hx154_6
            replace hx154_7 := Goto.kc HB.out hx154_7
            replace hx154_8 := Goto.kc HB.out hx154_8
            replace hx154_9 := Goto.kc HB.out hx154_9
            have HR154_2 := Goto.m0 hi154_2
            have HC154_2 := Goto.m0 hl154_2
            clear hi154_2 hl154_2
            have HR154_3 := Goto.m0 hi154_3
            have HC154_3 := Goto.m0 hl154_3
            clear hi154_3 hl154_3; replace p154 := eq_true p154; replace q154 := eq_true q154
            try go_wp2_with (first | ((with_reducible refine gate_dst (N := 6) rfl ?_); (try (refine gate_guard (by rfl) ?_; dsimp only)); refine box_event ?hg (N := 6) ?hd (cs := #[.int .i64 0, .int .u64 0]) (t := 38) ?hr ?_; (case hd => rfl); (case hg => rfl); (case hr => first | (go_simp; done) | (go_simp; rfl)); intro gb155 hg w42 hbox hb; have BK155 := Goto.m0 (hbox); have GW155 := Goto.gs HB hg; have GE155 := Goto.gs HB hg; have NB149_155 := Goto.nl BK149 hg; have NB155_149 := Goto.nr BK149 hg; have NB151_155 := Goto.nl BK151 hg; have NB155_151 := Goto.nr BK151 hg; replace BK149 := Goto.bb BK149 hb; replace BK151 := Goto.bb BK151 hb; replace HB := Goto.hs HB hb; clear hb hbox hg; have hnb43 := NB155_149.out; have hnc43 := NB149_155.out; have hnb44 := NB155_151.out; have hnc44 := NB151_155.out; have hcz45_0 := Goto.bc0 BK155; have hcz45_1 := Goto.bc1 BK155; have hfz45_0 := Goto.bf BK155 0; have hfz45_1 := Goto.bf BK155 1))
            have n0_ : Aside0 (((w42.setCell ⟨gb155, 0, none⟩ (.int .i64 ((rd_T40 l0_3 ((rd_T40 l0_3 a1).f3)).f0.f0))).setCell ⟨gb155, 1, none⟩ (.int .u64 ((rd_T40 l0_3 ((rd_T40 l0_3 a1).f3)).f0.f1))).heap[gb149]? = some (.cells #[.int .i64 a0_0, .int .i64 a0_1, .slice A0_2 l0_2.length c0_2, .slice (some ad150) l0_3.length c0_3] 25 (0, 0))) := ⟨Goto.bx BK149⟩
            have n1_ : Aside0 (((w42.setCell ⟨gb155, 0, none⟩ (.int .i64 ((rd_T40 l0_3 ((rd_T40 l0_3 a1).f3)).f0.f0))).setCell ⟨gb155, 1, none⟩ (.int .u64 ((rd_T40 l0_3 ((rd_T40 l0_3 a1).f3)).f0.f1))).heap[gb151]? = some (.cells #[.int .i64 ((rd_T40 l0_3 a1).f0.f0), .int .u64 ((rd_T40 l0_3 a1).f0.f1), .slice A150_2 ((rd_T40 l0_3 a1).f1).length c150_2, .slice A150_3 ((rd_T40 l0_3 a1).f2).length c150_3, .int .i64 ((rd_T40 l0_3 a1).f3), .int .i64 ((rd_T40 l0_3 a1).f4), .int .i64 ((rd_T40 l0_3 a1).f5), .int .i64 ((rd_T40 l0_3 a1).f6), .int .i64 ((rd_T40 l0_3 a1).f7), .int .i64 ((rd_T40 l0_3 a1).f8)] 40 (0, 0))) := ⟨Goto.bx BK151⟩
            have n2_ : Aside0 (((w42.setCell ⟨gb155, 0, none⟩ (.int .i64 ((rd_T40 l0_3 ((rd_T40 l0_3 a1).f3)).f0.f0))).setCell ⟨gb155, 1, none⟩ (.int .u64 ((rd_T40 l0_3 ((rd_T40 l0_3 a1).f3)).f0.f1))).heap[gb155]? = some (.cells #[.int .i64 ((rd_T40 l0_3 ((rd_T40 l0_3 a1).f3)).f0.f0), .int .u64 ((rd_T40 l0_3 ((rd_T40 l0_3 a1).f3)).f0.f1)] 38 (0, 0))) := ⟨Goto.bx BK155⟩
            have n3_ : Aside0 (Below w.heap.size w ((w42.setCell ⟨gb155, 0, none⟩ (.int .i64 ((rd_T40 l0_3 ((rd_T40 l0_3 a1).f3)).f0.f0))).setCell ⟨gb155, 1, none⟩ (.int .u64 ((rd_T40 l0_3 ((rd_T40 l0_3 a1).f3)).f0.f1)))) := ⟨Goto.hx HB⟩
            (try clear BK149)
            (try clear BK151)
            (try clear BK155)
            (try clear HB)
            generalize ((w42.setCell ⟨gb155, 0, none⟩ (.int .i64 ((rd_T40 l0_3 ((rd_T40 l0_3 a1).f3)).f0.f0))).setCell ⟨gb155, 1, none⟩ (.int .u64 ((rd_T40 l0_3 ((rd_T40 l0_3 a1).f3)).f0.f1))) = w46 at n0_ n1_ n2_ n3_ ⊢
            have BK149 := n0_; have BK151 := n1_; have BK155 := n2_; have HB := n3_; clear n0_ n1_ n2_ n3_
            replace BK149 := Goto.m0 (blk_drew BK149.out); replace BK151 := Goto.m0 (blk_drew BK151.out); replace BK155 := Goto.m0 (blk_drew BK155.out); replace HB := Goto.m0 (below_drew1 HB.out)
            refine start_ (n := 25) (S := fun w' => w'.cell? ⟨gb151, 0, none⟩ = some (.int .i64 ((rd_T40 l0_3 a1).f0.f0)) ∧ w'.cell? ⟨gb151, 1, none⟩ = some (.int .u64 ((rd_T40 l0_3 a1).f0.f1)) ∧ w'.cell? ⟨gb151, 2, none⟩ = some (.slice A150_2 ((rd_T40 l0_3 a1).f1).length c150_2) ∧ w'.cell? ⟨gb151, 3, none⟩ = some (.slice A150_3 ((rd_T40 l0_3 a1).f2).length c150_3) ∧ w'.cell? ⟨gb151, 4, none⟩ = some (.int .i64 ((rd_T40 l0_3 a1).f3)) ∧ w'.cell? ⟨gb151, 5, none⟩ = some (.int .i64 ((rd_T40 l0_3 a1).f4)) ∧ w'.cell? ⟨gb151, 6, none⟩ = some (.int .i64 ((rd_T40 l0_3 a1).f5)) ∧ w'.cell? ⟨gb151, 7, none⟩ = some (.int .i64 ((rd_T40 l0_3 a1).f6)) ∧ w'.cell? ⟨gb151, 8, none⟩ = some (.int .i64 ((rd_T40 l0_3 a1).f7)) ∧ w'.cell? ⟨gb151, 9, none⟩ = some (.int .i64 ((rd_T40 l0_3 a1).f8)) ∧ w'.cell? ⟨gb149, 0, none⟩ = some (.int .i64 a0_0) ∧ w'.cell? ⟨gb149, 1, none⟩ = some (.int .i64 a0_1) ∧ w'.cell? ⟨gb149, 2, none⟩ = some (.slice A0_2 l0_2.length c0_2) ∧ w'.cell? ⟨gb149, 3, none⟩ = some (.slice (some ad150) l0_3.length c0_3) ∧ w'.cell? ⟨gb155, 0, none⟩ = some (.int .i64 ((rd_T40 l0_3 ((rd_T40 l0_3 a1).f3)).f0.f0)) ∧ w'.cell? ⟨gb155, 1, none⟩ = some (.int .u64 ((rd_T40 l0_3 ((rd_T40 l0_3 a1).f3)).f0.f1))) (ds := []) (.replicate 25 false) (by kernel_rfl) rfl rfl ⟨(blk_cell BK151.out 0).trans rfl, (blk_cell BK151.out 1).trans rfl, (blk_cell BK151.out 2).trans rfl, (blk_cell BK151.out 3).trans rfl, (blk_cell BK151.out 4).trans rfl, (blk_cell BK151.out 5).trans rfl, (blk_cell BK151.out 6).trans rfl, (blk_cell BK151.out 7).trans rfl, (blk_cell BK151.out 8).trans rfl, (blk_cell BK151.out 9).trans rfl, (blk_cell BK149.out 0).trans rfl, (blk_cell BK149.out 1).trans rfl, (blk_cell BK149.out 2).trans rfl, (blk_cell BK149.out 3).trans rfl, (blk_cell BK155.out 0).trans rfl, (blk_cell BK155.out 1).trans rfl⟩ (fun hHeld => ?_); refine with_tabW conf_falls.tab7 conf_falls.bits7 (fun HT_ HW_ => ?_)
            generalize w46.drew = w47 at BK149 BK151 BK155 HB hHeld ⊢
            refine Goto.pu 0 47 25 1 ?_
            refine take_ (i := 1) (N := some 48) (v := ?_) (a' := ?_) (Goto.bs 25 3) rfl rfl (take_ofW HT_.out HW_.out (by kernel_rfl)) (fun _ _ _ h => h) (Or.inl ⟨by rfl, ?_⟩) hHeld ?_ ?_
            rotate_left
            ·
             rintro w' ⟨s0, s1, s2, s3, s4, s5, s6, s7, s8, s9, s10, s11, s12, s13, s14, s15⟩
             go_simp
             with_reducible rfl
            rotate_left
            ·
             exact Goto.ap
            refine one_ (i := 2) (N := some 49) (Goto.bs 25 7) rfl rfl (one_of HT_.out (by kernel_rfl)) (by decide) (fun K hK => ?_)
            refine goes_ Tryd.func39 (by kernel_rfl) rfl #[.slice A150_3 ((rd_T40 l0_3 a1).f2).length c150_3] (by rfl) rfl rfl (by (try simp only [List.map_toArray, List.map_cons, List.map_nil]); first | done | rfl | (simp only [List.length_drop, List.length_take]; rfl)) ?_
            with_reducible refine (slices_Min_int_int.calls kj10 _ _ ((rd_T40 l0_3 a1).f2) t156 _ ?side1 ?side2 A33.out).mono ?_
            (case side1 => repeat (first | exact (Kd.C_below HR150_3.out HB.out) | (with_reducible refine Kd.C_alloc ?_ _) | (with_reducible refine Kd.C_drewN ?_ _) | (with_reducible refine Kd.C_drew ?_)))
            (case side2 => exact HC150_3.out)
            rintro e w' ⟨rfl, ⟨nd, rfl⟩⟩
            refine ⟨_, rfl, ?_⟩
            refine hK.out _ _ ⟨(blk_cell BK151.out 0).trans rfl, (blk_cell BK151.out 1).trans rfl, (blk_cell BK151.out 2).trans rfl, (blk_cell BK151.out 3).trans rfl, (blk_cell BK151.out 4).trans rfl, (blk_cell BK151.out 5).trans rfl, (blk_cell BK151.out 6).trans rfl, (blk_cell BK151.out 7).trans rfl, (blk_cell BK151.out 8).trans rfl, (blk_cell BK151.out 9).trans rfl, (blk_cell BK149.out 0).trans rfl, (blk_cell BK149.out 1).trans rfl, (blk_cell BK149.out 2).trans rfl, (blk_cell BK149.out 3).trans rfl, (blk_cell BK155.out 0).trans rfl, (blk_cell BK155.out 1).trans rfl⟩ (fun hHeld => ?_)
            clear hK K
            refine norm_ (a' := ?_) ?_ ?_
            rotate_left
            ·
             show Act.put _ (some 49) _ = _
             exact Goto.ap
            refine Goto.pu 3 50 25 15 ?_
            refine Goto.pu 4 51 25 31 ?_
            refine Goto.pu 5 52 25 63 ?_
            refine Goto.pu 8 55 25 319 ?_
            refine take_ (i := 6) (N := some 53) (v := ?_) (a' := ?_) (Goto.bs 25 383) rfl rfl (take_ofW HT_.out HW_.out (by kernel_rfl)) (fun _ _ _ h => h) (Or.inl ⟨by rfl, ?_⟩) hHeld ?_ ?_
            rotate_left
            ·
             rintro w' ⟨s0, s1, s2, s3, s4, s5, s6, s7, s8, s9, s10, s11, s12, s13, s14, s15⟩
             go_simp
             with_reducible rfl
            rotate_left
            ·
             exact Goto.ap
            refine take_ (i := 9) (N := some 56) (v := ?_) (a' := ?_) (Goto.bs 25 895) rfl rfl (take_ofW HT_.out HW_.out (by kernel_rfl)) (fun _ _ _ h => h) (Or.inl ⟨by rfl, ?_⟩) hHeld ?_ ?_
            rotate_left
            ·
             rintro w' ⟨s0, s1, s2, s3, s4, s5, s6, s7, s8, s9, s10, s11, s12, s13, s14, s15⟩
             go_simp
             with_reducible rfl
            rotate_left
            ·
             exact Goto.ap
            refine one_ (i := 7) (N := some 54) (Goto.bs 25 1023) rfl rfl (one_of HT_.out (by kernel_rfl)) (by decide) (fun K hK => ?_)
            refine goes_ Tryd.func38 (by kernel_rfl) rfl #[.slice A150_3 ((rd_T40 l0_3 a1).f2).length c150_3] (by rfl) rfl rfl (by (try simp only [List.map_toArray, List.map_cons, List.map_nil]); first | done | rfl | (simp only [List.length_drop, List.length_take]; rfl)) ?_
            with_reducible refine (slices_Max_int_int.calls kj10 _ _ ((rd_T40 l0_3 a1).f2) t157 _ ?side1 ?side2 A35.out).mono ?_
            (case side1 => repeat (first | exact (Kd.C_below HR150_3.out (Goto.hx HB)) | (with_reducible refine Kd.C_alloc ?_ _) | (with_reducible refine Kd.C_drewN ?_ _) | (with_reducible refine Kd.C_drew ?_)))
            (case side2 => exact HC150_3.out)
            rintro e w' ⟨rfl, ⟨nd, rfl⟩⟩
            refine ⟨_, rfl, ?_⟩
            refine hK.out _ _ ⟨(blk_cell BK151.out 0).trans rfl, (blk_cell BK151.out 1).trans rfl, (blk_cell BK151.out 2).trans rfl, (blk_cell BK151.out 3).trans rfl, (blk_cell BK151.out 4).trans rfl, (blk_cell BK151.out 5).trans rfl, (blk_cell BK151.out 6).trans rfl, (blk_cell BK151.out 7).trans rfl, (blk_cell BK151.out 8).trans rfl, (blk_cell BK151.out 9).trans rfl, (blk_cell BK149.out 0).trans rfl, (blk_cell BK149.out 1).trans rfl, (blk_cell BK149.out 2).trans rfl, (blk_cell BK149.out 3).trans rfl, (blk_cell BK155.out 0).trans rfl, (blk_cell BK155.out 1).trans rfl⟩ (fun hHeld => ?_)
            clear hK K
            refine norm_ (a' := ?_) ?_ ?_
            rotate_left
            ·
             show Act.put _ (some 54) _ = _
             exact Goto.ap
            refine Goto.pu 10 57 25 2047 ?_
            refine Goto.pu 11 58 25 4095 ?_
            refine Goto.pu 12 59 25 8191 ?_
            refine Goto.pu 14 61 25 24575 ?_
            refine take_ (i := 13) (N := some 60) (v := ?_) (a' := ?_) (Goto.bs 25 32767) rfl rfl (take_ofW HT_.out HW_.out (by kernel_rfl)) (fun _ _ _ h => h) (Or.inl ⟨by rfl, ?_⟩) hHeld ?_ ?_
            rotate_left
            ·
             rintro w' ⟨s0, s1, s2, s3, s4, s5, s6, s7, s8, s9, s10, s11, s12, s13, s14, s15⟩
             go_simp
             with_reducible rfl
            rotate_left
            ·
             exact Goto.ap
            refine take_ (i := 15) (N := some 62) (v := ?_) (a' := ?_) (Goto.bs 25 65535) rfl rfl (take_ofW HT_.out HW_.out (by kernel_rfl)) (fun _ _ _ h => h) (Or.inl ⟨by rfl, ?_⟩) hHeld ?_ ?_
            rotate_left
            ·
             rintro w' ⟨s0, s1, s2, s3, s4, s5, s6, s7, s8, s9, s10, s11, s12, s13, s14, s15⟩
             go_simp
             with_reducible rfl
            rotate_left
            ·
             exact Goto.ap
            refine Goto.pu 16 63 25 131071 ?_
            refine Goto.pu 17 64 25 262143 ?_
            refine Goto.pu 18 65 25 524287 ?_
            refine Goto.pu 20 67 25 1572863 ?_
            refine take_ (i := 19) (N := some 66) (v := ?_) (a' := ?_) (Goto.bs 25 2097151) rfl rfl (take_ofW HT_.out HW_.out (by kernel_rfl)) (fun _ _ _ h => h) (Or.inl ⟨by rfl, ?_⟩) hHeld ?_ ?_
            rotate_left
            ·
             rintro w' ⟨s0, s1, s2, s3, s4, s5, s6, s7, s8, s9, s10, s11, s12, s13, s14, s15⟩
             go_simp
             with_reducible rfl
            rotate_left
            ·
             exact Goto.ap
            refine take_ (i := 21) (N := some 68) (v := ?_) (a' := ?_) (Goto.bs 25 4194303) rfl rfl (take_ofW HT_.out HW_.out (by kernel_rfl)) (fun _ _ _ h => h) (Or.inl ⟨by rfl, ?_⟩) hHeld ?_ ?_
            rotate_left
            ·
             rintro w' ⟨s0, s1, s2, s3, s4, s5, s6, s7, s8, s9, s10, s11, s12, s13, s14, s15⟩
             go_simp
             with_reducible rfl
            rotate_left
            ·
             exact Goto.ap
            refine one_ (i := 22) (N := some 69) (Goto.bs 25 8388607) rfl rfl (one_of HT_.out (by kernel_rfl)) (by decide) (fun K hK => ?_)
            refine goes_ Tryd.func47 (by kernel_rfl) rfl #[.agg #[.int .i64 ((rd_T40 l0_3 ((rd_T40 l0_3 a1).f3)).f0.f0), .int .u64 ((rd_T40 l0_3 ((rd_T40 l0_3 a1).f3)).f0.f1)], .agg #[.int .i64 ((rd_T40 l0_3 a1).f0.f0), .int .u64 ((rd_T40 l0_3 a1).f0.f1)]] (by rfl) rfl rfl (by (try simp only [List.map_toArray, List.map_cons, List.map_nil]); first | done | rfl | (simp only [List.length_drop, List.length_take]; rfl)) ?_
            with_reducible refine (label_Leq.calls ((rd_T40 l0_3 ((rd_T40 l0_3 a1).f3)).f0.f0) ((rd_T40 l0_3 ((rd_T40 l0_3 a1).f3)).f0.f1) ((rd_T40 l0_3 a1).f0.f0) ((rd_T40 l0_3 a1).f0.f1) t158 _ A38.out).mono ?_
            rintro e w48 ⟨rfl, hb⟩
            refine ⟨_, rfl, ?_⟩
            replace BK149 := Goto.bb BK149 hb; replace BK151 := Goto.bb BK151 hb; replace BK155 := Goto.bb BK155 hb; replace HB := Goto.hs HB hb
            (try clear hb)
            (try clear hb2)
            (try clear hk)
            (try clear hi)
            refine hK.out _ _ ⟨(blk_cell BK151.out 0).trans rfl, (blk_cell BK151.out 1).trans rfl, (blk_cell BK151.out 2).trans rfl, (blk_cell BK151.out 3).trans rfl, (blk_cell BK151.out 4).trans rfl, (blk_cell BK151.out 5).trans rfl, (blk_cell BK151.out 6).trans rfl, (blk_cell BK151.out 7).trans rfl, (blk_cell BK151.out 8).trans rfl, (blk_cell BK151.out 9).trans rfl, (blk_cell BK149.out 0).trans rfl, (blk_cell BK149.out 1).trans rfl, (blk_cell BK149.out 2).trans rfl, (blk_cell BK149.out 3).trans rfl, (blk_cell BK155.out 0).trans rfl, (blk_cell BK155.out 1).trans rfl⟩ (fun hHeld => ?_)
            clear hK K
            refine norm_ (a' := ?_) ?_ ?_
            rotate_left
            ·
             show Act.put _ (some 69) _ = _
             exact Goto.ap
            refine Goto.pu 23 70 25 16777215 ?_
            refine Goto.pu 24 4 25 33554431 ?_
            refine done_ (done_of HT_.out (by kernel_rfl)) ?_
            try go_wp2
            go_ret
            exact ⟨Goto.er, by repeat (first | (with_reducible first | exact HB.out | apply below_alloc | apply pw_below_drewN | apply below_drew1 | refine below_set ?_ GE149.out | refine below_set ?_ GE151.out | refine below_set ?_ GE155.out) | exact HB.out)⟩
           ·
            rw [if_neg c37] at H
            have c37b0 : (!(((rd_T40 l0_3 ((rd_T40 l0_3 a1).f3)).f0.f0) == ((rd_T40 l0_3 a1).f0.f0)) || (!(((rd_T40 l0_3 ((rd_T40 l0_3 a1).f3)).f0.f1) == ((rd_T40 l0_3 a1).f0.f1)))) = false := by simpa using c37
            clear c37
            obtain rfl := Option.some.inj H
            have hnb49 := NB149_151.out; have hnc49 := NB151_149.out; have hcz50_0 := Goto.bc0 BK149; have hcz50_1 := Goto.bc1 BK149; have hcz50_2 := Goto.bc2 BK149
            have hcz50_3 := Goto.bc3 BK149
            have hfz50_0 := Goto.bf BK149 0; have hfz50_1 := Goto.bf BK149 1; have hfz50_2 := Goto.bf BK149 2; have hfz50_3 := Goto.bf BK149 3
            have hcz51_0 := Goto.bc0 BK151
            have hcz51_1 := Goto.bc1 BK151
            have hcz51_2 := Goto.bc2 BK151
            have hcz51_3 := Goto.bc3 BK151
            have hcz51_4 := Goto.bc4 BK151
            have hcz51_5 := Goto.bc5 BK151
            have hcz51_6 := Goto.bc6 BK151
            have hcz51_7 := Goto.bc7 BK151
            have hcz51_8 := Goto.bc8 BK151
            have hcz51_9 := Goto.bc9 BK151
            have hfz51_0 := Goto.bf BK151 0; have hfz51_1 := Goto.bf BK151 1; have hfz51_2 := Goto.bf BK151 2; have hfz51_3 := Goto.bf BK151 3; have hfz51_4 := Goto.bf BK151 4; have hfz51_5 := Goto.bf BK151 5; have hfz51_6 := Goto.bf BK151 6; have hfz51_7 := Goto.bf BK151 7; have hfz51_8 := Goto.bf BK151 8; have hfz51_9 := Goto.bf BK151 9
            have p154 : 0 ≤ (((rd_T40 l0_3 a1).f3) : Int) := Goto.od
            have q154 : ((rd_T40 l0_3 a1).f3) < (l0_3.length : Int) := Goto.od
            obtain ⟨ad154, A154_2, c154_2, A154_3, c154_3, e154, hx154_0, hx154_1, hx154_2, hx154_3, hx154_4, hx154_5, hx154_6, hx154_7, hx154_8, hx154_9, hl154_2, hi154_2, hl154_3, hi154_3⟩ := at_T40 HR0_3.out ((rd_T40 l0_3 a1).f3) p154 q154
            obtain rfl : ad150 = ad154 := (by injection e154)
            replace hx154_0 := Goto.kc HB.out hx154_0
            replace hx154_1 := Goto.kc HB.out hx154_1
            replace hx154_2 := Goto.kc HB.out hx154_2
            replace hx154_3 := Goto.kc HB.out hx154_3
            replace hx154_4 := Goto.kc HB.out hx154_4
            replace hx154_5 := Goto.kc HB.out hx154_5
            replace hx154_6 := Goto.kc HB.out hx154_6
            replace hx154_7 := Goto.kc HB.out hx154_7
            replace hx154_8 := Goto.kc HB.out hx154_8
            replace hx154_9 := Goto.kc HB.out hx154_9
            have HR154_2 := Goto.m0 hi154_2
            have HC154_2 := Goto.m0 hl154_2
            clear hi154_2 hl154_2
            have HR154_3 := Goto.m0 hi154_3
            have HC154_3 := Goto.m0 hl154_3
            clear hi154_3 hl154_3; replace p154 := eq_true p154; replace q154 := eq_true q154
            try go_wp2_with (first | ((with_reducible refine gate_dst (N := 6) rfl ?_); (try (refine gate_guard (by rfl) ?_; dsimp only)); refine box_event ?hg (N := 6) ?hd (cs := #[.int .i64 0, .int .u64 0]) (t := 38) ?hr ?_; (case hd => rfl); (case hg => rfl); (case hr => first | (go_simp; done) | (go_simp; rfl)); intro gb155 hg w52 hbox hb; have BK155 := Goto.m0 (hbox); have GW155 := Goto.gs HB hg; have GE155 := Goto.gs HB hg; have NB149_155 := Goto.nl BK149 hg; have NB155_149 := Goto.nr BK149 hg; have NB151_155 := Goto.nl BK151 hg; have NB155_151 := Goto.nr BK151 hg; replace BK149 := Goto.bb BK149 hb; replace BK151 := Goto.bb BK151 hb; replace HB := Goto.hs HB hb; clear hb hbox hg; have hnb53 := NB155_149.out; have hnc53 := NB149_155.out; have hnb54 := NB155_151.out; have hnc54 := NB151_155.out; have hcz55_0 := Goto.bc0 BK155; have hcz55_1 := Goto.bc1 BK155; have hfz55_0 := Goto.bf BK155 0; have hfz55_1 := Goto.bf BK155 1))
            have n0_ : Aside0 (((w52.setCell ⟨gb155, 0, none⟩ (.int .i64 ((rd_T40 l0_3 ((rd_T40 l0_3 a1).f3)).f0.f0))).setCell ⟨gb155, 1, none⟩ (.int .u64 ((rd_T40 l0_3 ((rd_T40 l0_3 a1).f3)).f0.f1))).heap[gb149]? = some (.cells #[.int .i64 a0_0, .int .i64 a0_1, .slice A0_2 l0_2.length c0_2, .slice (some ad150) l0_3.length c0_3] 25 (0, 0))) := ⟨Goto.bx BK149⟩
            have n1_ : Aside0 (((w52.setCell ⟨gb155, 0, none⟩ (.int .i64 ((rd_T40 l0_3 ((rd_T40 l0_3 a1).f3)).f0.f0))).setCell ⟨gb155, 1, none⟩ (.int .u64 ((rd_T40 l0_3 ((rd_T40 l0_3 a1).f3)).f0.f1))).heap[gb151]? = some (.cells #[.int .i64 ((rd_T40 l0_3 a1).f0.f0), .int .u64 ((rd_T40 l0_3 a1).f0.f1), .slice A150_2 ((rd_T40 l0_3 a1).f1).length c150_2, .slice A150_3 ((rd_T40 l0_3 a1).f2).length c150_3, .int .i64 ((rd_T40 l0_3 a1).f3), .int .i64 ((rd_T40 l0_3 a1).f4), .int .i64 ((rd_T40 l0_3 a1).f5), .int .i64 ((rd_T40 l0_3 a1).f6), .int .i64 ((rd_T40 l0_3 a1).f7), .int .i64 ((rd_T40 l0_3 a1).f8)] 40 (0, 0))) := ⟨Goto.bx BK151⟩
            have n2_ : Aside0 (((w52.setCell ⟨gb155, 0, none⟩ (.int .i64 ((rd_T40 l0_3 ((rd_T40 l0_3 a1).f3)).f0.f0))).setCell ⟨gb155, 1, none⟩ (.int .u64 ((rd_T40 l0_3 ((rd_T40 l0_3 a1).f3)).f0.f1))).heap[gb155]? = some (.cells #[.int .i64 ((rd_T40 l0_3 ((rd_T40 l0_3 a1).f3)).f0.f0), .int .u64 ((rd_T40 l0_3 ((rd_T40 l0_3 a1).f3)).f0.f1)] 38 (0, 0))) := ⟨Goto.bx BK155⟩
            have n3_ : Aside0 (Below w.heap.size w ((w52.setCell ⟨gb155, 0, none⟩ (.int .i64 ((rd_T40 l0_3 ((rd_T40 l0_3 a1).f3)).f0.f0))).setCell ⟨gb155, 1, none⟩ (.int .u64 ((rd_T40 l0_3 ((rd_T40 l0_3 a1).f3)).f0.f1)))) := ⟨Goto.hx HB⟩
            (try clear BK149)
            (try clear BK151)
            (try clear BK155)
            (try clear HB)
            generalize ((w52.setCell ⟨gb155, 0, none⟩ (.int .i64 ((rd_T40 l0_3 ((rd_T40 l0_3 a1).f3)).f0.f0))).setCell ⟨gb155, 1, none⟩ (.int .u64 ((rd_T40 l0_3 ((rd_T40 l0_3 a1).f3)).f0.f1))) = w56 at n0_ n1_ n2_ n3_ ⊢
            have BK149 := n0_; have BK151 := n1_; have BK155 := n2_; have HB := n3_; clear n0_ n1_ n2_ n3_
            replace BK149 := Goto.m0 (blk_drew BK149.out); replace BK151 := Goto.m0 (blk_drew BK151.out); replace BK155 := Goto.m0 (blk_drew BK155.out); replace HB := Goto.m0 (below_drew1 HB.out)
            refine start_ (n := 25) (S := fun w' => w'.cell? ⟨gb151, 0, none⟩ = some (.int .i64 ((rd_T40 l0_3 a1).f0.f0)) ∧ w'.cell? ⟨gb151, 1, none⟩ = some (.int .u64 ((rd_T40 l0_3 a1).f0.f1)) ∧ w'.cell? ⟨gb151, 2, none⟩ = some (.slice A150_2 ((rd_T40 l0_3 a1).f1).length c150_2) ∧ w'.cell? ⟨gb151, 3, none⟩ = some (.slice A150_3 ((rd_T40 l0_3 a1).f2).length c150_3) ∧ w'.cell? ⟨gb151, 4, none⟩ = some (.int .i64 ((rd_T40 l0_3 a1).f3)) ∧ w'.cell? ⟨gb151, 5, none⟩ = some (.int .i64 ((rd_T40 l0_3 a1).f4)) ∧ w'.cell? ⟨gb151, 6, none⟩ = some (.int .i64 ((rd_T40 l0_3 a1).f5)) ∧ w'.cell? ⟨gb151, 7, none⟩ = some (.int .i64 ((rd_T40 l0_3 a1).f6)) ∧ w'.cell? ⟨gb151, 8, none⟩ = some (.int .i64 ((rd_T40 l0_3 a1).f7)) ∧ w'.cell? ⟨gb151, 9, none⟩ = some (.int .i64 ((rd_T40 l0_3 a1).f8)) ∧ w'.cell? ⟨gb149, 0, none⟩ = some (.int .i64 a0_0) ∧ w'.cell? ⟨gb149, 1, none⟩ = some (.int .i64 a0_1) ∧ w'.cell? ⟨gb149, 2, none⟩ = some (.slice A0_2 l0_2.length c0_2) ∧ w'.cell? ⟨gb149, 3, none⟩ = some (.slice (some ad150) l0_3.length c0_3) ∧ w'.cell? ⟨gb155, 0, none⟩ = some (.int .i64 ((rd_T40 l0_3 ((rd_T40 l0_3 a1).f3)).f0.f0)) ∧ w'.cell? ⟨gb155, 1, none⟩ = some (.int .u64 ((rd_T40 l0_3 ((rd_T40 l0_3 a1).f3)).f0.f1))) (ds := []) (.replicate 25 false) (by kernel_rfl) rfl rfl ⟨(blk_cell BK151.out 0).trans rfl, (blk_cell BK151.out 1).trans rfl, (blk_cell BK151.out 2).trans rfl, (blk_cell BK151.out 3).trans rfl, (blk_cell BK151.out 4).trans rfl, (blk_cell BK151.out 5).trans rfl, (blk_cell BK151.out 6).trans rfl, (blk_cell BK151.out 7).trans rfl, (blk_cell BK151.out 8).trans rfl, (blk_cell BK151.out 9).trans rfl, (blk_cell BK149.out 0).trans rfl, (blk_cell BK149.out 1).trans rfl, (blk_cell BK149.out 2).trans rfl, (blk_cell BK149.out 3).trans rfl, (blk_cell BK155.out 0).trans rfl, (blk_cell BK155.out 1).trans rfl⟩ (fun hHeld => ?_); refine with_tabW conf_falls.tab7 conf_falls.bits7 (fun HT_ HW_ => ?_)
            generalize w56.drew = w57 at BK149 BK151 BK155 HB hHeld ⊢
            refine Goto.pu 0 47 25 1 ?_
            refine take_ (i := 1) (N := some 48) (v := ?_) (a' := ?_) (Goto.bs 25 3) rfl rfl (take_ofW HT_.out HW_.out (by kernel_rfl)) (fun _ _ _ h => h) (Or.inl ⟨by rfl, ?_⟩) hHeld ?_ ?_
            rotate_left
            ·
             rintro w' ⟨s0, s1, s2, s3, s4, s5, s6, s7, s8, s9, s10, s11, s12, s13, s14, s15⟩
             go_simp
             with_reducible rfl
            rotate_left
            ·
             exact Goto.ap
            refine one_ (i := 2) (N := some 49) (Goto.bs 25 7) rfl rfl (one_of HT_.out (by kernel_rfl)) (by decide) (fun K hK => ?_)
            refine goes_ Tryd.func39 (by kernel_rfl) rfl #[.slice A150_3 ((rd_T40 l0_3 a1).f2).length c150_3] (by rfl) rfl rfl (by (try simp only [List.map_toArray, List.map_cons, List.map_nil]); first | done | rfl | (simp only [List.length_drop, List.length_take]; rfl)) ?_
            with_reducible refine (slices_Min_int_int.calls kj10 _ _ ((rd_T40 l0_3 a1).f2) t156 _ ?side1 ?side2 A33.out).mono ?_
            (case side1 => repeat (first | exact (Kd.C_below HR150_3.out HB.out) | (with_reducible refine Kd.C_alloc ?_ _) | (with_reducible refine Kd.C_drewN ?_ _) | (with_reducible refine Kd.C_drew ?_)))
            (case side2 => exact HC150_3.out)
            rintro e w' ⟨rfl, ⟨nd, rfl⟩⟩
            refine ⟨_, rfl, ?_⟩
            refine hK.out _ _ ⟨(blk_cell BK151.out 0).trans rfl, (blk_cell BK151.out 1).trans rfl, (blk_cell BK151.out 2).trans rfl, (blk_cell BK151.out 3).trans rfl, (blk_cell BK151.out 4).trans rfl, (blk_cell BK151.out 5).trans rfl, (blk_cell BK151.out 6).trans rfl, (blk_cell BK151.out 7).trans rfl, (blk_cell BK151.out 8).trans rfl, (blk_cell BK151.out 9).trans rfl, (blk_cell BK149.out 0).trans rfl, (blk_cell BK149.out 1).trans rfl, (blk_cell BK149.out 2).trans rfl, (blk_cell BK149.out 3).trans rfl, (blk_cell BK155.out 0).trans rfl, (blk_cell BK155.out 1).trans rfl⟩ (fun hHeld => ?_)
            clear hK K
            refine norm_ (a' := ?_) ?_ ?_
            rotate_left
            ·
             show Act.put _ (some 49) _ = _
             exact Goto.ap
            refine Goto.pu 3 50 25 15 ?_
            refine Goto.pu 4 51 25 31 ?_
            refine Goto.pu 5 52 25 63 ?_
            refine Goto.pu 8 55 25 319 ?_
            refine take_ (i := 6) (N := some 53) (v := ?_) (a' := ?_) (Goto.bs 25 383) rfl rfl (take_ofW HT_.out HW_.out (by kernel_rfl)) (fun _ _ _ h => h) (Or.inl ⟨by rfl, ?_⟩) hHeld ?_ ?_
            rotate_left
            ·
             rintro w' ⟨s0, s1, s2, s3, s4, s5, s6, s7, s8, s9, s10, s11, s12, s13, s14, s15⟩
             go_simp
             with_reducible rfl
            rotate_left
            ·
             exact Goto.ap
            refine take_ (i := 9) (N := some 56) (v := ?_) (a' := ?_) (Goto.bs 25 895) rfl rfl (take_ofW HT_.out HW_.out (by kernel_rfl)) (fun _ _ _ h => h) (Or.inl ⟨by rfl, ?_⟩) hHeld ?_ ?_
            rotate_left
            ·
             rintro w' ⟨s0, s1, s2, s3, s4, s5, s6, s7, s8, s9, s10, s11, s12, s13, s14, s15⟩
             go_simp
             with_reducible rfl
            rotate_left
            ·
             exact Goto.ap
            refine one_ (i := 7) (N := some 54) (Goto.bs 25 1023) rfl rfl (one_of HT_.out (by kernel_rfl)) (by decide) (fun K hK => ?_)
            refine goes_ Tryd.func38 (by kernel_rfl) rfl #[.slice A150_3 ((rd_T40 l0_3 a1).f2).length c150_3] (by rfl) rfl rfl (by (try simp only [List.map_toArray, List.map_cons, List.map_nil]); first | done | rfl | (simp only [List.length_drop, List.length_take]; rfl)) ?_
            with_reducible refine (slices_Max_int_int.calls kj10 _ _ ((rd_T40 l0_3 a1).f2) t157 _ ?side1 ?side2 A35.out).mono ?_
            (case side1 => repeat (first | exact (Kd.C_below HR150_3.out (Goto.hx HB)) | (with_reducible refine Kd.C_alloc ?_ _) | (with_reducible refine Kd.C_drewN ?_ _) | (with_reducible refine Kd.C_drew ?_)))
            (case side2 => exact HC150_3.out)
            rintro e w' ⟨rfl, ⟨nd, rfl⟩⟩
            refine ⟨_, rfl, ?_⟩
            refine hK.out _ _ ⟨(blk_cell BK151.out 0).trans rfl, (blk_cell BK151.out 1).trans rfl, (blk_cell BK151.out 2).trans rfl, (blk_cell BK151.out 3).trans rfl, (blk_cell BK151.out 4).trans rfl, (blk_cell BK151.out 5).trans rfl, (blk_cell BK151.out 6).trans rfl, (blk_cell BK151.out 7).trans rfl, (blk_cell BK151.out 8).trans rfl, (blk_cell BK151.out 9).trans rfl, (blk_cell BK149.out 0).trans rfl, (blk_cell BK149.out 1).trans rfl, (blk_cell BK149.out 2).trans rfl, (blk_cell BK149.out 3).trans rfl, (blk_cell BK155.out 0).trans rfl, (blk_cell BK155.out 1).trans rfl⟩ (fun hHeld => ?_)
            clear hK K
            refine norm_ (a' := ?_) ?_ ?_
            rotate_left
            ·
             show Act.put _ (some 54) _ = _
             exact Goto.ap
            refine Goto.pu 10 57 25 2047 ?_
            refine Goto.pu 11 58 25 4095 ?_
            refine Goto.pu 12 59 25 8191 ?_
            refine Goto.pu 14 61 25 24575 ?_
            refine take_ (i := 13) (N := some 60) (v := ?_) (a' := ?_) (Goto.bs 25 32767) rfl rfl (take_ofW HT_.out HW_.out (by kernel_rfl)) (fun _ _ _ h => h) (Or.inl ⟨by rfl, ?_⟩) hHeld ?_ ?_
            rotate_left
            ·
             rintro w' ⟨s0, s1, s2, s3, s4, s5, s6, s7, s8, s9, s10, s11, s12, s13, s14, s15⟩
             go_simp
             with_reducible rfl
            rotate_left
            ·
             exact Goto.ap
            refine take_ (i := 15) (N := some 62) (v := ?_) (a' := ?_) (Goto.bs 25 65535) rfl rfl (take_ofW HT_.out HW_.out (by kernel_rfl)) (fun _ _ _ h => h) (Or.inl ⟨by rfl, ?_⟩) hHeld ?_ ?_
            rotate_left
            ·
             rintro w' ⟨s0, s1, s2, s3, s4, s5, s6, s7, s8, s9, s10, s11, s12, s13, s14, s15⟩
             go_simp
             with_reducible rfl
            rotate_left
            ·
             exact Goto.ap
            refine Goto.pu 16 63 25 131071 ?_
            refine Goto.pu 17 64 25 262143 ?_
            refine Goto.pu 18 65 25 524287 ?_
            refine pure_ (i := 19) (N := some 66) (v := undef) (a' := ?_) (Goto.bs 25 1048575) rfl rfl (any_of HT_.out (by kernel_rfl)) (fun _ _ _ h => h) (Or.inr ⟨by rfl, rfl⟩) ?_ ?_
            rotate_left
            ·
             exact Goto.ap
            refine pure_ (i := 20) (N := some 67) (v := undef) (a' := ?_) (Goto.bs 25 2097151) rfl rfl (any_of HT_.out (by kernel_rfl)) (fun _ _ _ h => h) (Or.inr ⟨by rfl, rfl⟩) ?_ ?_
            rotate_left
            ·
             exact Goto.ap
            refine pure_ (i := 21) (N := some 68) (v := undef) (a' := ?_) (Goto.bs 25 4194303) rfl rfl (any_of HT_.out (by kernel_rfl)) (fun _ _ _ h => h) (Or.inr ⟨by rfl, rfl⟩) ?_ ?_
            rotate_left
            ·
             exact Goto.ap
            refine pure_ (i := 22) (N := some 69) (v := undef) (a' := ?_) (Goto.bs 25 8388607) rfl rfl (any_of HT_.out (by kernel_rfl)) (fun _ _ _ h => h) (Or.inr ⟨by rfl, rfl⟩) ?_ ?_
            rotate_left
            ·
             exact Goto.ap
            refine Goto.pu 23 70 25 16777215 ?_
            refine Goto.pu 24 4 25 33554431 ?_
            refine done_ (done_of HT_.out (by kernel_rfl)) ?_
            try go_wp2
            go_ret
            exact ⟨Goto.er, by repeat (first | (with_reducible first | exact HB.out | apply below_alloc | apply pw_below_drewN | apply below_drew1 | refine below_set ?_ GE149.out | refine below_set ?_ GE151.out | refine below_set ?_ GE155.out) | exact HB.out)⟩
          ·
           rw [if_neg c36] at H
           have c36b0 : decide (t157 ≤ a0_0) = false := decide_eq_false c36
           clear c36
           obtain rfl := Option.some.inj H
           have hnb58 := NB149_151.out; have hnc58 := NB151_149.out; have hcz59_0 := Goto.bc0 BK149; have hcz59_1 := Goto.bc1 BK149; have hcz59_2 := Goto.bc2 BK149
           have hcz59_3 := Goto.bc3 BK149
           have hfz59_0 := Goto.bf BK149 0; have hfz59_1 := Goto.bf BK149 1; have hfz59_2 := Goto.bf BK149 2; have hfz59_3 := Goto.bf BK149 3
           have hcz60_0 := Goto.bc0 BK151
           have hcz60_1 := Goto.bc1 BK151
           have hcz60_2 := Goto.bc2 BK151
           have hcz60_3 := Goto.bc3 BK151
           have hcz60_4 := Goto.bc4 BK151
           have hcz60_5 := Goto.bc5 BK151
           have hcz60_6 := Goto.bc6 BK151
           have hcz60_7 := Goto.bc7 BK151
           have hcz60_8 := Goto.bc8 BK151
           have hcz60_9 := Goto.bc9 BK151
           have hfz60_0 := Goto.bf BK151 0; have hfz60_1 := Goto.bf BK151 1; have hfz60_2 := Goto.bf BK151 2; have hfz60_3 := Goto.bf BK151 3; have hfz60_4 := Goto.bf BK151 4; have hfz60_5 := Goto.bf BK151 5; have hfz60_6 := Goto.bf BK151 6; have hfz60_7 := Goto.bf BK151 7; have hfz60_8 := Goto.bf BK151 8; have hfz60_9 := Goto.bf BK151 9
           have p154 : 0 ≤ (((rd_T40 l0_3 a1).f3) : Int) := Goto.od
           have q154 : ((rd_T40 l0_3 a1).f3) < (l0_3.length : Int) := Goto.od
           obtain ⟨ad154, A154_2, c154_2, A154_3, c154_3, e154, hx154_0, hx154_1, hx154_2, hx154_3, hx154_4, hx154_5, hx154_6, hx154_7, hx154_8, hx154_9, hl154_2, hi154_2, hl154_3, hi154_3⟩ := at_T40 HR0_3.out ((rd_T40 l0_3 a1).f3) p154 q154
           obtain rfl : ad150 = ad154 := (by injection e154)
           replace hx154_0 := Goto.kc HB.out hx154_0
           replace hx154_1 := Goto.kc HB.out hx154_1
           replace hx154_2 := Goto.kc HB.out hx154_2
           replace hx154_3 := Goto.kc HB.out hx154_3
           replace hx154_4 := Goto.kc HB.out hx154_4
           replace hx154_5 := Goto.kc HB.out hx154_5
           replace hx154_6 := Goto.kc HB.out hx154_6
           replace hx154_7 := Goto.kc HB.out hx154_7
           replace hx154_8 := Goto.kc HB.out hx154_8
           replace hx154_9 := Goto.kc HB.out hx154_9
           have HR154_2 := Goto.m0 hi154_2
           have HC154_2 := Goto.m0 hl154_2
           clear hi154_2 hl154_2
           have HR154_3 := Goto.m0 hi154_3
           have HC154_3 := Goto.m0 hl154_3
           clear hi154_3 hl154_3; replace p154 := eq_true p154; replace q154 := eq_true q154
           try go_wp2_with (first | ((with_reducible refine gate_dst (N := 6) rfl ?_); (try (refine gate_guard (by rfl) ?_; dsimp only)); refine box_event ?hg (N := 6) ?hd (cs := #[.int .i64 0, .int .u64 0]) (t := 38) ?hr ?_; (case hd => rfl); (case hg => rfl); (case hr => first | (go_simp; done) | (go_simp; rfl)); intro gb155 hg w61 hbox hb; have BK155 := Goto.m0 (hbox); have GW155 := Goto.gs HB hg; have GE155 := Goto.gs HB hg; have NB149_155 := Goto.nl BK149 hg; have NB155_149 := Goto.nr BK149 hg; have NB151_155 := Goto.nl BK151 hg; have NB155_151 := Goto.nr BK151 hg; replace BK149 := Goto.bb BK149 hb; replace BK151 := Goto.bb BK151 hb; replace HB := Goto.hs HB hb; clear hb hbox hg; have hnb62 := NB155_149.out; have hnc62 := NB149_155.out; have hnb63 := NB155_151.out; have hnc63 := NB151_155.out; have hcz64_0 := Goto.bc0 BK155; have hcz64_1 := Goto.bc1 BK155; have hfz64_0 := Goto.bf BK155 0; have hfz64_1 := Goto.bf BK155 1))
           have n0_ : Aside0 (((w61.setCell ⟨gb155, 0, none⟩ (.int .i64 ((rd_T40 l0_3 ((rd_T40 l0_3 a1).f3)).f0.f0))).setCell ⟨gb155, 1, none⟩ (.int .u64 ((rd_T40 l0_3 ((rd_T40 l0_3 a1).f3)).f0.f1))).heap[gb149]? = some (.cells #[.int .i64 a0_0, .int .i64 a0_1, .slice A0_2 l0_2.length c0_2, .slice (some ad150) l0_3.length c0_3] 25 (0, 0))) := ⟨Goto.bx BK149⟩
           have n1_ : Aside0 (((w61.setCell ⟨gb155, 0, none⟩ (.int .i64 ((rd_T40 l0_3 ((rd_T40 l0_3 a1).f3)).f0.f0))).setCell ⟨gb155, 1, none⟩ (.int .u64 ((rd_T40 l0_3 ((rd_T40 l0_3 a1).f3)).f0.f1))).heap[gb151]? = some (.cells #[.int .i64 ((rd_T40 l0_3 a1).f0.f0), .int .u64 ((rd_T40 l0_3 a1).f0.f1), .slice A150_2 ((rd_T40 l0_3 a1).f1).length c150_2, .slice A150_3 ((rd_T40 l0_3 a1).f2).length c150_3, .int .i64 ((rd_T40 l0_3 a1).f3), .int .i64 ((rd_T40 l0_3 a1).f4), .int .i64 ((rd_T40 l0_3 a1).f5), .int .i64 ((rd_T40 l0_3 a1).f6), .int .i64 ((rd_T40 l0_3 a1).f7), .int .i64 ((rd_T40 l0_3 a1).f8)] 40 (0, 0))) := ⟨Goto.bx BK151⟩
           have n2_ : Aside0 (((w61.setCell ⟨gb155, 0, none⟩ (.int .i64 ((rd_T40 l0_3 ((rd_T40 l0_3 a1).f3)).f0.f0))).setCell ⟨gb155, 1, none⟩ (.int .u64 ((rd_T40 l0_3 ((rd_T40 l0_3 a1).f3)).f0.f1))).heap[gb155]? = some (.cells #[.int .i64 ((rd_T40 l0_3 ((rd_T40 l0_3 a1).f3)).f0.f0), .int .u64 ((rd_T40 l0_3 ((rd_T40 l0_3 a1).f3)).f0.f1)] 38 (0, 0))) := ⟨Goto.bx BK155⟩
           have n3_ : Aside0 (Below w.heap.size w ((w61.setCell ⟨gb155, 0, none⟩ (.int .i64 ((rd_T40 l0_3 ((rd_T40 l0_3 a1).f3)).f0.f0))).setCell ⟨gb155, 1, none⟩ (.int .u64 ((rd_T40 l0_3 ((rd_T40 l0_3 a1).f3)).f0.f1)))) := ⟨Goto.hx HB⟩
           (try clear BK149)
           (try clear BK151)
           (try clear BK155)
           (try clear HB)
           generalize ((w61.setCell ⟨gb155, 0, none⟩ (.int .i64 ((rd_T40 l0_3 ((rd_T40 l0_3 a1).f3)).f0.f0))).setCell ⟨gb155, 1, none⟩ (.int .u64 ((rd_T40 l0_3 ((rd_T40 l0_3 a1).f3)).f0.f1))) = w65 at n0_ n1_ n2_ n3_ ⊢
           have BK149 := n0_; have BK151 := n1_; have BK155 := n2_; have HB := n3_; clear n0_ n1_ n2_ n3_
           replace BK149 := Goto.m0 (blk_drew BK149.out); replace BK151 := Goto.m0 (blk_drew BK151.out); replace BK155 := Goto.m0 (blk_drew BK155.out); replace HB := Goto.m0 (below_drew1 HB.out)
           refine start_ (n := 25) (S := fun w' => w'.cell? ⟨gb151, 0, none⟩ = some (.int .i64 ((rd_T40 l0_3 a1).f0.f0)) ∧ w'.cell? ⟨gb151, 1, none⟩ = some (.int .u64 ((rd_T40 l0_3 a1).f0.f1)) ∧ w'.cell? ⟨gb151, 2, none⟩ = some (.slice A150_2 ((rd_T40 l0_3 a1).f1).length c150_2) ∧ w'.cell? ⟨gb151, 3, none⟩ = some (.slice A150_3 ((rd_T40 l0_3 a1).f2).length c150_3) ∧ w'.cell? ⟨gb151, 4, none⟩ = some (.int .i64 ((rd_T40 l0_3 a1).f3)) ∧ w'.cell? ⟨gb151, 5, none⟩ = some (.int .i64 ((rd_T40 l0_3 a1).f4)) ∧ w'.cell? ⟨gb151, 6, none⟩ = some (.int .i64 ((rd_T40 l0_3 a1).f5)) ∧ w'.cell? ⟨gb151, 7, none⟩ = some (.int .i64 ((rd_T40 l0_3 a1).f6)) ∧ w'.cell? ⟨gb151, 8, none⟩ = some (.int .i64 ((rd_T40 l0_3 a1).f7)) ∧ w'.cell? ⟨gb151, 9, none⟩ = some (.int .i64 ((rd_T40 l0_3 a1).f8)) ∧ w'.cell? ⟨gb149, 0, none⟩ = some (.int .i64 a0_0) ∧ w'.cell? ⟨gb149, 1, none⟩ = some (.int .i64 a0_1) ∧ w'.cell? ⟨gb149, 2, none⟩ = some (.slice A0_2 l0_2.length c0_2) ∧ w'.cell? ⟨gb149, 3, none⟩ = some (.slice (some ad150) l0_3.length c0_3)) (ds := []) (.replicate 25 false) (by kernel_rfl) rfl rfl ⟨(blk_cell BK151.out 0).trans rfl, (blk_cell BK151.out 1).trans rfl, (blk_cell BK151.out 2).trans rfl, (blk_cell BK151.out 3).trans rfl, (blk_cell BK151.out 4).trans rfl, (blk_cell BK151.out 5).trans rfl, (blk_cell BK151.out 6).trans rfl, (blk_cell BK151.out 7).trans rfl, (blk_cell BK151.out 8).trans rfl, (blk_cell BK151.out 9).trans rfl, (blk_cell BK149.out 0).trans rfl, (blk_cell BK149.out 1).trans rfl, (blk_cell BK149.out 2).trans rfl, (blk_cell BK149.out 3).trans rfl⟩ (fun hHeld => ?_); refine with_tabW conf_falls.tab7 conf_falls.bits7 (fun HT_ HW_ => ?_)
           generalize w65.drew = w66 at BK149 BK151 BK155 HB hHeld ⊢
           refine Goto.pu 0 47 25 1 ?_
           refine take_ (i := 1) (N := some 48) (v := ?_) (a' := ?_) (Goto.bs 25 3) rfl rfl (take_ofW HT_.out HW_.out (by kernel_rfl)) (fun _ _ _ h => h) (Or.inl ⟨by rfl, ?_⟩) hHeld ?_ ?_
           rotate_left
           ·
            rintro w' ⟨s0, s1, s2, s3, s4, s5, s6, s7, s8, s9, s10, s11, s12, s13⟩
            go_simp
            with_reducible rfl
           rotate_left
           ·
            exact Goto.ap
           refine one_ (i := 2) (N := some 49) (Goto.bs 25 7) rfl rfl (one_of HT_.out (by kernel_rfl)) (by decide) (fun K hK => ?_)
           refine goes_ Tryd.func39 (by kernel_rfl) rfl #[.slice A150_3 ((rd_T40 l0_3 a1).f2).length c150_3] (by rfl) rfl rfl (by (try simp only [List.map_toArray, List.map_cons, List.map_nil]); first | done | rfl | (simp only [List.length_drop, List.length_take]; rfl)) ?_
           with_reducible refine (slices_Min_int_int.calls kj10 _ _ ((rd_T40 l0_3 a1).f2) t156 _ ?side1 ?side2 A33.out).mono ?_
           (case side1 => repeat (first | exact (Kd.C_below HR150_3.out HB.out) | (with_reducible refine Kd.C_alloc ?_ _) | (with_reducible refine Kd.C_drewN ?_ _) | (with_reducible refine Kd.C_drew ?_)))
           (case side2 => exact HC150_3.out)
           rintro e w' ⟨rfl, ⟨nd, rfl⟩⟩
           refine ⟨_, rfl, ?_⟩
           refine hK.out _ _ ⟨(blk_cell BK151.out 0).trans rfl, (blk_cell BK151.out 1).trans rfl, (blk_cell BK151.out 2).trans rfl, (blk_cell BK151.out 3).trans rfl, (blk_cell BK151.out 4).trans rfl, (blk_cell BK151.out 5).trans rfl, (blk_cell BK151.out 6).trans rfl, (blk_cell BK151.out 7).trans rfl, (blk_cell BK151.out 8).trans rfl, (blk_cell BK151.out 9).trans rfl, (blk_cell BK149.out 0).trans rfl, (blk_cell BK149.out 1).trans rfl, (blk_cell BK149.out 2).trans rfl, (blk_cell BK149.out 3).trans rfl⟩ (fun hHeld => ?_)
           clear hK K
           refine norm_ (a' := ?_) ?_ ?_
           rotate_left
           ·
            show Act.put _ (some 49) _ = _
            exact Goto.ap
           refine Goto.pu 3 50 25 15 ?_
           refine Goto.pu 4 51 25 31 ?_
           refine Goto.pu 5 52 25 63 ?_
           refine Goto.pu 8 55 25 319 ?_
           refine take_ (i := 6) (N := some 53) (v := ?_) (a' := ?_) (Goto.bs 25 383) rfl rfl (take_ofW HT_.out HW_.out (by kernel_rfl)) (fun _ _ _ h => h) (Or.inl ⟨by rfl, ?_⟩) hHeld ?_ ?_
           rotate_left
           ·
            rintro w' ⟨s0, s1, s2, s3, s4, s5, s6, s7, s8, s9, s10, s11, s12, s13⟩
            go_simp
            with_reducible rfl
           rotate_left
           ·
            exact Goto.ap
           refine take_ (i := 9) (N := some 56) (v := ?_) (a' := ?_) (Goto.bs 25 895) rfl rfl (take_ofW HT_.out HW_.out (by kernel_rfl)) (fun _ _ _ h => h) (Or.inl ⟨by rfl, ?_⟩) hHeld ?_ ?_
           rotate_left
           ·
            rintro w' ⟨s0, s1, s2, s3, s4, s5, s6, s7, s8, s9, s10, s11, s12, s13⟩
            go_simp
            with_reducible rfl
           rotate_left
           ·
            exact Goto.ap
           refine one_ (i := 7) (N := some 54) (Goto.bs 25 1023) rfl rfl (one_of HT_.out (by kernel_rfl)) (by decide) (fun K hK => ?_)
           refine goes_ Tryd.func38 (by kernel_rfl) rfl #[.slice A150_3 ((rd_T40 l0_3 a1).f2).length c150_3] (by rfl) rfl rfl (by (try simp only [List.map_toArray, List.map_cons, List.map_nil]); first | done | rfl | (simp only [List.length_drop, List.length_take]; rfl)) ?_
           with_reducible refine (slices_Max_int_int.calls kj10 _ _ ((rd_T40 l0_3 a1).f2) t157 _ ?side1 ?side2 A35.out).mono ?_
           (case side1 => repeat (first | exact (Kd.C_below HR150_3.out (Goto.hx HB)) | (with_reducible refine Kd.C_alloc ?_ _) | (with_reducible refine Kd.C_drewN ?_ _) | (with_reducible refine Kd.C_drew ?_)))
           (case side2 => exact HC150_3.out)
           rintro e w' ⟨rfl, ⟨nd, rfl⟩⟩
           refine ⟨_, rfl, ?_⟩
           refine hK.out _ _ ⟨(blk_cell BK151.out 0).trans rfl, (blk_cell BK151.out 1).trans rfl, (blk_cell BK151.out 2).trans rfl, (blk_cell BK151.out 3).trans rfl, (blk_cell BK151.out 4).trans rfl, (blk_cell BK151.out 5).trans rfl, (blk_cell BK151.out 6).trans rfl, (blk_cell BK151.out 7).trans rfl, (blk_cell BK151.out 8).trans rfl, (blk_cell BK151.out 9).trans rfl, (blk_cell BK149.out 0).trans rfl, (blk_cell BK149.out 1).trans rfl, (blk_cell BK149.out 2).trans rfl, (blk_cell BK149.out 3).trans rfl⟩ (fun hHeld => ?_)
           clear hK K
           refine norm_ (a' := ?_) ?_ ?_
           rotate_left
           ·
            show Act.put _ (some 54) _ = _
            exact Goto.ap
           refine Goto.pu 10 57 25 2047 ?_
           refine Goto.pu 11 58 25 4095 ?_
           refine Goto.pu 12 59 25 8191 ?_
           refine pure_ (i := 13) (N := some 60) (v := undef) (a' := ?_) (Goto.bs 25 16383) rfl rfl (any_of HT_.out (by kernel_rfl)) (fun _ _ _ h => h) (Or.inr ⟨by rfl, rfl⟩) ?_ ?_
           rotate_left
           ·
            exact Goto.ap
           refine pure_ (i := 14) (N := some 61) (v := undef) (a' := ?_) (Goto.bs 25 32767) rfl rfl (any_of HT_.out (by kernel_rfl)) (fun _ _ _ h => h) (Or.inr ⟨by rfl, rfl⟩) ?_ ?_
           rotate_left
           ·
            exact Goto.ap
           refine pure_ (i := 15) (N := some 62) (v := undef) (a' := ?_) (Goto.bs 25 65535) rfl rfl (any_of HT_.out (by kernel_rfl)) (fun _ _ _ h => h) (Or.inr ⟨by rfl, rfl⟩) ?_ ?_
           rotate_left
           ·
            exact Goto.ap
           refine pure_ (i := 16) (N := some 63) (v := undef) (a' := ?_) (Goto.bs 25 131071) rfl rfl (any_of HT_.out (by kernel_rfl)) (fun _ _ _ h => h) (Or.inr ⟨by rfl, rfl⟩) ?_ ?_
           rotate_left
           ·
            exact Goto.ap
           refine Goto.pu 17 64 25 262143 ?_
           refine Goto.pu 18 65 25 524287 ?_
           refine pure_ (i := 19) (N := some 66) (v := undef) (a' := ?_) (Goto.bs 25 1048575) rfl rfl (any_of HT_.out (by kernel_rfl)) (fun _ _ _ h => h) (Or.inr ⟨by rfl, rfl⟩) ?_ ?_
           rotate_left
           ·
            exact Goto.ap
           refine pure_ (i := 20) (N := some 67) (v := undef) (a' := ?_) (Goto.bs 25 2097151) rfl rfl (any_of HT_.out (by kernel_rfl)) (fun _ _ _ h => h) (Or.inr ⟨by rfl, rfl⟩) ?_ ?_
           rotate_left
           ·
            exact Goto.ap
           refine pure_ (i := 21) (N := some 68) (v := undef) (a' := ?_) (Goto.bs 25 4194303) rfl rfl (any_of HT_.out (by kernel_rfl)) (fun _ _ _ h => h) (Or.inr ⟨by rfl, rfl⟩) ?_ ?_
           rotate_left
           ·
            exact Goto.ap
           refine pure_ (i := 22) (N := some 69) (v := undef) (a' := ?_) (Goto.bs 25 8388607) rfl rfl (any_of HT_.out (by kernel_rfl)) (fun _ _ _ h => h) (Or.inr ⟨by rfl, rfl⟩) ?_ ?_
           rotate_left
           ·
            exact Goto.ap
           refine Goto.pu 23 70 25 16777215 ?_
           refine Goto.pu 24 4 25 33554431 ?_
           refine done_ (done_of HT_.out (by kernel_rfl)) ?_
           try go_wp2
           go_ret
           exact ⟨Goto.er, by repeat (first | (with_reducible first | exact HB.out | apply below_alloc | apply pw_below_drewN | apply below_drew1 | refine below_set ?_ GE149.out | refine below_set ?_ GE151.out | refine below_set ?_ GE155.out) | exact HB.out)⟩
         ·
          rw [if_neg c34] at H
          have c34b0 : decide (0 ≤ t156) = false := decide_eq_false c34
          clear c34
          obtain rfl := Option.some.inj H
          have hnb67 := NB149_151.out; have hnc67 := NB151_149.out; have hcz68_0 := Goto.bc0 BK149; have hcz68_1 := Goto.bc1 BK149; have hcz68_2 := Goto.bc2 BK149
          have hcz68_3 := Goto.bc3 BK149
          have hfz68_0 := Goto.bf BK149 0; have hfz68_1 := Goto.bf BK149 1; have hfz68_2 := Goto.bf BK149 2; have hfz68_3 := Goto.bf BK149 3
          have hcz69_0 := Goto.bc0 BK151
          have hcz69_1 := Goto.bc1 BK151
          have hcz69_2 := Goto.bc2 BK151
          have hcz69_3 := Goto.bc3 BK151
          have hcz69_4 := Goto.bc4 BK151
          have hcz69_5 := Goto.bc5 BK151
          have hcz69_6 := Goto.bc6 BK151
          have hcz69_7 := Goto.bc7 BK151
          have hcz69_8 := Goto.bc8 BK151
          have hcz69_9 := Goto.bc9 BK151
          have hfz69_0 := Goto.bf BK151 0; have hfz69_1 := Goto.bf BK151 1; have hfz69_2 := Goto.bf BK151 2; have hfz69_3 := Goto.bf BK151 3; have hfz69_4 := Goto.bf BK151 4; have hfz69_5 := Goto.bf BK151 5; have hfz69_6 := Goto.bf BK151 6; have hfz69_7 := Goto.bf BK151 7; have hfz69_8 := Goto.bf BK151 8; have hfz69_9 := Goto.bf BK151 9
          have p154 : 0 ≤ (((rd_T40 l0_3 a1).f3) : Int) := Goto.od
          have q154 : ((rd_T40 l0_3 a1).f3) < (l0_3.length : Int) := Goto.od
          obtain ⟨ad154, A154_2, c154_2, A154_3, c154_3, e154, hx154_0, hx154_1, hx154_2, hx154_3, hx154_4, hx154_5, hx154_6, hx154_7, hx154_8, hx154_9, hl154_2, hi154_2, hl154_3, hi154_3⟩ := at_T40 HR0_3.out ((rd_T40 l0_3 a1).f3) p154 q154
          obtain rfl : ad150 = ad154 := (by injection e154)
          replace hx154_0 := Goto.kc HB.out hx154_0
          replace hx154_1 := Goto.kc HB.out hx154_1
          replace hx154_2 := Goto.kc HB.out hx154_2
          replace hx154_3 := Goto.kc HB.out hx154_3
          replace hx154_4 := Goto.kc HB.out hx154_4
          replace hx154_5 := Goto.kc HB.out hx154_5
          replace hx154_6 := Goto.kc HB.out hx154_6
          replace hx154_7 := Goto.kc HB.out hx154_7
          replace hx154_8 := Goto.kc HB.out hx154_8
          replace hx154_9 := Goto.kc HB.out hx154_9
          have HR154_2 := Goto.m0 hi154_2
          have HC154_2 := Goto.m0 hl154_2
          clear hi154_2 hl154_2
          have HR154_3 := Goto.m0 hi154_3
          have HC154_3 := Goto.m0 hl154_3
          clear hi154_3 hl154_3; replace p154 := eq_true p154; replace q154 := eq_true q154
          try go_wp2_with (first | ((with_reducible refine gate_dst (N := 6) rfl ?_); (try (refine gate_guard (by rfl) ?_; dsimp only)); refine box_event ?hg (N := 6) ?hd (cs := #[.int .i64 0, .int .u64 0]) (t := 38) ?hr ?_; (case hd => rfl); (case hg => rfl); (case hr => first | (go_simp; done) | (go_simp; rfl)); intro gb155 hg w70 hbox hb; have BK155 := Goto.m0 (hbox); have GW155 := Goto.gs HB hg; have GE155 := Goto.gs HB hg; have NB149_155 := Goto.nl BK149 hg; have NB155_149 := Goto.nr BK149 hg; have NB151_155 := Goto.nl BK151 hg; have NB155_151 := Goto.nr BK151 hg; replace BK149 := Goto.bb BK149 hb; replace BK151 := Goto.bb BK151 hb; replace HB := Goto.hs HB hb; clear hb hbox hg; have hnb71 := NB155_149.out; have hnc71 := NB149_155.out; have hnb72 := NB155_151.out; have hnc72 := NB151_155.out; have hcz73_0 := Goto.bc0 BK155; have hcz73_1 := Goto.bc1 BK155; have hfz73_0 := Goto.bf BK155 0; have hfz73_1 := Goto.bf BK155 1))
          have n0_ : Aside0 (((w70.setCell ⟨gb155, 0, none⟩ (.int .i64 ((rd_T40 l0_3 ((rd_T40 l0_3 a1).f3)).f0.f0))).setCell ⟨gb155, 1, none⟩ (.int .u64 ((rd_T40 l0_3 ((rd_T40 l0_3 a1).f3)).f0.f1))).heap[gb149]? = some (.cells #[.int .i64 a0_0, .int .i64 a0_1, .slice A0_2 l0_2.length c0_2, .slice (some ad150) l0_3.length c0_3] 25 (0, 0))) := ⟨Goto.bx BK149⟩
          have n1_ : Aside0 (((w70.setCell ⟨gb155, 0, none⟩ (.int .i64 ((rd_T40 l0_3 ((rd_T40 l0_3 a1).f3)).f0.f0))).setCell ⟨gb155, 1, none⟩ (.int .u64 ((rd_T40 l0_3 ((rd_T40 l0_3 a1).f3)).f0.f1))).heap[gb151]? = some (.cells #[.int .i64 ((rd_T40 l0_3 a1).f0.f0), .int .u64 ((rd_T40 l0_3 a1).f0.f1), .slice A150_2 ((rd_T40 l0_3 a1).f1).length c150_2, .slice A150_3 ((rd_T40 l0_3 a1).f2).length c150_3, .int .i64 ((rd_T40 l0_3 a1).f3), .int .i64 ((rd_T40 l0_3 a1).f4), .int .i64 ((rd_T40 l0_3 a1).f5), .int .i64 ((rd_T40 l0_3 a1).f6), .int .i64 ((rd_T40 l0_3 a1).f7), .int .i64 ((rd_T40 l0_3 a1).f8)] 40 (0, 0))) := ⟨Goto.bx BK151⟩
          have n2_ : Aside0 (((w70.setCell ⟨gb155, 0, none⟩ (.int .i64 ((rd_T40 l0_3 ((rd_T40 l0_3 a1).f3)).f0.f0))).setCell ⟨gb155, 1, none⟩ (.int .u64 ((rd_T40 l0_3 ((rd_T40 l0_3 a1).f3)).f0.f1))).heap[gb155]? = some (.cells #[.int .i64 ((rd_T40 l0_3 ((rd_T40 l0_3 a1).f3)).f0.f0), .int .u64 ((rd_T40 l0_3 ((rd_T40 l0_3 a1).f3)).f0.f1)] 38 (0, 0))) := ⟨Goto.bx BK155⟩
          have n3_ : Aside0 (Below w.heap.size w ((w70.setCell ⟨gb155, 0, none⟩ (.int .i64 ((rd_T40 l0_3 ((rd_T40 l0_3 a1).f3)).f0.f0))).setCell ⟨gb155, 1, none⟩ (.int .u64 ((rd_T40 l0_3 ((rd_T40 l0_3 a1).f3)).f0.f1)))) := ⟨Goto.hx HB⟩
          (try clear BK149)
          (try clear BK151)
          (try clear BK155)
          (try clear HB)
          generalize ((w70.setCell ⟨gb155, 0, none⟩ (.int .i64 ((rd_T40 l0_3 ((rd_T40 l0_3 a1).f3)).f0.f0))).setCell ⟨gb155, 1, none⟩ (.int .u64 ((rd_T40 l0_3 ((rd_T40 l0_3 a1).f3)).f0.f1))) = w74 at n0_ n1_ n2_ n3_ ⊢
          have BK149 := n0_; have BK151 := n1_; have BK155 := n2_; have HB := n3_; clear n0_ n1_ n2_ n3_
          replace BK149 := Goto.m0 (blk_drew BK149.out); replace BK151 := Goto.m0 (blk_drew BK151.out); replace BK155 := Goto.m0 (blk_drew BK155.out); replace HB := Goto.m0 (below_drew1 HB.out)
          refine start_ (n := 25) (S := fun w' => w'.cell? ⟨gb151, 0, none⟩ = some (.int .i64 ((rd_T40 l0_3 a1).f0.f0)) ∧ w'.cell? ⟨gb151, 1, none⟩ = some (.int .u64 ((rd_T40 l0_3 a1).f0.f1)) ∧ w'.cell? ⟨gb151, 2, none⟩ = some (.slice A150_2 ((rd_T40 l0_3 a1).f1).length c150_2) ∧ w'.cell? ⟨gb151, 3, none⟩ = some (.slice A150_3 ((rd_T40 l0_3 a1).f2).length c150_3) ∧ w'.cell? ⟨gb151, 4, none⟩ = some (.int .i64 ((rd_T40 l0_3 a1).f3)) ∧ w'.cell? ⟨gb151, 5, none⟩ = some (.int .i64 ((rd_T40 l0_3 a1).f4)) ∧ w'.cell? ⟨gb151, 6, none⟩ = some (.int .i64 ((rd_T40 l0_3 a1).f5)) ∧ w'.cell? ⟨gb151, 7, none⟩ = some (.int .i64 ((rd_T40 l0_3 a1).f6)) ∧ w'.cell? ⟨gb151, 8, none⟩ = some (.int .i64 ((rd_T40 l0_3 a1).f7)) ∧ w'.cell? ⟨gb151, 9, none⟩ = some (.int .i64 ((rd_T40 l0_3 a1).f8))) (ds := []) (.replicate 25 false) (by kernel_rfl) rfl rfl ⟨(blk_cell BK151.out 0).trans rfl, (blk_cell BK151.out 1).trans rfl, (blk_cell BK151.out 2).trans rfl, (blk_cell BK151.out 3).trans rfl, (blk_cell BK151.out 4).trans rfl, (blk_cell BK151.out 5).trans rfl, (blk_cell BK151.out 6).trans rfl, (blk_cell BK151.out 7).trans rfl, (blk_cell BK151.out 8).trans rfl, (blk_cell BK151.out 9).trans rfl⟩ (fun hHeld => ?_); refine with_tabW conf_falls.tab7 conf_falls.bits7 (fun HT_ HW_ => ?_)
          generalize w74.drew = w75 at BK149 BK151 BK155 HB hHeld ⊢
          refine Goto.pu 0 47 25 1 ?_
          refine take_ (i := 1) (N := some 48) (v := ?_) (a' := ?_) (Goto.bs 25 3) rfl rfl (take_ofW HT_.out HW_.out (by kernel_rfl)) (fun _ _ _ h => h) (Or.inl ⟨by rfl, ?_⟩) hHeld ?_ ?_
          rotate_left
          ·
           rintro w' ⟨s0, s1, s2, s3, s4, s5, s6, s7, s8, s9⟩
           go_simp
           with_reducible rfl
          rotate_left
          ·
           exact Goto.ap
          refine one_ (i := 2) (N := some 49) (Goto.bs 25 7) rfl rfl (one_of HT_.out (by kernel_rfl)) (by decide) (fun K hK => ?_)
          refine goes_ Tryd.func39 (by kernel_rfl) rfl #[.slice A150_3 ((rd_T40 l0_3 a1).f2).length c150_3] (by rfl) rfl rfl (by (try simp only [List.map_toArray, List.map_cons, List.map_nil]); first | done | rfl | (simp only [List.length_drop, List.length_take]; rfl)) ?_
          with_reducible refine (slices_Min_int_int.calls kj10 _ _ ((rd_T40 l0_3 a1).f2) t156 _ ?side1 ?side2 A33.out).mono ?_
          (case side1 => repeat (first | exact (Kd.C_below HR150_3.out HB.out) | (with_reducible refine Kd.C_alloc ?_ _) | (with_reducible refine Kd.C_drewN ?_ _) | (with_reducible refine Kd.C_drew ?_)))
          (case side2 => exact HC150_3.out)
          rintro e w' ⟨rfl, ⟨nd, rfl⟩⟩
          refine ⟨_, rfl, ?_⟩
          refine hK.out _ _ ⟨(blk_cell BK151.out 0).trans rfl, (blk_cell BK151.out 1).trans rfl, (blk_cell BK151.out 2).trans rfl, (blk_cell BK151.out 3).trans rfl, (blk_cell BK151.out 4).trans rfl, (blk_cell BK151.out 5).trans rfl, (blk_cell BK151.out 6).trans rfl, (blk_cell BK151.out 7).trans rfl, (blk_cell BK151.out 8).trans rfl, (blk_cell BK151.out 9).trans rfl⟩ (fun hHeld => ?_)
          clear hK K
          refine norm_ (a' := ?_) ?_ ?_
          rotate_left
          ·
           show Act.put _ (some 49) _ = _
           exact Goto.ap
          refine Goto.pu 3 50 25 15 ?_
          refine Goto.pu 4 51 25 31 ?_
          refine pure_ (i := 5) (N := some 52) (v := undef) (a' := ?_) (Goto.bs 25 63) rfl rfl (any_of HT_.out (by kernel_rfl)) (fun _ _ _ h => h) (Or.inr ⟨by rfl, rfl⟩) ?_ ?_
          rotate_left
          ·
           exact Goto.ap
          refine pure_ (i := 6) (N := some 53) (v := undef) (a' := ?_) (Goto.bs 25 127) rfl rfl (any_of HT_.out (by kernel_rfl)) (fun _ _ _ h => h) (Or.inr ⟨by rfl, rfl⟩) ?_ ?_
          rotate_left
          ·
           exact Goto.ap
          refine pure_ (i := 7) (N := some 54) (v := undef) (a' := ?_) (Goto.bs 25 255) rfl rfl (any_of HT_.out (by kernel_rfl)) (fun _ _ _ h => h) (Or.inr ⟨by rfl, rfl⟩) ?_ ?_
          rotate_left
          ·
           exact Goto.ap
          refine pure_ (i := 8) (N := some 55) (v := undef) (a' := ?_) (Goto.bs 25 511) rfl rfl (any_of HT_.out (by kernel_rfl)) (fun _ _ _ h => h) (Or.inr ⟨by rfl, rfl⟩) ?_ ?_
          rotate_left
          ·
           exact Goto.ap
          refine pure_ (i := 9) (N := some 56) (v := undef) (a' := ?_) (Goto.bs 25 1023) rfl rfl (any_of HT_.out (by kernel_rfl)) (fun _ _ _ h => h) (Or.inr ⟨by rfl, rfl⟩) ?_ ?_
          rotate_left
          ·
           exact Goto.ap
          refine pure_ (i := 10) (N := some 57) (v := undef) (a' := ?_) (Goto.bs 25 2047) rfl rfl (any_of HT_.out (by kernel_rfl)) (fun _ _ _ h => h) (Or.inr ⟨by rfl, rfl⟩) ?_ ?_
          rotate_left
          ·
           exact Goto.ap
          refine Goto.pu 11 58 25 4095 ?_
          refine Goto.pu 12 59 25 8191 ?_
          refine pure_ (i := 13) (N := some 60) (v := undef) (a' := ?_) (Goto.bs 25 16383) rfl rfl (any_of HT_.out (by kernel_rfl)) (fun _ _ _ h => h) (Or.inr ⟨by rfl, rfl⟩) ?_ ?_
          rotate_left
          ·
           exact Goto.ap
          refine pure_ (i := 14) (N := some 61) (v := undef) (a' := ?_) (Goto.bs 25 32767) rfl rfl (any_of HT_.out (by kernel_rfl)) (fun _ _ _ h => h) (Or.inr ⟨by rfl, rfl⟩) ?_ ?_
          rotate_left
          ·
           exact Goto.ap
          refine pure_ (i := 15) (N := some 62) (v := undef) (a' := ?_) (Goto.bs 25 65535) rfl rfl (any_of HT_.out (by kernel_rfl)) (fun _ _ _ h => h) (Or.inr ⟨by rfl, rfl⟩) ?_ ?_
          rotate_left
          ·
           exact Goto.ap
          refine pure_ (i := 16) (N := some 63) (v := undef) (a' := ?_) (Goto.bs 25 131071) rfl rfl (any_of HT_.out (by kernel_rfl)) (fun _ _ _ h => h) (Or.inr ⟨by rfl, rfl⟩) ?_ ?_
          rotate_left
          ·
           exact Goto.ap
          refine Goto.pu 17 64 25 262143 ?_
          refine Goto.pu 18 65 25 524287 ?_
          refine pure_ (i := 19) (N := some 66) (v := undef) (a' := ?_) (Goto.bs 25 1048575) rfl rfl (any_of HT_.out (by kernel_rfl)) (fun _ _ _ h => h) (Or.inr ⟨by rfl, rfl⟩) ?_ ?_
          rotate_left
          ·
           exact Goto.ap
          refine pure_ (i := 20) (N := some 67) (v := undef) (a' := ?_) (Goto.bs 25 2097151) rfl rfl (any_of HT_.out (by kernel_rfl)) (fun _ _ _ h => h) (Or.inr ⟨by rfl, rfl⟩) ?_ ?_
          rotate_left
          ·
           exact Goto.ap
          refine pure_ (i := 21) (N := some 68) (v := undef) (a' := ?_) (Goto.bs 25 4194303) rfl rfl (any_of HT_.out (by kernel_rfl)) (fun _ _ _ h => h) (Or.inr ⟨by rfl, rfl⟩) ?_ ?_
          rotate_left
          ·
           exact Goto.ap
          refine pure_ (i := 22) (N := some 69) (v := undef) (a' := ?_) (Goto.bs 25 8388607) rfl rfl (any_of HT_.out (by kernel_rfl)) (fun _ _ _ h => h) (Or.inr ⟨by rfl, rfl⟩) ?_ ?_
          rotate_left
          ·
           exact Goto.ap
          refine Goto.pu 23 70 25 16777215 ?_
          refine Goto.pu 24 4 25 33554431 ?_
          refine done_ (done_of HT_.out (by kernel_rfl)) ?_
          try go_wp2
          go_ret
          exact ⟨Goto.er, by repeat (first | (with_reducible first | exact HB.out | apply below_alloc | apply pw_below_drewN | apply below_drew1 | refine below_set ?_ GE149.out | refine below_set ?_ GE151.out | refine below_set ?_ GE155.out) | exact HB.out)⟩
        ·
         rw [if_neg c32] at H
         exact absurd H (by simp)
       ·
        rw [if_neg c31] at H
        exact absurd H (by simp)
  ·
   rw [if_neg c4] at H
   exact absurd H (by simp)
 ·
  rw [if_neg c3] at H
  exact absurd H (by simp)

end Go.Proofs.YtjgdcifbhmjinaaDoor.P
