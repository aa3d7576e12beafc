/- Printed by a program of this workplace (a turned copy of the kit's optional print), out of the translation; not trusted: Lean checks it. -/
import Derived.Test.YtjgdcifbhmjinaaDoorPx0
import Derived.Test.YtjgdcifbhmjinaaDoorPx2
import Derived.Test.YtjgdcifbhmjinaaDoorPx4
import Derived.Test.YtjgdcifbhmjinaaDoorPx5
namespace Go.Proofs.YtjgdcifbhmjinaaDoor.P
open Go.RowKit Go.Proofs.YtjgdcifbhmjinaaDoorW.PrintWords Go.Proofs.YtjgdcifbhmjinaaDoorW.PrintLast Go.Proofs.YtjgdcifbhmjinaaDoorW.PrintMore
attribute [local go_sem] max2_int min2_int max_two min_two max_three min_three max_four min_four   -- for this text's walks alone
set_option linter.unusedVariables false
set_option linter.unusedSimpArgs false

/-! ### conf_routes: function 19 -/
def conf_routes.l0 : Nat → Int → List (List Int) → Int → Int → Int → Int → List (List Int) → List (S40) → Int → Int → List (List Int) → List Int → Int → Int → Int → Int → Int → Int → Option (Bool)
  | 0, _, _, _, _, _, _, _, _, _, _, _, _, _, _, _, _, _, _ => none
  | k + 1, x1, x14, x15, x16, x160000, x160001, x160002, x160003, x162000, x162001, x162002, x162003, x162004, x162005, x162006, x162007, x162008, x162009 => if x16 < x15 then (if 0 ≤ x16 then (if x16 < (x14.length : Int) then ((conf_rises.f k x160000 x160001 x160002 x160003 x162000 x162001 x162002 x162003 x162004 x162005 x162006 x162007 x162008 x162009 (rd_L3 x14 x16)).bind fun t164 => (if t164 = true then (conf_routes.l0 k x1 x14 x15 (wrap64 (x16 + 1)) x160000 x160001 x160002 x160003 x162000 x162001 x162002 x162003 x162004 x162005 x162006 x162007 x162008 x162009) else (some false))) else (none)) else (none)) else (if (x162002.length : Int) ≤ 3 then ((conf_falls.f k x160000 x160001 x160002 x160003 x1).bind fun t162 => (some t162)) else (some false))
def conf_routes.f (k : Nat) (a0_0 : Int) (a0_1 : Int) (l0_2 : List (List Int)) (l0_3 : List (S40)) (a1 : Int) : Option (Bool) := if 0 ≤ a1 then (if a1 < (l0_3.length : Int) then (conf_routes.l0 k a1 ((rd_T40 l0_3 a1).f1) (((rd_T40 l0_3 a1).f1).length : Int) 0 a0_0 a0_1 l0_2 l0_3 ((rd_T40 l0_3 a1).f0.f0) ((rd_T40 l0_3 a1).f0.f1) ((rd_T40 l0_3 a1).f1) ((rd_T40 l0_3 a1).f2) ((rd_T40 l0_3 a1).f3) ((rd_T40 l0_3 a1).f4) ((rd_T40 l0_3 a1).f5) ((rd_T40 l0_3 a1).f6) ((rd_T40 l0_3 a1).f7) ((rd_T40 l0_3 a1).f8)) else (none)) else (none)
set_option maxHeartbeats 8000000 in
set_option maxRecDepth 100000 in
theorem conf_routes.calls (k : Nat) (a0_0 : Int) (a0_1 : Int) (A0_2 : Option Addr) (c0_2 : Nat) (l0_2 : List (List Int)) (A0_3 : Option Addr) (c0_3 : Nat) (l0_3 : List (S40)) (a1 : Int) (r : Bool) (w : World) (hr0_2 : Kd.C (Kd.slice 3 (Kd.int .i64)) w A0_2 l0_2.length l0_2) (hc0_2 : l0_2.length ≤ c0_2) (hr0_3 : Kd.C k40 w A0_3 l0_3.length l0_3) (hc0_3 : l0_3.length ≤ c0_3) (h : conf_routes.f k a0_0 a0_1 l0_2 l0_3 a1 = some r) :
    Calls Tryd.prog 19 #[.agg #[.int .i64 a0_0, .int .i64 a0_1, .slice A0_2 l0_2.length c0_2, .slice A0_3 l0_3.length c0_3], .int .i64 a1] w fun e w' => e = .returned (.bool r) ∧ Below w.heap.size w w' := by
 have hu25 := Tryd.underlying25; have hu40 := Tryd.underlying40
 have HR0_2 := Goto.m0 hr0_2
 have HC0_2 := Goto.m0 hc0_2
 clear hr0_2 hc0_2
 have HR0_3 := Goto.m0 hr0_3
 have HC0_3 := Goto.m0 hc0_3
 clear hr0_3 hc0_3
 have HB := Goto.m0 (Below.refl w.heap.size w)
 have H : (if 0 ≤ a1 then (if a1 < (l0_3.length : Int) then (conf_routes.l0 k a1 ((rd_T40 l0_3 a1).f1) (((rd_T40 l0_3 a1).f1).length : Int) 0 a0_0 a0_1 l0_2 l0_3 ((rd_T40 l0_3 a1).f0.f0) ((rd_T40 l0_3 a1).f0.f1) ((rd_T40 l0_3 a1).f1) ((rd_T40 l0_3 a1).f2) ((rd_T40 l0_3 a1).f3) ((rd_T40 l0_3 a1).f4) ((rd_T40 l0_3 a1).f5) ((rd_T40 l0_3 a1).f6) ((rd_T40 l0_3 a1).f7) ((rd_T40 l0_3 a1).f8)) else (none)) else (none)) = some r := h
 clear h
 by_cases c3 : 0 ≤ a1
 ·
  rw [if_pos c3] at H
  have c3b0 : decide (0 ≤ a1) = true := decide_eq_true c3
  clear c3
  by_cases c4 : a1 < (l0_3.length : Int)
  ·
   rw [if_pos c4] at H
   have c4b0 : decide (a1 < (l0_3.length : Int)) = true := decide_eq_true c4
   clear c4
   have H' := Goto.m0 H
   clear H
   go_enter Tryd.func19, Tryd.ntmps19
   go_wp2_with (first | ((with_reducible refine gate_dst (N := 2) rfl ?_); refine box_event ?hg (N := 2) ?hd (cs := #[.int .i64 a0_0, .int .i64 a0_1, .slice A0_2 l0_2.length c0_2, .slice A0_3 l0_3.length c0_3]) (t := 25) ?hr ?_; (case hd => rfl); (case hg => rfl); (case hr => first | (go_simp; done) | (go_simp; rfl)); intro gb159 hg w5 hbox hb; have BK159 := Goto.m0 (hbox); have GW159 := Goto.gs HB hg; have GE159 := Goto.gs HB hg; replace HB := Goto.hs HB hb; clear hb hbox hg; have hcz6_0 := Goto.bc0 BK159; have hcz6_1 := Goto.bc1 BK159; have hcz6_2 := Goto.bc2 BK159; have hcz6_3 := Goto.bc3 BK159; have hfz6_0 := Goto.bf BK159 0; have hfz6_1 := Goto.bf BK159 1; have hfz6_2 := Goto.bf BK159 2; have hfz6_3 := Goto.bf BK159 3; have p160 : 0 ≤ (a1 : Int) := Goto.od; have q160 : a1 < (l0_3.length : Int) := Goto.od; obtain ⟨ad160, A160_2, c160_2, A160_3, c160_3, e160, hx160_0, hx160_1, hx160_2, hx160_3, hx160_4, hx160_5, hx160_6, hx160_7, hx160_8, hx160_9, hl160_2, hi160_2, hl160_3, hi160_3⟩ := at_T40 HR0_3.out a1 p160 q160; cases e160; replace hx160_0 := Goto.kc HB.out hx160_0; replace hx160_1 := Goto.kc HB.out hx160_1; replace hx160_2 := Goto.kc HB.out hx160_2; replace hx160_3 := Goto.kc HB.out hx160_3; replace hx160_4 := Goto.kc HB.out hx160_4; replace hx160_5 := Goto.kc HB.out hx160_5; replace hx160_6 := Goto.kc HB.out hx160_6; replace hx160_7 := Goto.kc HB.out hx160_7; replace hx160_8 := Goto.kc HB.out hx160_8; replace hx160_9 := Goto.kc HB.out hx160_9; have HR160_2 := Goto.m0 hi160_2; have HC160_2 := Goto.m0 hl160_2; clear hi160_2 hl160_2; have HR160_3 := Goto.m0 hi160_3; have HC160_3 := Goto.m0 hl160_3; clear hi160_3 hl160_3; replace p160 := eq_true p160; replace q160 := eq_true q160) | ((with_reducible refine gate_dst (N := 5) rfl ?_); refine box_event ?hg (N := 5) ?hd (cs := #[.int .i64 0, .int .u64 0, .slice none 0 0, .slice none 0 0, .int .i64 0, .int .i64 0, .int .i64 0, .int .i64 0, .int .i64 0, .int .i64 0]) (t := 40) ?hr ?_; (case hd => rfl); (case hg => rfl); (case hr => first | (go_simp; done) | (go_simp; rfl)); intro gb161 hg w7 hbox hb; have BK161 := Goto.m0 (hbox); have GW161 := Goto.gs HB hg; have GE161 := Goto.gs HB hg; have NB159_161 := Goto.nl BK159 hg; have NB161_159 := Goto.nr BK159 hg; replace BK159 := Goto.bb BK159 hb; replace HB := Goto.hs HB hb; clear hb hbox hg; have hnb8 := NB161_159.out; have hnc8 := NB159_161.out; have hcz9_0 := Goto.bc0 BK161; have hcz9_1 := Goto.bc1 BK161; have hcz9_2 := Goto.bc2 BK161; have hcz9_3 := Goto.bc3 BK161; have hcz9_4 := Goto.bc4 BK161; have hcz9_5 := Goto.bc5 BK161; have hcz9_6 := Goto.bc6 BK161; have hcz9_7 := Goto.bc7 BK161; have hcz9_8 := Goto.bc8 BK161; have hcz9_9 := Goto.bc9 BK161; have hfz9_0 := Goto.bf BK161 0; have hfz9_1 := Goto.bf BK161 1; have hfz9_2 := Goto.bf BK161 2; have hfz9_3 := Goto.bf BK161 3; have hfz9_4 := Goto.bf BK161 4; have hfz9_5 := Goto.bf BK161 5; have hfz9_6 := Goto.bf BK161 6; have hfz9_7 := Goto.bf BK161 7; have hfz9_8 := Goto.bf BK161 8; have hfz9_9 := Goto.bf BK161 9))
   go_loopg [16] k (fun kq v16 w' => ∃ (x16_1 : Int), v16 = .int .i64 x16_1 ∧ Aside0 (conf_routes.l0 kq a1 ((rd_T40 l0_3 a1).f1) (((rd_T40 l0_3 a1).f1).length : Int) x16_1 a0_0 a0_1 l0_2 l0_3 ((rd_T40 l0_3 a1).f0.f0) ((rd_T40 l0_3 a1).f0.f1) ((rd_T40 l0_3 a1).f1) ((rd_T40 l0_3 a1).f2) ((rd_T40 l0_3 a1).f3) ((rd_T40 l0_3 a1).f4) ((rd_T40 l0_3 a1).f5) ((rd_T40 l0_3 a1).f6) ((rd_T40 l0_3 a1).f7) ((rd_T40 l0_3 a1).f8) = some r) ∧ Aside0 (kq ≤ k) ∧ Aside0 (w'.heap[gb159]? = some (.cells #[.int .i64 a0_0, .int .i64 a0_1, (.slice A0_2 l0_2.length c0_2), (.slice (some ad160) l0_3.length c0_3)] 25 (0, 0))) ∧ Aside0 (w'.heap[gb161]? = some (.cells #[.int .i64 ((rd_T40 l0_3 a1).f0.f0), .int .u64 ((rd_T40 l0_3 a1).f0.f1), (.slice A160_2 ((rd_T40 l0_3 a1).f1).length c160_2), (.slice A160_3 ((rd_T40 l0_3 a1).f2).length c160_3), .int .i64 ((rd_T40 l0_3 a1).f3), .int .i64 ((rd_T40 l0_3 a1).f4), .int .i64 ((rd_T40 l0_3 a1).f5), .int .i64 ((rd_T40 l0_3 a1).f6), .int .i64 ((rd_T40 l0_3 a1).f7), .int .i64 ((rd_T40 l0_3 a1).f8)] 40 (0, 0))) ∧ Aside0 (Below w.heap.size w w'))
   case atStart => exact ⟨(0), (by first | rfl | (simp; done) | (simp [*]; done)), H', ⟨Nat.le_refl _⟩, ⟨Goto.bx BK159⟩, ⟨Goto.bx BK161⟩, ⟨Goto.hx HB⟩⟩
   case round =>
    clear H'
    try clear c1; try clear p1; try clear q1; try clear hx1; try clear p2; try clear c3; try clear c3b0; try clear c4; try clear c4b0; try clear c8; try clear hcz6_0; try clear hcz6_1; try clear hcz6_2; try clear hcz6_3; try clear hcz9_0; try clear hcz9_1; try clear hcz9_2; try clear hcz9_3; try clear hcz9_4; try clear hcz9_5; try clear hcz9_6; try clear hcz9_7; try clear hcz9_8; try clear hcz9_9; try clear hfz6_0; try clear hfz6_1; try clear hfz6_2; try clear hfz6_3; try clear hfz9_0; try clear hfz9_1; try clear hfz9_2; try clear hfz9_3; try clear hfz9_4; try clear hfz9_5; try clear hfz9_6; try clear hfz9_7; try clear hfz9_8; try clear hfz9_9; try clear hx160_0; try clear hx160_1; try clear hx160_2; try clear hx160_3; try clear hx160_4; try clear hx160_5; try clear hx160_6; try clear hx160_7; try clear hx160_8; try clear hx160_9; try clear p160; try clear q160
    obtain ⟨x16_1, rfl, HA, HK1, BK159, BK161, HB⟩ := hrel
    cases gk with
    | zero => exact absurd HA.out (by simp [conf_routes.l0])
    | succ k1 =>
     have H := HA.out; clear HA
     simp only [conf_routes.l0] at H
     by_cases c10 : x16_1 < (((rd_T40 l0_3 a1).f1).length : Int)
     ·
      rw [if_pos c10] at H
      have c10b0 : decide (x16_1 < (((rd_T40 l0_3 a1).f1).length : Int)) = true := decide_eq_true c10
      clear c10
      by_cases c11 : 0 ≤ x16_1
      ·
       rw [if_pos c11] at H
       have c11b0 : decide (0 ≤ x16_1) = true := decide_eq_true c11
       clear c11
       by_cases c12 : x16_1 < (((rd_T40 l0_3 a1).f1).length : Int)
       ·
        rw [if_pos c12] at H
        have c12b0 : decide (x16_1 < (((rd_T40 l0_3 a1).f1).length : Int)) = true := decide_eq_true c12
        clear c12
        replace H := Option.bind_eq_some_iff.mp H
        obtain ⟨t164, A130, H⟩ := H
        have A13 := Goto.m0 A130
        clear A130
        by_cases c14 : t164 = true
        ·
         subst c14
         rw [if_pos rfl] at H
         have H' := Goto.m0 H
         clear H
         have p163 : 0 ≤ (x16_1 : Int) := Goto.od
         have q163 : x16_1 < (((rd_T40 l0_3 a1).f1).length : Int) := Goto.od
         obtain ⟨ad163, A163_0, c163_0, e163, hx163_0, hl163_0, hi163_0⟩ := at_L3 HR160_2.out x16_1 p163 q163
         cases e163
         replace hx163_0 := Goto.kc HB.out hx163_0
         have HR163_0 := Goto.m0 hi163_0
         have HC163_0 := Goto.m0 hl163_0
         clear hi163_0 hl163_0; replace p163 := eq_true p163; replace q163 := eq_true q163; have hnb15 := NB159_161.out; have hnc15 := NB161_159.out; have hcz16_0 := Goto.bc0 BK159; have hcz16_1 := Goto.bc1 BK159; have hcz16_2 := Goto.bc2 BK159
         have hcz16_3 := Goto.bc3 BK159
         have hfz16_0 := Goto.bf BK159 0; have hfz16_1 := Goto.bf BK159 1; have hfz16_2 := Goto.bf BK159 2; have hfz16_3 := Goto.bf BK159 3
         have hcz17_0 := Goto.bc0 BK161
         have hcz17_1 := Goto.bc1 BK161
         have hcz17_2 := Goto.bc2 BK161
         have hcz17_3 := Goto.bc3 BK161
         have hcz17_4 := Goto.bc4 BK161
         have hcz17_5 := Goto.bc5 BK161
         have hcz17_6 := Goto.bc6 BK161
         have hcz17_7 := Goto.bc7 BK161
         have hcz17_8 := Goto.bc8 BK161
         have hcz17_9 := Goto.bc9 BK161
         have hfz17_0 := Goto.bf BK161 0; have hfz17_1 := Goto.bf BK161 1; have hfz17_2 := Goto.bf BK161 2; have hfz17_3 := Goto.bf BK161 3; have hfz17_4 := Goto.bf BK161 4; have hfz17_5 := Goto.bf BK161 5; have hfz17_6 := Goto.bf BK161 6; have hfz17_7 := Goto.bf BK161 7; have hfz17_8 := Goto.bf BK161 8; have hfz17_9 := Goto.bf BK161 9
         go_wp2_with (first | ((first | (with_reducible refine gate_callee (f := 40) rfl ?_) | (with_reducible refine Goto.gate_calleeF rfl ?_)); (first | refine goesL_ (some 23) rfl rfl Tryd.func40 (by kernel_rfl) rfl #[.agg #[.int .i64 a0_0, .int .i64 a0_1, .slice A0_2 l0_2.length c0_2, .slice (some ad160) l0_3.length c0_3], .agg #[.int .i64 ((rd_T40 l0_3 a1).f0.f0), .int .u64 ((rd_T40 l0_3 a1).f0.f1), .slice (some ad163) ((rd_T40 l0_3 a1).f1).length c160_2, .slice A160_3 ((rd_T40 l0_3 a1).f2).length c160_3, .int .i64 ((rd_T40 l0_3 a1).f3), .int .i64 ((rd_T40 l0_3 a1).f4), .int .i64 ((rd_T40 l0_3 a1).f5), .int .i64 ((rd_T40 l0_3 a1).f6), .int .i64 ((rd_T40 l0_3 a1).f7), .int .i64 ((rd_T40 l0_3 a1).f8)], .slice A163_0 (rd_L3 ((rd_T40 l0_3 a1).f1) x16_1).length c163_0] rfl (by (try simp only [List.map_toArray, List.map_cons, List.map_nil]); first | done | rfl | (simp only [List.length_drop, List.length_take]; rfl)) ?_ | refine Goto.goesF_ (some 23) rfl rfl Tryd.func40 (by kernel_rfl) rfl #[.agg #[.int .i64 a0_0, .int .i64 a0_1, .slice A0_2 l0_2.length c0_2, .slice (some ad160) l0_3.length c0_3], .agg #[.int .i64 ((rd_T40 l0_3 a1).f0.f0), .int .u64 ((rd_T40 l0_3 a1).f0.f1), .slice (some ad163) ((rd_T40 l0_3 a1).f1).length c160_2, .slice A160_3 ((rd_T40 l0_3 a1).f2).length c160_3, .int .i64 ((rd_T40 l0_3 a1).f3), .int .i64 ((rd_T40 l0_3 a1).f4), .int .i64 ((rd_T40 l0_3 a1).f5), .int .i64 ((rd_T40 l0_3 a1).f6), .int .i64 ((rd_T40 l0_3 a1).f7), .int .i64 ((rd_T40 l0_3 a1).f8)], .slice A163_0 (rd_L3 ((rd_T40 l0_3 a1).f1) x16_1).length c163_0] rfl (by (try simp only [List.map_toArray, List.map_cons, List.map_nil]); first | done | rfl | (simp only [List.length_drop, List.length_take]; rfl)) ?_); (with_reducible refine (conf_rises.calls k1 a0_0 a0_1 _ _ l0_2 _ _ l0_3 ((rd_T40 l0_3 a1).f0.f0) ((rd_T40 l0_3 a1).f0.f1) _ _ ((rd_T40 l0_3 a1).f1) _ _ ((rd_T40 l0_3 a1).f2) ((rd_T40 l0_3 a1).f3) ((rd_T40 l0_3 a1).f4) ((rd_T40 l0_3 a1).f5) ((rd_T40 l0_3 a1).f6) ((rd_T40 l0_3 a1).f7) ((rd_T40 l0_3 a1).f8) _ _ (rd_L3 ((rd_T40 l0_3 a1).f1) x16_1) true _ ?side1 ?side2 ?side3 ?side4 ?side5 ?side6 ?side7 ?side8 ?side9 ?side10 A13.out).mono ?_); (case side1 => repeat (first | exact (Kd.C_below HR0_2.out HB.out) | (with_reducible refine Kd.C_alloc ?_ _) | (with_reducible refine Kd.C_drewN ?_ _) | (with_reducible refine Kd.C_drew ?_))); (case side2 => exact HC0_2.out); (case side3 => repeat (first | exact (Kd.C_below HR0_3.out HB.out) | (with_reducible refine Kd.C_alloc ?_ _) | (with_reducible refine Kd.C_drewN ?_ _) | (with_reducible refine Kd.C_drew ?_))); (case side4 => exact HC0_3.out); (case side5 => repeat (first | exact (Kd.C_below HR160_2.out HB.out) | (with_reducible refine Kd.C_alloc ?_ _) | (with_reducible refine Kd.C_drewN ?_ _) | (with_reducible refine Kd.C_drew ?_))); (case side6 => exact HC160_2.out); (case side7 => repeat (first | exact (Kd.C_below HR160_3.out HB.out) | (with_reducible refine Kd.C_alloc ?_ _) | (with_reducible refine Kd.C_drewN ?_ _) | (with_reducible refine Kd.C_drew ?_))); (case side8 => exact HC160_3.out); (case side9 => repeat (first | exact (Kd.C_below HR163_0.out HB.out) | (with_reducible refine Kd.C_alloc ?_ _) | (with_reducible refine Kd.C_drewN ?_ _) | (with_reducible refine Kd.C_drew ?_))); (case side10 => exact HC163_0.out); rintro e w18 ⟨rfl, hb⟩; refine ⟨_, rfl, ?_⟩; replace BK159 := Goto.bb BK159 hb; replace BK161 := Goto.bb BK161 hb; replace HB := Goto.hs HB hb; (try clear hb); (try clear hb2); (try clear hk); (try clear hi)))
         go_roundg k1
         case measure => have := HK1.out; omega
         case rel => exact ⟨(wrap64 (x16_1 + 1)), (by first | rfl | (simp; done) | (simp [*]; done)), H', ⟨by have := HK1.out; omega⟩, ⟨Goto.bx BK159⟩, ⟨Goto.bx BK161⟩, ⟨Goto.hx HB⟩⟩
        ·
         replace c14 := Bool.eq_false_iff.mpr c14
         subst c14
         rw [if_neg (show ¬ (false = true) by decide)] at H
         obtain rfl := Option.some.inj H
         have p163 : 0 ≤ (x16_1 : Int) := Goto.od
         have q163 : x16_1 < (((rd_T40 l0_3 a1).f1).length : Int) := Goto.od
         obtain ⟨ad163, A163_0, c163_0, e163, hx163_0, hl163_0, hi163_0⟩ := at_L3 HR160_2.out x16_1 p163 q163
         cases e163
         replace hx163_0 := Goto.kc HB.out hx163_0
         have HR163_0 := Goto.m0 hi163_0
         have HC163_0 := Goto.m0 hl163_0
         clear hi163_0 hl163_0; replace p163 := eq_true p163; replace q163 := eq_true q163; have hnb19 := NB159_161.out; have hnc19 := NB161_159.out; have hcz20_0 := Goto.bc0 BK159; have hcz20_1 := Goto.bc1 BK159; have hcz20_2 := Goto.bc2 BK159
         have hcz20_3 := Goto.bc3 BK159
         have hfz20_0 := Goto.bf BK159 0; have hfz20_1 := Goto.bf BK159 1; have hfz20_2 := Goto.bf BK159 2; have hfz20_3 := Goto.bf BK159 3
         have hcz21_0 := Goto.bc0 BK161
         have hcz21_1 := Goto.bc1 BK161
         have hcz21_2 := Goto.bc2 BK161
         have hcz21_3 := Goto.bc3 BK161
         have hcz21_4 := Goto.bc4 BK161
         have hcz21_5 := Goto.bc5 BK161
         have hcz21_6 := Goto.bc6 BK161
         have hcz21_7 := Goto.bc7 BK161
         have hcz21_8 := Goto.bc8 BK161
         have hcz21_9 := Goto.bc9 BK161
         have hfz21_0 := Goto.bf BK161 0; have hfz21_1 := Goto.bf BK161 1; have hfz21_2 := Goto.bf BK161 2; have hfz21_3 := Goto.bf BK161 3; have hfz21_4 := Goto.bf BK161 4; have hfz21_5 := Goto.bf BK161 5; have hfz21_6 := Goto.bf BK161 6; have hfz21_7 := Goto.bf BK161 7; have hfz21_8 := Goto.bf BK161 8; have hfz21_9 := Goto.bf BK161 9
         go_wp2_with (first | ((first | (with_reducible refine gate_callee (f := 40) rfl ?_) | (with_reducible refine Goto.gate_calleeF rfl ?_)); (first | refine goesL_ (some 23) rfl rfl Tryd.func40 (by kernel_rfl) rfl #[.agg #[.int .i64 a0_0, .int .i64 a0_1, .slice A0_2 l0_2.length c0_2, .slice (some ad160) l0_3.length c0_3], .agg #[.int .i64 ((rd_T40 l0_3 a1).f0.f0), .int .u64 ((rd_T40 l0_3 a1).f0.f1), .slice (some ad163) ((rd_T40 l0_3 a1).f1).length c160_2, .slice A160_3 ((rd_T40 l0_3 a1).f2).length c160_3, .int .i64 ((rd_T40 l0_3 a1).f3), .int .i64 ((rd_T40 l0_3 a1).f4), .int .i64 ((rd_T40 l0_3 a1).f5), .int .i64 ((rd_T40 l0_3 a1).f6), .int .i64 ((rd_T40 l0_3 a1).f7), .int .i64 ((rd_T40 l0_3 a1).f8)], .slice A163_0 (rd_L3 ((rd_T40 l0_3 a1).f1) x16_1).length c163_0] rfl (by (try simp only [List.map_toArray, List.map_cons, List.map_nil]); first | done | rfl | (simp only [List.length_drop, List.length_take]; rfl)) ?_ | refine Goto.goesF_ (some 23) rfl rfl Tryd.func40 (by kernel_rfl) rfl #[.agg #[.int .i64 a0_0, .int .i64 a0_1, .slice A0_2 l0_2.length c0_2, .slice (some ad160) l0_3.length c0_3], .agg #[.int .i64 ((rd_T40 l0_3 a1).f0.f0), .int .u64 ((rd_T40 l0_3 a1).f0.f1), .slice (some ad163) ((rd_T40 l0_3 a1).f1).length c160_2, .slice A160_3 ((rd_T40 l0_3 a1).f2).length c160_3, .int .i64 ((rd_T40 l0_3 a1).f3), .int .i64 ((rd_T40 l0_3 a1).f4), .int .i64 ((rd_T40 l0_3 a1).f5), .int .i64 ((rd_T40 l0_3 a1).f6), .int .i64 ((rd_T40 l0_3 a1).f7), .int .i64 ((rd_T40 l0_3 a1).f8)], .slice A163_0 (rd_L3 ((rd_T40 l0_3 a1).f1) x16_1).length c163_0] rfl (by (try simp only [List.map_toArray, List.map_cons, List.map_nil]); first | done | rfl | (simp only [List.length_drop, List.length_take]; rfl)) ?_); (with_reducible refine (conf_rises.calls k1 a0_0 a0_1 _ _ l0_2 _ _ l0_3 ((rd_T40 l0_3 a1).f0.f0) ((rd_T40 l0_3 a1).f0.f1) _ _ ((rd_T40 l0_3 a1).f1) _ _ ((rd_T40 l0_3 a1).f2) ((rd_T40 l0_3 a1).f3) ((rd_T40 l0_3 a1).f4) ((rd_T40 l0_3 a1).f5) ((rd_T40 l0_3 a1).f6) ((rd_T40 l0_3 a1).f7) ((rd_T40 l0_3 a1).f8) _ _ (rd_L3 ((rd_T40 l0_3 a1).f1) x16_1) false _ ?side1 ?side2 ?side3 ?side4 ?side5 ?side6 ?side7 ?side8 ?side9 ?side10 A13.out).mono ?_); (case side1 => repeat (first | exact (Kd.C_below HR0_2.out HB.out) | (with_reducible refine Kd.C_alloc ?_ _) | (with_reducible refine Kd.C_drewN ?_ _) | (with_reducible refine Kd.C_drew ?_))); (case side2 => exact HC0_2.out); (case side3 => repeat (first | exact (Kd.C_below HR0_3.out HB.out) | (with_reducible refine Kd.C_alloc ?_ _) | (with_reducible refine Kd.C_drewN ?_ _) | (with_reducible refine Kd.C_drew ?_))); (case side4 => exact HC0_3.out); (case side5 => repeat (first | exact (Kd.C_below HR160_2.out HB.out) | (with_reducible refine Kd.C_alloc ?_ _) | (with_reducible refine Kd.C_drewN ?_ _) | (with_reducible refine Kd.C_drew ?_))); (case side6 => exact HC160_2.out); (case side7 => repeat (first | exact (Kd.C_below HR160_3.out HB.out) | (with_reducible refine Kd.C_alloc ?_ _) | (with_reducible refine Kd.C_drewN ?_ _) | (with_reducible refine Kd.C_drew ?_))); (case side8 => exact HC160_3.out); (case side9 => repeat (first | exact (Kd.C_below HR163_0.out HB.out) | (with_reducible refine Kd.C_alloc ?_ _) | (with_reducible refine Kd.C_drewN ?_ _) | (with_reducible refine Kd.C_drew ?_))); (case side10 => exact HC163_0.out); rintro e w22 ⟨rfl, hb⟩; refine ⟨_, rfl, ?_⟩; replace BK159 := Goto.bb BK159 hb; replace BK161 := Goto.bb BK161 hb; replace HB := Goto.hs HB hb; (try clear hb); (try clear hb2); (try clear hk); (try clear hi)))
         go_ret
         exact ⟨Goto.er, by repeat (first | (with_reducible first | exact HB.out | apply below_alloc | apply pw_below_drewN | apply below_drew1 | refine below_set ?_ GE159.out | refine below_set ?_ GE161.out) | exact HB.out)⟩
       ·
        rw [if_neg c12] at H
        exact absurd H (by simp)
      ·
       rw [if_neg c11] at H
       exact absurd H (by simp)
     ·
      rw [if_neg c10] at H
      have c10b0 : decide (x16_1 < (((rd_T40 l0_3 a1).f1).length : Int)) = false := decide_eq_false c10
      clear c10
      by_cases c23 : (((rd_T40 l0_3 a1).f1).length : Int) ≤ 3
      ·
       rw [if_pos c23] at H
       have c23b0 : decide ((((rd_T40 l0_3 a1).f1).length : Int) ≤ 3) = true := decide_eq_true c23
       have c23b1 : decide (((rd_T40 l0_3 a1).f1).length ≤ 3) = true := decide_eq_true (by omega)
       clear c23
       replace H := Option.bind_eq_some_iff.mp H
       obtain ⟨t162, A240, H⟩ := H
       have A24 := Goto.m0 A240
       clear A240
       obtain rfl := Option.some.inj H
       have hnb25 := NB161_159.out; have hnc25 := NB159_161.out
       have hcz26_0 := Goto.bc0 BK161
       have hcz26_1 := Goto.bc1 BK161
       have hcz26_2 := Goto.bc2 BK161
       have hcz26_3 := Goto.bc3 BK161
       have hcz26_4 := Goto.bc4 BK161
       have hcz26_5 := Goto.bc5 BK161
       have hcz26_6 := Goto.bc6 BK161
       have hcz26_7 := Goto.bc7 BK161
       have hcz26_8 := Goto.bc8 BK161
       have hcz26_9 := Goto.bc9 BK161
       have hfz26_0 := Goto.bf BK161 0; have hfz26_1 := Goto.bf BK161 1; have hfz26_2 := Goto.bf BK161 2; have hfz26_3 := Goto.bf BK161 3; have hfz26_4 := Goto.bf BK161 4; have hfz26_5 := Goto.bf BK161 5; have hfz26_6 := Goto.bf BK161 6; have hfz26_7 := Goto.bf BK161 7; have hfz26_8 := Goto.bf BK161 8; have hfz26_9 := Goto.bf BK161 9; have hcz27_0 := Goto.bc0 BK159; have hcz27_1 := Goto.bc1 BK159; have hcz27_2 := Goto.bc2 BK159
       have hcz27_3 := Goto.bc3 BK159
       have hfz27_0 := Goto.bf BK159 0; have hfz27_1 := Goto.bf BK159 1; have hfz27_2 := Goto.bf BK159 2; have hfz27_3 := Goto.bf BK159 3
       go_wp2_with (first | (go_at_call 41; (with_reducible refine (conf_falls.calls k1 a0_0 a0_1 _ _ l0_2 _ _ l0_3 a1 t162 _ ?side1 ?side2 ?side3 ?side4 A24.out).mono ?_); (case side1 => repeat (first | exact (Kd.C_below HR0_2.out HB.out) | (with_reducible refine Kd.C_alloc ?_ _) | (with_reducible refine Kd.C_drewN ?_ _) | (with_reducible refine Kd.C_drew ?_))); (case side2 => exact HC0_2.out); (case side3 => repeat (first | exact (Kd.C_below HR0_3.out HB.out) | (with_reducible refine Kd.C_alloc ?_ _) | (with_reducible refine Kd.C_drewN ?_ _) | (with_reducible refine Kd.C_drew ?_))); (case side4 => exact HC0_3.out); rintro e w28 ⟨rfl, hb⟩; replace BK159 := Goto.bb BK159 hb; replace BK161 := Goto.bb BK161 hb; replace HB := Goto.hs HB hb; (try clear hb); (try clear hb2); (try clear hk); (try clear hi)))
       go_ret
       exact ⟨Goto.er, by repeat (first | (with_reducible first | exact HB.out | apply below_alloc | apply pw_below_drewN | apply below_drew1 | refine below_set ?_ GE159.out | refine below_set ?_ GE161.out) | exact HB.out)⟩
      ·
       rw [if_neg c23] at H
       have c23b0 : decide ((((rd_T40 l0_3 a1).f1).length : Int) ≤ 3) = false := decide_eq_false c23
       have c23b1 : decide (((rd_T40 l0_3 a1).f1).length ≤ 3) = false := decide_eq_false (by omega)
       clear c23
       obtain rfl := Option.some.inj H
       have hnb29 := NB161_159.out; have hnc29 := NB159_161.out
       have hcz30_0 := Goto.bc0 BK161
       have hcz30_1 := Goto.bc1 BK161
       have hcz30_2 := Goto.bc2 BK161
       have hcz30_3 := Goto.bc3 BK161
       have hcz30_4 := Goto.bc4 BK161
       have hcz30_5 := Goto.bc5 BK161
       have hcz30_6 := Goto.bc6 BK161
       have hcz30_7 := Goto.bc7 BK161
       have hcz30_8 := Goto.bc8 BK161
       have hcz30_9 := Goto.bc9 BK161
       have hfz30_0 := Goto.bf BK161 0; have hfz30_1 := Goto.bf BK161 1; have hfz30_2 := Goto.bf BK161 2; have hfz30_3 := Goto.bf BK161 3; have hfz30_4 := Goto.bf BK161 4; have hfz30_5 := Goto.bf BK161 5; have hfz30_6 := Goto.bf BK161 6; have hfz30_7 := Goto.bf BK161 7; have hfz30_8 := Goto.bf BK161 8; have hfz30_9 := Goto.bf BK161 9
       go_wp2
       go_ret
       exact ⟨Goto.er, by repeat (first | (with_reducible first | exact HB.out | apply below_alloc | apply pw_below_drewN | apply below_drew1 | refine below_set ?_ GE159.out | refine below_set ?_ GE161.out) | exact HB.out)⟩
  ·
   rw [if_neg c4] at H
   exact absurd H (by simp)
 ·
  rw [if_neg c3] at H
  exact absurd H (by simp)

/-! ### conf_Is: function 7 -/
mutual
def conf_Is.l0 : Nat → List (S40) → Int → Int → Int → Int → List (List Int) → List (S40) → Option (Option Int)
  | 0, _, _, _, _, _, _, _ => none
  | k + 1, x17, x18, x19, x166000, x166001, x166002, x166003 => if x19 < x18 then (if 0 ≤ x19 then (if x19 < (x17.length : Int) then ((conf_quotas.f ((rd_T40 x17 x19).f0.f0) ((rd_T40 x17 x19).f0.f1) ((rd_T40 x17 x19).f1) ((rd_T40 x17 x19).f2) ((rd_T40 x17 x19).f3) ((rd_T40 x17 x19).f4) ((rd_T40 x17 x19).f5) ((rd_T40 x17 x19).f6) ((rd_T40 x17 x19).f7) ((rd_T40 x17 x19).f8)).bind fun t170 => (if t170 = true then (conf_Is.l0 k x17 x18 (wrap64 (x19 + 1)) x166000 x166001 x166002 x166003) else (some (some 19)))) else (none)) else (none)) else (conf_Is.l1 k (x166003.length : Int) 0 x166000 x166001 x166002 x166003)
def conf_Is.l1 : Nat → Int → Int → Int → Int → List (List Int) → List (S40) → Option (Option Int)
  | 0, _, _, _, _, _, _ => none
  | k + 1, x30, x31, x166000, x166001, x166002, x166003 => if x31 < x30 then ((conf_routes.f k x166000 x166001 x166002 x166003 x31).bind fun t171 => (if t171 = true then (conf_Is.l1 k x30 (wrap64 (x31 + 1)) x166000 x166001 x166002 x166003) else (some (some 17)))) else (some none)
end
def conf_Is.f (k : Nat) (a0_0 : Int) (a0_1 : Int) (l0_2 : List (List Int)) (l0_3 : List (S40)) : Option (Option Int) := (conf_form.f k a0_0 a0_1 l0_2 l0_3).bind fun t166 => (if t166 = true then ((conf_shares.f k a0_0 a0_1 l0_2 l0_3).bind fun t167 => (if t167 = true then (conf_Is.l0 k l0_3 (l0_3.length : Int) 0 a0_0 a0_1 l0_2 l0_3) else (some (some 18)))) else (some (some 10)))
set_option maxHeartbeats 8000000 in
set_option maxRecDepth 100000 in
theorem conf_Is.calls (k : Nat) (a0_0 : Int) (a0_1 : Int) (A0_2 : Option Addr) (c0_2 : Nat) (l0_2 : List (List Int)) (A0_3 : Option Addr) (c0_3 : Nat) (l0_3 : List (S40)) (r : Option Int) (w : World) (hr0_2 : Kd.C (Kd.slice 3 (Kd.int .i64)) w A0_2 l0_2.length l0_2) (hc0_2 : l0_2.length ≤ c0_2) (hr0_3 : Kd.C k40 w A0_3 l0_3.length l0_3) (hc0_3 : l0_3.length ≤ c0_3) (h : conf_Is.f k a0_0 a0_1 l0_2 l0_3 = some r) :
    Calls Tryd.prog 7 #[.agg #[.int .i64 a0_0, .int .i64 a0_1, .slice A0_2 l0_2.length c0_2, .slice A0_3 l0_3.length c0_3]] w fun e w' => e = .returned (errW r) ∧ Below w.heap.size w w' := by
 have hu25 := Tryd.underlying25; have hu40 := Tryd.underlying40; have hu30 := Tryd.underlying30; have hu42 := Tryd.underlying42
 have HR0_2 := Goto.m0 hr0_2
 have HC0_2 := Goto.m0 hc0_2
 clear hr0_2 hc0_2
 have HR0_3 := Goto.m0 hr0_3
 have HC0_3 := Goto.m0 hc0_3
 clear hr0_3 hc0_3
 have HB := Goto.m0 (Below.refl w.heap.size w)
 have H : ((conf_form.f k a0_0 a0_1 l0_2 l0_3).bind fun t166 => (if t166 = true then ((conf_shares.f k a0_0 a0_1 l0_2 l0_3).bind fun t167 => (if t167 = true then (conf_Is.l0 k l0_3 (l0_3.length : Int) 0 a0_0 a0_1 l0_2 l0_3) else (some (some 18)))) else (some (some 10)))) = some r := h
 clear h
 replace H := Option.bind_eq_some_iff.mp H
 obtain ⟨t166, A20, H⟩ := H
 have A2 := Goto.m0 A20
 clear A20
 by_cases c3 : t166 = true
 ·
  subst c3
  rw [if_pos rfl] at H
  replace H := Option.bind_eq_some_iff.mp H
  obtain ⟨t167, A40, H⟩ := H
  have A4 := Goto.m0 A40
  clear A40
  by_cases c5 : t167 = true
  ·
   subst c5
   rw [if_pos rfl] at H
   have H' := Goto.m0 H
   clear H
   go_enter Tryd.func7, Tryd.ntmps7
   go_wp2_with (first | ((with_reducible refine gate_dst (N := 1) rfl ?_); refine box_event ?hg (N := 1) ?hd (cs := #[.int .i64 a0_0, .int .i64 a0_1, .slice A0_2 l0_2.length c0_2, .slice A0_3 l0_3.length c0_3]) (t := 25) ?hr ?_; (case hd => rfl); (case hg => rfl); (case hr => first | (go_simp; done) | (go_simp; rfl)); intro gb165 hg w6 hbox hb; have BK165 := Goto.m0 (hbox); have GW165 := Goto.gs HB hg; have GE165 := Goto.gs HB hg; replace HB := Goto.hs HB hb; clear hb hbox hg; have hcz7_0 := Goto.bc0 BK165; have hcz7_1 := Goto.bc1 BK165; have hcz7_2 := Goto.bc2 BK165; have hcz7_3 := Goto.bc3 BK165; have hfz7_0 := Goto.bf BK165 0; have hfz7_1 := Goto.bf BK165 1; have hfz7_2 := Goto.bf BK165 2; have hfz7_3 := Goto.bf BK165 3) | ((first | (with_reducible refine gate_callee (f := 16) rfl ?_) | (with_reducible refine Goto.gate_calleeF rfl ?_)); (first | refine goesL_ (some 8) rfl rfl Tryd.func16 (by kernel_rfl) rfl #[.agg #[.int .i64 a0_0, .int .i64 a0_1, .slice A0_2 l0_2.length c0_2, .slice A0_3 l0_3.length c0_3]] rfl (by (try simp only [List.map_toArray, List.map_cons, List.map_nil]); first | done | rfl | (simp only [List.length_drop, List.length_take]; rfl)) ?_ | refine Goto.goesF_ (some 8) rfl rfl Tryd.func16 (by kernel_rfl) rfl #[.agg #[.int .i64 a0_0, .int .i64 a0_1, .slice A0_2 l0_2.length c0_2, .slice A0_3 l0_3.length c0_3]] rfl (by (try simp only [List.map_toArray, List.map_cons, List.map_nil]); first | done | rfl | (simp only [List.length_drop, List.length_take]; rfl)) ?_); (with_reducible refine (conf_form.calls k a0_0 a0_1 _ _ l0_2 _ _ l0_3 true _ ?side1 ?side2 ?side3 ?side4 A2.out).mono ?_); (case side1 => repeat (first | exact (Kd.C_below HR0_2.out HB.out) | (with_reducible refine Kd.C_alloc ?_ _) | (with_reducible refine Kd.C_drewN ?_ _) | (with_reducible refine Kd.C_drew ?_))); (case side2 => exact HC0_2.out); (case side3 => repeat (first | exact (Kd.C_below HR0_3.out HB.out) | (with_reducible refine Kd.C_alloc ?_ _) | (with_reducible refine Kd.C_drewN ?_ _) | (with_reducible refine Kd.C_drew ?_))); (case side4 => exact HC0_3.out); rintro e w8 ⟨rfl, hb⟩; refine ⟨_, rfl, ?_⟩; replace BK165 := Goto.bb BK165 hb; replace HB := Goto.hs HB hb; (try clear hb); (try clear hb2); (try clear hk); (try clear hi); have hcz9_0 := Goto.bc0 BK165; have hcz9_1 := Goto.bc1 BK165; have hcz9_2 := Goto.bc2 BK165; have hcz9_3 := Goto.bc3 BK165; have hfz9_0 := Goto.bf BK165 0; have hfz9_1 := Goto.bf BK165 1; have hfz9_2 := Goto.bf BK165 2; have hfz9_3 := Goto.bf BK165 3) | ((first | (with_reducible refine gate_callee (f := 17) rfl ?_) | (with_reducible refine Goto.gate_calleeF rfl ?_)); (first | refine goesL_ (some 13) rfl rfl Tryd.func17 (by kernel_rfl) rfl #[.agg #[.int .i64 a0_0, .int .i64 a0_1, .slice A0_2 l0_2.length c0_2, .slice A0_3 l0_3.length c0_3]] rfl (by (try simp only [List.map_toArray, List.map_cons, List.map_nil]); first | done | rfl | (simp only [List.length_drop, List.length_take]; rfl)) ?_ | refine Goto.goesF_ (some 13) rfl rfl Tryd.func17 (by kernel_rfl) rfl #[.agg #[.int .i64 a0_0, .int .i64 a0_1, .slice A0_2 l0_2.length c0_2, .slice A0_3 l0_3.length c0_3]] rfl (by (try simp only [List.map_toArray, List.map_cons, List.map_nil]); first | done | rfl | (simp only [List.length_drop, List.length_take]; rfl)) ?_); (with_reducible refine (conf_shares.calls k a0_0 a0_1 _ _ l0_2 _ _ l0_3 true _ ?side1 ?side2 ?side3 ?side4 A4.out).mono ?_); (case side1 => repeat (first | exact (Kd.C_below HR0_2.out HB.out) | (with_reducible refine Kd.C_alloc ?_ _) | (with_reducible refine Kd.C_drewN ?_ _) | (with_reducible refine Kd.C_drew ?_))); (case side2 => exact HC0_2.out); (case side3 => repeat (first | exact (Kd.C_below HR0_3.out HB.out) | (with_reducible refine Kd.C_alloc ?_ _) | (with_reducible refine Kd.C_drewN ?_ _) | (with_reducible refine Kd.C_drew ?_))); (case side4 => exact HC0_3.out); rintro e w10 ⟨rfl, hb⟩; refine ⟨_, rfl, ?_⟩; replace BK165 := Goto.bb BK165 hb; replace HB := Goto.hs HB hb; (try clear hb); (try clear hb2); (try clear hk); (try clear hi); have hcz11_0 := Goto.bc0 BK165; have hcz11_1 := Goto.bc1 BK165; have hcz11_2 := Goto.bc2 BK165; have hcz11_3 := Goto.bc3 BK165; have hfz11_0 := Goto.bf BK165 0; have hfz11_1 := Goto.bf BK165 1; have hfz11_2 := Goto.bf BK165 2; have hfz11_3 := Goto.bf BK165 3))
   go_loopg [19] k (fun kq v19 w' => ∃ (x19_1 : Int), v19 = .int .i64 x19_1 ∧ Aside0 (conf_Is.l0 kq l0_3 (l0_3.length : Int) x19_1 a0_0 a0_1 l0_2 l0_3 = some r) ∧ Aside0 (kq ≤ k) ∧ Aside0 (w'.heap[gb165]? = some (.cells #[.int .i64 a0_0, .int .i64 a0_1, (.slice A0_2 l0_2.length c0_2), (.slice A0_3 l0_3.length c0_3)] 25 (0, 0))) ∧ Aside0 (Below w.heap.size w w'))
   case atStart => exact ⟨(0), (by first | rfl | (simp; done) | (simp [*]; done)), H', ⟨Nat.le_refl _⟩, ⟨Goto.bx BK165⟩, ⟨Goto.hx HB⟩⟩
   case round =>
    clear H'
    try clear c1; try clear p2; try clear c3; try clear c5; try clear c7; try clear hcz11_0; try clear hcz11_1; try clear hcz11_2; try clear hcz11_3; try clear hcz7_0; try clear hcz7_1; try clear hcz7_2; try clear hcz7_3; try clear hcz9_0; try clear hcz9_1; try clear hcz9_2; try clear hcz9_3; try clear hfz11_0; try clear hfz11_1; try clear hfz11_2; try clear hfz11_3; try clear hfz7_0; try clear hfz7_1; try clear hfz7_2; try clear hfz7_3; try clear hfz9_0; try clear hfz9_1; try clear hfz9_2; try clear hfz9_3
    obtain ⟨x19_1, rfl, HA, HK1, BK165, HB⟩ := hrel
    cases gk with
    | zero => exact absurd HA.out (by simp [conf_Is.l0])
    | succ k1 =>
     have H := HA.out; clear HA
     simp only [conf_Is.l0] at H
     by_cases c12 : x19_1 < (l0_3.length : Int)
     ·
      rw [if_pos c12] at H
      have c12b0 : decide (x19_1 < (l0_3.length : Int)) = true := decide_eq_true c12
      clear c12
      by_cases c13 : 0 ≤ x19_1
      ·
       rw [if_pos c13] at H
       have c13b0 : decide (0 ≤ x19_1) = true := decide_eq_true c13
       clear c13
       by_cases c14 : x19_1 < (l0_3.length : Int)
       ·
        rw [if_pos c14] at H
        have c14b0 : decide (x19_1 < (l0_3.length : Int)) = true := decide_eq_true c14
        clear c14
        replace H := Option.bind_eq_some_iff.mp H
        obtain ⟨t170, A150, H⟩ := H
        have A15 := Goto.m0 A150
        clear A150
        by_cases c16 : t170 = true
        ·
         subst c16
         rw [if_pos rfl] at H
         have H' := Goto.m0 H
         clear H
         have p168 : 0 ≤ (x19_1 : Int) := Goto.od
         have q168 : x19_1 < (l0_3.length : Int) := Goto.od
         obtain ⟨ad168, A168_2, c168_2, A168_3, c168_3, e168, hx168_0, hx168_1, hx168_2, hx168_3, hx168_4, hx168_5, hx168_6, hx168_7, hx168_8, hx168_9, hl168_2, hi168_2, hl168_3, hi168_3⟩ := at_T40 HR0_3.out x19_1 p168 q168
         cases e168
         replace hx168_0 := Goto.kc HB.out hx168_0
         replace hx168_1 := Goto.kc HB.out hx168_1
         replace hx168_2 := Goto.kc HB.out hx168_2
         replace hx168_3 := Goto.kc HB.out hx168_3
         replace hx168_4 := Goto.kc HB.out hx168_4
         replace hx168_5 := Goto.kc HB.out hx168_5
         replace hx168_6 := Goto.kc HB.out hx168_6
         replace hx168_7 := Goto.kc HB.out hx168_7
         replace hx168_8 := Goto.kc HB.out hx168_8
         replace hx168_9 := Goto.kc HB.out hx168_9
         have HR168_2 := Goto.m0 hi168_2
         have HC168_2 := Goto.m0 hl168_2
         clear hi168_2 hl168_2
         have HR168_3 := Goto.m0 hi168_3
         have HC168_3 := Goto.m0 hl168_3
         clear hi168_3 hl168_3; replace p168 := eq_true p168; replace q168 := eq_true q168
         go_wp2_with (first | ((with_reducible refine gate_dst (N := 4) rfl ?_); refine box_event ?hg (N := 4) ?hd (cs := #[.int .i64 0, .int .u64 0, .slice none 0 0, .slice none 0 0, .int .i64 0, .int .i64 0, .int .i64 0, .int .i64 0, .int .i64 0, .int .i64 0]) (t := 40) ?hr ?_; (case hd => rfl); (case hg => rfl); (case hr => first | (go_simp; done) | (go_simp; rfl)); intro gb169 hg w17 hbox hb; have BK169 := Goto.m0 (hbox); have GW169 := Goto.gs HB hg; have GE169 := Goto.gs HB hg; have NB165_169 := Goto.nl BK165 hg; have NB169_165 := Goto.nr BK165 hg; replace BK165 := Goto.bb BK165 hb; replace HB := Goto.hs HB hb; clear hb hbox hg; have hnb18 := NB169_165.out; have hnc18 := NB165_169.out; have hcz19_0 := Goto.bc0 BK169; have hcz19_1 := Goto.bc1 BK169; have hcz19_2 := Goto.bc2 BK169; have hcz19_3 := Goto.bc3 BK169; have hcz19_4 := Goto.bc4 BK169; have hcz19_5 := Goto.bc5 BK169; have hcz19_6 := Goto.bc6 BK169; have hcz19_7 := Goto.bc7 BK169; have hcz19_8 := Goto.bc8 BK169; have hcz19_9 := Goto.bc9 BK169; have hfz19_0 := Goto.bf BK169 0; have hfz19_1 := Goto.bf BK169 1; have hfz19_2 := Goto.bf BK169 2; have hfz19_3 := Goto.bf BK169 3; have hfz19_4 := Goto.bf BK169 4; have hfz19_5 := Goto.bf BK169 5; have hfz19_6 := Goto.bf BK169 6; have hfz19_7 := Goto.bf BK169 7; have hfz19_8 := Goto.bf BK169 8; have hfz19_9 := Goto.bf BK169 9) | ((first | (with_reducible refine gate_callee (f := 18) rfl ?_) | (with_reducible refine Goto.gate_calleeF rfl ?_)); (first | refine goesL_ (some 24) rfl rfl Tryd.func18 (by kernel_rfl) rfl #[.agg #[.int .i64 ((rd_T40 l0_3 x19_1).f0.f0), .int .u64 ((rd_T40 l0_3 x19_1).f0.f1), .slice A168_2 ((rd_T40 l0_3 x19_1).f1).length c168_2, .slice A168_3 ((rd_T40 l0_3 x19_1).f2).length c168_3, .int .i64 ((rd_T40 l0_3 x19_1).f3), .int .i64 ((rd_T40 l0_3 x19_1).f4), .int .i64 ((rd_T40 l0_3 x19_1).f5), .int .i64 ((rd_T40 l0_3 x19_1).f6), .int .i64 ((rd_T40 l0_3 x19_1).f7), .int .i64 ((rd_T40 l0_3 x19_1).f8)]] rfl (by (try simp only [List.map_toArray, List.map_cons, List.map_nil]); first | done | rfl | (simp only [List.length_drop, List.length_take]; rfl)) ?_ | refine Goto.goesF_ (some 24) rfl rfl Tryd.func18 (by kernel_rfl) rfl #[.agg #[.int .i64 ((rd_T40 l0_3 x19_1).f0.f0), .int .u64 ((rd_T40 l0_3 x19_1).f0.f1), .slice A168_2 ((rd_T40 l0_3 x19_1).f1).length c168_2, .slice A168_3 ((rd_T40 l0_3 x19_1).f2).length c168_3, .int .i64 ((rd_T40 l0_3 x19_1).f3), .int .i64 ((rd_T40 l0_3 x19_1).f4), .int .i64 ((rd_T40 l0_3 x19_1).f5), .int .i64 ((rd_T40 l0_3 x19_1).f6), .int .i64 ((rd_T40 l0_3 x19_1).f7), .int .i64 ((rd_T40 l0_3 x19_1).f8)]] rfl (by (try simp only [List.map_toArray, List.map_cons, List.map_nil]); first | done | rfl | (simp only [List.length_drop, List.length_take]; rfl)) ?_); (with_reducible refine (conf_quotas.calls ((rd_T40 l0_3 x19_1).f0.f0) ((rd_T40 l0_3 x19_1).f0.f1) _ _ ((rd_T40 l0_3 x19_1).f1) _ _ ((rd_T40 l0_3 x19_1).f2) ((rd_T40 l0_3 x19_1).f3) ((rd_T40 l0_3 x19_1).f4) ((rd_T40 l0_3 x19_1).f5) ((rd_T40 l0_3 x19_1).f6) ((rd_T40 l0_3 x19_1).f7) ((rd_T40 l0_3 x19_1).f8) true _ ?side1 ?side2 ?side3 ?side4 A15.out).mono ?_); (case side1 => exact Kd.C_below HR168_2.out (Goto.hx HB)); (case side2 => exact HC168_2.out); (case side3 => exact Kd.C_below HR168_3.out (Goto.hx HB)); (case side4 => exact HC168_3.out); rintro e w20 ⟨rfl, hb⟩; refine ⟨_, rfl, ?_⟩; replace BK165 := Goto.bb BK165 hb; replace BK169 := Goto.bp (.cells #[.int .i64 ((rd_T40 l0_3 x19_1).f0.f0), .int .u64 ((rd_T40 l0_3 x19_1).f0.f1), .slice A168_2 ((rd_T40 l0_3 x19_1).f1).length c168_2, .slice A168_3 ((rd_T40 l0_3 x19_1).f2).length c168_3, .int .i64 ((rd_T40 l0_3 x19_1).f3), .int .i64 ((rd_T40 l0_3 x19_1).f4), .int .i64 ((rd_T40 l0_3 x19_1).f5), .int .i64 ((rd_T40 l0_3 x19_1).f6), .int .i64 ((rd_T40 l0_3 x19_1).f7), .int .i64 ((rd_T40 l0_3 x19_1).f8)] 40 (0, 0)) BK169 hb; replace HB := Goto.hs HB hb; (try clear hb); (try clear hb2); (try clear hk); (try clear hi)))
         go_roundg k1
         case measure => have := HK1.out; omega
         case rel => exact ⟨(wrap64 (x19_1 + 1)), (by first | rfl | (simp; done) | (simp [*]; done)), H', ⟨by have := HK1.out; omega⟩, ⟨Goto.bx BK165⟩, ⟨Goto.hx HB⟩⟩
        ·
         replace c16 := Bool.eq_false_iff.mpr c16
         subst c16
         rw [if_neg (show ¬ (false = true) by decide)] at H
         obtain rfl := Option.some.inj H
         have p168 : 0 ≤ (x19_1 : Int) := Goto.od
         have q168 : x19_1 < (l0_3.length : Int) := Goto.od
         obtain ⟨ad168, A168_2, c168_2, A168_3, c168_3, e168, hx168_0, hx168_1, hx168_2, hx168_3, hx168_4, hx168_5, hx168_6, hx168_7, hx168_8, hx168_9, hl168_2, hi168_2, hl168_3, hi168_3⟩ := at_T40 HR0_3.out x19_1 p168 q168
         cases e168
         replace hx168_0 := Goto.kc HB.out hx168_0
         replace hx168_1 := Goto.kc HB.out hx168_1
         replace hx168_2 := Goto.kc HB.out hx168_2
         replace hx168_3 := Goto.kc HB.out hx168_3
         replace hx168_4 := Goto.kc HB.out hx168_4
         replace hx168_5 := Goto.kc HB.out hx168_5
         replace hx168_6 := Goto.kc HB.out hx168_6
         replace hx168_7 := Goto.kc HB.out hx168_7
         replace hx168_8 := Goto.kc HB.out hx168_8
         replace hx168_9 := Goto.kc HB.out hx168_9
         have HR168_2 := Goto.m0 hi168_2
         have HC168_2 := Goto.m0 hl168_2
         clear hi168_2 hl168_2
         have HR168_3 := Goto.m0 hi168_3
         have HC168_3 := Goto.m0 hl168_3
         clear hi168_3 hl168_3; replace p168 := eq_true p168; replace q168 := eq_true q168
         go_wp2_with (first | ((with_reducible refine gate_dst (N := 4) rfl ?_); refine box_event ?hg (N := 4) ?hd (cs := #[.int .i64 0, .int .u64 0, .slice none 0 0, .slice none 0 0, .int .i64 0, .int .i64 0, .int .i64 0, .int .i64 0, .int .i64 0, .int .i64 0]) (t := 40) ?hr ?_; (case hd => rfl); (case hg => rfl); (case hr => first | (go_simp; done) | (go_simp; rfl)); intro gb169 hg w21 hbox hb; have BK169 := Goto.m0 (hbox); have GW169 := Goto.gs HB hg; have GE169 := Goto.gs HB hg; have NB165_169 := Goto.nl BK165 hg; have NB169_165 := Goto.nr BK165 hg; replace BK165 := Goto.bb BK165 hb; replace HB := Goto.hs HB hb; clear hb hbox hg; have hnb22 := NB169_165.out; have hnc22 := NB165_169.out; have hcz23_0 := Goto.bc0 BK169; have hcz23_1 := Goto.bc1 BK169; have hcz23_2 := Goto.bc2 BK169; have hcz23_3 := Goto.bc3 BK169; have hcz23_4 := Goto.bc4 BK169; have hcz23_5 := Goto.bc5 BK169; have hcz23_6 := Goto.bc6 BK169; have hcz23_7 := Goto.bc7 BK169; have hcz23_8 := Goto.bc8 BK169; have hcz23_9 := Goto.bc9 BK169; have hfz23_0 := Goto.bf BK169 0; have hfz23_1 := Goto.bf BK169 1; have hfz23_2 := Goto.bf BK169 2; have hfz23_3 := Goto.bf BK169 3; have hfz23_4 := Goto.bf BK169 4; have hfz23_5 := Goto.bf BK169 5; have hfz23_6 := Goto.bf BK169 6; have hfz23_7 := Goto.bf BK169 7; have hfz23_8 := Goto.bf BK169 8; have hfz23_9 := Goto.bf BK169 9) | ((first | (with_reducible refine gate_callee (f := 18) rfl ?_) | (with_reducible refine Goto.gate_calleeF rfl ?_)); (first | refine goesL_ (some 24) rfl rfl Tryd.func18 (by kernel_rfl) rfl #[.agg #[.int .i64 ((rd_T40 l0_3 x19_1).f0.f0), .int .u64 ((rd_T40 l0_3 x19_1).f0.f1), .slice A168_2 ((rd_T40 l0_3 x19_1).f1).length c168_2, .slice A168_3 ((rd_T40 l0_3 x19_1).f2).length c168_3, .int .i64 ((rd_T40 l0_3 x19_1).f3), .int .i64 ((rd_T40 l0_3 x19_1).f4), .int .i64 ((rd_T40 l0_3 x19_1).f5), .int .i64 ((rd_T40 l0_3 x19_1).f6), .int .i64 ((rd_T40 l0_3 x19_1).f7), .int .i64 ((rd_T40 l0_3 x19_1).f8)]] rfl (by (try simp only [List.map_toArray, List.map_cons, List.map_nil]); first | done | rfl | (simp only [List.length_drop, List.length_take]; rfl)) ?_ | refine Goto.goesF_ (some 24) rfl rfl Tryd.func18 (by kernel_rfl) rfl #[.agg #[.int .i64 ((rd_T40 l0_3 x19_1).f0.f0), .int .u64 ((rd_T40 l0_3 x19_1).f0.f1), .slice A168_2 ((rd_T40 l0_3 x19_1).f1).length c168_2, .slice A168_3 ((rd_T40 l0_3 x19_1).f2).length c168_3, .int .i64 ((rd_T40 l0_3 x19_1).f3), .int .i64 ((rd_T40 l0_3 x19_1).f4), .int .i64 ((rd_T40 l0_3 x19_1).f5), .int .i64 ((rd_T40 l0_3 x19_1).f6), .int .i64 ((rd_T40 l0_3 x19_1).f7), .int .i64 ((rd_T40 l0_3 x19_1).f8)]] rfl (by (try simp only [List.map_toArray, List.map_cons, List.map_nil]); first | done | rfl | (simp only [List.length_drop, List.length_take]; rfl)) ?_); (with_reducible refine (conf_quotas.calls ((rd_T40 l0_3 x19_1).f0.f0) ((rd_T40 l0_3 x19_1).f0.f1) _ _ ((rd_T40 l0_3 x19_1).f1) _ _ ((rd_T40 l0_3 x19_1).f2) ((rd_T40 l0_3 x19_1).f3) ((rd_T40 l0_3 x19_1).f4) ((rd_T40 l0_3 x19_1).f5) ((rd_T40 l0_3 x19_1).f6) ((rd_T40 l0_3 x19_1).f7) ((rd_T40 l0_3 x19_1).f8) false _ ?side1 ?side2 ?side3 ?side4 A15.out).mono ?_); (case side1 => exact Kd.C_below HR168_2.out (Goto.hx HB)); (case side2 => exact HC168_2.out); (case side3 => exact Kd.C_below HR168_3.out (Goto.hx HB)); (case side4 => exact HC168_3.out); rintro e w24 ⟨rfl, hb⟩; refine ⟨_, rfl, ?_⟩; replace BK165 := Goto.bb BK165 hb; replace BK169 := Goto.bp (.cells #[.int .i64 ((rd_T40 l0_3 x19_1).f0.f0), .int .u64 ((rd_T40 l0_3 x19_1).f0.f1), .slice A168_2 ((rd_T40 l0_3 x19_1).f1).length c168_2, .slice A168_3 ((rd_T40 l0_3 x19_1).f2).length c168_3, .int .i64 ((rd_T40 l0_3 x19_1).f3), .int .i64 ((rd_T40 l0_3 x19_1).f4), .int .i64 ((rd_T40 l0_3 x19_1).f5), .int .i64 ((rd_T40 l0_3 x19_1).f6), .int .i64 ((rd_T40 l0_3 x19_1).f7), .int .i64 ((rd_T40 l0_3 x19_1).f8)] 40 (0, 0)) BK169 hb; replace HB := Goto.hs HB hb; (try clear hb); (try clear hb2); (try clear hk); (try clear hi)))
         go_ret
         exact ⟨Goto.er, by repeat (first | (with_reducible first | exact HB.out | apply below_alloc | apply pw_below_drewN | apply below_drew1 | refine below_set ?_ GE165.out | refine below_set ?_ GE169.out) | exact HB.out)⟩
       ·
        rw [if_neg c14] at H
        exact absurd H (by simp)
      ·
       rw [if_neg c13] at H
       exact absurd H (by simp)
     ·
      rw [if_neg c12] at H
      have c12b0 : decide (x19_1 < (l0_3.length : Int)) = false := decide_eq_false c12
      clear c12
      have H' := Goto.m0 H
      clear H; have hcz25_0 := Goto.bc0 BK165; have hcz25_1 := Goto.bc1 BK165; have hcz25_2 := Goto.bc2 BK165; have hcz25_3 := Goto.bc3 BK165; have hfz25_0 := Goto.bf BK165 0; have hfz25_1 := Goto.bf BK165 1; have hfz25_2 := Goto.bf BK165 2; have hfz25_3 := Goto.bf BK165 3
      go_wp2
      go_loopg [31] k1 (fun kq v31 w' => ∃ (x31_2 : Int), v31 = .int .i64 x31_2 ∧ Aside0 (conf_Is.l1 kq (l0_3.length : Int) x31_2 a0_0 a0_1 l0_2 l0_3 = some r) ∧ Aside0 (kq ≤ k1) ∧ Aside0 (w'.heap[gb165]? = some (.cells #[.int .i64 a0_0, .int .i64 a0_1, (.slice A0_2 l0_2.length c0_2), (.slice A0_3 l0_3.length c0_3)] 25 (0, 0))) ∧ Aside0 (Below w.heap.size w w'))
      case atStart => exact ⟨(0), (by first | rfl | (simp; done) | (simp [*]; done)), H', ⟨Nat.le_refl _⟩, ⟨Goto.bx BK165⟩, ⟨Goto.hx HB⟩⟩
      case round =>
       clear H'
       try clear c1; try clear p1; try clear q1; try clear hx1; try clear c2; try clear p2; try clear c3; try clear c5; try clear p6; try clear c7; try clear c12; try clear c12b0; try clear c13; try clear c13b0; try clear c14; try clear c14b0; try clear c16; try clear p16; try clear q16; try clear hx16; try clear c17; try clear c18; try clear c22; try clear hcz11_0; try clear hcz11_1; try clear hcz11_2; try clear hcz11_3; try clear hcz19_0; try clear hcz19_1; try clear hcz19_2; try clear hcz19_3; try clear hcz19_4; try clear hcz19_5; try clear hcz19_6; try clear hcz19_7; try clear hcz19_8; try clear hcz19_9; try clear hcz23_0; try clear hcz23_1; try clear hcz23_2; try clear hcz23_3; try clear hcz23_4; try clear hcz23_5; try clear hcz23_6; try clear hcz23_7; try clear hcz23_8; try clear hcz23_9; try clear hcz25_0; try clear hcz25_1; try clear hcz25_2; try clear hcz25_3; try clear hcz7_0; try clear hcz7_1; try clear hcz7_2; try clear hcz7_3; try clear hcz9_0; try clear hcz9_1; try clear hcz9_2; try clear hcz9_3; try clear hfz11_0; try clear hfz11_1; try clear hfz11_2; try clear hfz11_3; try clear hfz19_0; try clear hfz19_1; try clear hfz19_2; try clear hfz19_3; try clear hfz19_4; try clear hfz19_5; try clear hfz19_6; try clear hfz19_7; try clear hfz19_8; try clear hfz19_9; try clear hfz23_0; try clear hfz23_1; try clear hfz23_2; try clear hfz23_3; try clear hfz23_4; try clear hfz23_5; try clear hfz23_6; try clear hfz23_7; try clear hfz23_8; try clear hfz23_9; try clear hfz25_0; try clear hfz25_1; try clear hfz25_2; try clear hfz25_3; try clear hfz7_0; try clear hfz7_1; try clear hfz7_2; try clear hfz7_3; try clear hfz9_0; try clear hfz9_1; try clear hfz9_2; try clear hfz9_3; try clear hx168_0; try clear hx168_1; try clear hx168_2; try clear hx168_3; try clear hx168_4; try clear hx168_5; try clear hx168_6; try clear hx168_7; try clear hx168_8; try clear hx168_9; try clear p168; try clear p2; try clear q168
       obtain ⟨x31_2, rfl, HA, HK2, BK165, HB⟩ := hrel
       cases gk with
       | zero => exact absurd HA.out (by simp [conf_Is.l1])
       | succ k2 =>
        have H := HA.out; clear HA
        simp only [conf_Is.l1] at H
        by_cases c26 : x31_2 < (l0_3.length : Int)
        ·
         rw [if_pos c26] at H
         have c26b0 : decide (x31_2 < (l0_3.length : Int)) = true := decide_eq_true c26
         clear c26
         replace H := Option.bind_eq_some_iff.mp H
         obtain ⟨t171, A270, H⟩ := H
         have A27 := Goto.m0 A270
         clear A270
         by_cases c28 : t171 = true
         ·
          subst c28
          rw [if_pos rfl] at H
          have H' := Goto.m0 H
          clear H; have hcz29_0 := Goto.bc0 BK165; have hcz29_1 := Goto.bc1 BK165; have hcz29_2 := Goto.bc2 BK165; have hcz29_3 := Goto.bc3 BK165; have hfz29_0 := Goto.bf BK165 0; have hfz29_1 := Goto.bf BK165 1; have hfz29_2 := Goto.bf BK165 2; have hfz29_3 := Goto.bf BK165 3
          go_wp2_with (first | ((first | (with_reducible refine gate_callee (f := 19) rfl ?_) | (with_reducible refine Goto.gate_calleeF rfl ?_)); (first | refine goesL_ (some 36) rfl rfl Tryd.func19 (by kernel_rfl) rfl #[.agg #[.int .i64 a0_0, .int .i64 a0_1, .slice A0_2 l0_2.length c0_2, .slice A0_3 l0_3.length c0_3], .int .i64 x31_2] rfl (by (try simp only [List.map_toArray, List.map_cons, List.map_nil]); first | done | rfl | (simp only [List.length_drop, List.length_take]; rfl)) ?_ | refine Goto.goesF_ (some 36) rfl rfl Tryd.func19 (by kernel_rfl) rfl #[.agg #[.int .i64 a0_0, .int .i64 a0_1, .slice A0_2 l0_2.length c0_2, .slice A0_3 l0_3.length c0_3], .int .i64 x31_2] rfl (by (try simp only [List.map_toArray, List.map_cons, List.map_nil]); first | done | rfl | (simp only [List.length_drop, List.length_take]; rfl)) ?_); (with_reducible refine (conf_routes.calls k2 a0_0 a0_1 _ _ l0_2 _ _ l0_3 x31_2 true _ ?side1 ?side2 ?side3 ?side4 A27.out).mono ?_); (case side1 => repeat (first | exact (Kd.C_below HR0_2.out HB.out) | (with_reducible refine Kd.C_alloc ?_ _) | (with_reducible refine Kd.C_drewN ?_ _) | (with_reducible refine Kd.C_drew ?_))); (case side2 => exact HC0_2.out); (case side3 => repeat (first | exact (Kd.C_below HR0_3.out HB.out) | (with_reducible refine Kd.C_alloc ?_ _) | (with_reducible refine Kd.C_drewN ?_ _) | (with_reducible refine Kd.C_drew ?_))); (case side4 => exact HC0_3.out); rintro e w30 ⟨rfl, hb⟩; refine ⟨_, rfl, ?_⟩; replace BK165 := Goto.bb BK165 hb; replace HB := Goto.hs HB hb; (try clear hb); (try clear hb2); (try clear hk); (try clear hi)))
          go_roundg k2
          case measure => have := HK1.out; have := HK2.out; omega
          case rel => exact ⟨(wrap64 (x31_2 + 1)), (by first | rfl | (simp; done) | (simp [*]; done)), H', ⟨by have := HK1.out; have := HK2.out; omega⟩, ⟨Goto.bx BK165⟩, ⟨Goto.hx HB⟩⟩
         ·
          replace c28 := Bool.eq_false_iff.mpr c28
          subst c28
          rw [if_neg (show ¬ (false = true) by decide)] at H
          obtain rfl := Option.some.inj H
          have hcz31_0 := Goto.bc0 BK165; have hcz31_1 := Goto.bc1 BK165; have hcz31_2 := Goto.bc2 BK165; have hcz31_3 := Goto.bc3 BK165; have hfz31_0 := Goto.bf BK165 0; have hfz31_1 := Goto.bf BK165 1; have hfz31_2 := Goto.bf BK165 2; have hfz31_3 := Goto.bf BK165 3
          go_wp2_with (first | ((first | (with_reducible refine gate_callee (f := 19) rfl ?_) | (with_reducible refine Goto.gate_calleeF rfl ?_)); (first | refine goesL_ (some 36) rfl rfl Tryd.func19 (by kernel_rfl) rfl #[.agg #[.int .i64 a0_0, .int .i64 a0_1, .slice A0_2 l0_2.length c0_2, .slice A0_3 l0_3.length c0_3], .int .i64 x31_2] rfl (by (try simp only [List.map_toArray, List.map_cons, List.map_nil]); first | done | rfl | (simp only [List.length_drop, List.length_take]; rfl)) ?_ | refine Goto.goesF_ (some 36) rfl rfl Tryd.func19 (by kernel_rfl) rfl #[.agg #[.int .i64 a0_0, .int .i64 a0_1, .slice A0_2 l0_2.length c0_2, .slice A0_3 l0_3.length c0_3], .int .i64 x31_2] rfl (by (try simp only [List.map_toArray, List.map_cons, List.map_nil]); first | done | rfl | (simp only [List.length_drop, List.length_take]; rfl)) ?_); (with_reducible refine (conf_routes.calls k2 a0_0 a0_1 _ _ l0_2 _ _ l0_3 x31_2 false _ ?side1 ?side2 ?side3 ?side4 A27.out).mono ?_); (case side1 => repeat (first | exact (Kd.C_below HR0_2.out HB.out) | (with_reducible refine Kd.C_alloc ?_ _) | (with_reducible refine Kd.C_drewN ?_ _) | (with_reducible refine Kd.C_drew ?_))); (case side2 => exact HC0_2.out); (case side3 => repeat (first | exact (Kd.C_below HR0_3.out HB.out) | (with_reducible refine Kd.C_alloc ?_ _) | (with_reducible refine Kd.C_drewN ?_ _) | (with_reducible refine Kd.C_drew ?_))); (case side4 => exact HC0_3.out); rintro e w32 ⟨rfl, hb⟩; refine ⟨_, rfl, ?_⟩; replace BK165 := Goto.bb BK165 hb; replace HB := Goto.hs HB hb; (try clear hb); (try clear hb2); (try clear hk); (try clear hi)))
          go_ret
          exact ⟨Goto.er, by repeat (first | (with_reducible first | exact HB.out | apply below_alloc | apply pw_below_drewN | apply below_drew1 | refine below_set ?_ GE165.out) | exact HB.out)⟩
        ·
         rw [if_neg c26] at H
         have c26b0 : decide (x31_2 < (l0_3.length : Int)) = false := decide_eq_false c26
         clear c26
         obtain rfl := Option.some.inj H
         go_wp2
         go_ret
         exact ⟨Goto.er, by repeat (first | (with_reducible first | exact HB.out | apply below_alloc | apply pw_below_drewN | apply below_drew1 | refine below_set ?_ GE165.out) | exact HB.out)⟩
  ·
   replace c5 := Bool.eq_false_iff.mpr c5
   subst c5
   rw [if_neg (show ¬ (false = true) by decide)] at H
   obtain rfl := Option.some.inj H
   go_enter Tryd.func7, Tryd.ntmps7
   go_wp2_with (first | ((with_reducible refine gate_dst (N := 1) rfl ?_); refine box_event ?hg (N := 1) ?hd (cs := #[.int .i64 a0_0, .int .i64 a0_1, .slice A0_2 l0_2.length c0_2, .slice A0_3 l0_3.length c0_3]) (t := 25) ?hr ?_; (case hd => rfl); (case hg => rfl); (case hr => first | (go_simp; done) | (go_simp; rfl)); intro gb165 hg w33 hbox hb; have BK165 := Goto.m0 (hbox); have GW165 := Goto.gs HB hg; have GE165 := Goto.gs HB hg; replace HB := Goto.hs HB hb; clear hb hbox hg; have hcz34_0 := Goto.bc0 BK165; have hcz34_1 := Goto.bc1 BK165; have hcz34_2 := Goto.bc2 BK165; have hcz34_3 := Goto.bc3 BK165; have hfz34_0 := Goto.bf BK165 0; have hfz34_1 := Goto.bf BK165 1; have hfz34_2 := Goto.bf BK165 2; have hfz34_3 := Goto.bf BK165 3) | ((first | (with_reducible refine gate_callee (f := 16) rfl ?_) | (with_reducible refine Goto.gate_calleeF rfl ?_)); (first | refine goesL_ (some 8) rfl rfl Tryd.func16 (by kernel_rfl) rfl #[.agg #[.int .i64 a0_0, .int .i64 a0_1, .slice A0_2 l0_2.length c0_2, .slice A0_3 l0_3.length c0_3]] rfl (by (try simp only [List.map_toArray, List.map_cons, List.map_nil]); first | done | rfl | (simp only [List.length_drop, List.length_take]; rfl)) ?_ | refine Goto.goesF_ (some 8) rfl rfl Tryd.func16 (by kernel_rfl) rfl #[.agg #[.int .i64 a0_0, .int .i64 a0_1, .slice A0_2 l0_2.length c0_2, .slice A0_3 l0_3.length c0_3]] rfl (by (try simp only [List.map_toArray, List.map_cons, List.map_nil]); first | done | rfl | (simp only [List.length_drop, List.length_take]; rfl)) ?_); (with_reducible refine (conf_form.calls k a0_0 a0_1 _ _ l0_2 _ _ l0_3 true _ ?side1 ?side2 ?side3 ?side4 A2.out).mono ?_); (case side1 => repeat (first | exact (Kd.C_below HR0_2.out HB.out) | (with_reducible refine Kd.C_alloc ?_ _) | (with_reducible refine Kd.C_drewN ?_ _) | (with_reducible refine Kd.C_drew ?_))); (case side2 => exact HC0_2.out); (case side3 => repeat (first | exact (Kd.C_below HR0_3.out HB.out) | (with_reducible refine Kd.C_alloc ?_ _) | (with_reducible refine Kd.C_drewN ?_ _) | (with_reducible refine Kd.C_drew ?_))); (case side4 => exact HC0_3.out); rintro e w35 ⟨rfl, hb⟩; refine ⟨_, rfl, ?_⟩; replace BK165 := Goto.bb BK165 hb; replace HB := Goto.hs HB hb; (try clear hb); (try clear hb2); (try clear hk); (try clear hi); have hcz36_0 := Goto.bc0 BK165; have hcz36_1 := Goto.bc1 BK165; have hcz36_2 := Goto.bc2 BK165; have hcz36_3 := Goto.bc3 BK165; have hfz36_0 := Goto.bf BK165 0; have hfz36_1 := Goto.bf BK165 1; have hfz36_2 := Goto.bf BK165 2; have hfz36_3 := Goto.bf BK165 3) | ((first | (with_reducible refine gate_callee (f := 17) rfl ?_) | (with_reducible refine Goto.gate_calleeF rfl ?_)); (first | refine goesL_ (some 13) rfl rfl Tryd.func17 (by kernel_rfl) rfl #[.agg #[.int .i64 a0_0, .int .i64 a0_1, .slice A0_2 l0_2.length c0_2, .slice A0_3 l0_3.length c0_3]] rfl (by (try simp only [List.map_toArray, List.map_cons, List.map_nil]); first | done | rfl | (simp only [List.length_drop, List.length_take]; rfl)) ?_ | refine Goto.goesF_ (some 13) rfl rfl Tryd.func17 (by kernel_rfl) rfl #[.agg #[.int .i64 a0_0, .int .i64 a0_1, .slice A0_2 l0_2.length c0_2, .slice A0_3 l0_3.length c0_3]] rfl (by (try simp only [List.map_toArray, List.map_cons, List.map_nil]); first | done | rfl | (simp only [List.length_drop, List.length_take]; rfl)) ?_); (with_reducible refine (conf_shares.calls k a0_0 a0_1 _ _ l0_2 _ _ l0_3 false _ ?side1 ?side2 ?side3 ?side4 A4.out).mono ?_); (case side1 => repeat (first | exact (Kd.C_below HR0_2.out HB.out) | (with_reducible refine Kd.C_alloc ?_ _) | (with_reducible refine Kd.C_drewN ?_ _) | (with_reducible refine Kd.C_drew ?_))); (case side2 => exact HC0_2.out); (case side3 => repeat (first | exact (Kd.C_below HR0_3.out HB.out) | (with_reducible refine Kd.C_alloc ?_ _) | (with_reducible refine Kd.C_drewN ?_ _) | (with_reducible refine Kd.C_drew ?_))); (case side4 => exact HC0_3.out); rintro e w37 ⟨rfl, hb⟩; refine ⟨_, rfl, ?_⟩; replace BK165 := Goto.bb BK165 hb; replace HB := Goto.hs HB hb; (try clear hb); (try clear hb2); (try clear hk); (try clear hi)))
   go_ret
   exact ⟨Goto.er, by repeat (first | (with_reducible first | exact HB.out | apply below_alloc | apply pw_below_drewN | apply below_drew1 | refine below_set ?_ GE165.out) | exact HB.out)⟩
 ·
  replace c3 := Bool.eq_false_iff.mpr c3
  subst c3
  rw [if_neg (show ¬ (false = true) by decide)] at H
  obtain rfl := Option.some.inj H
  go_enter Tryd.func7, Tryd.ntmps7
  go_wp2_with (first | ((with_reducible refine gate_dst (N := 1) rfl ?_); refine box_event ?hg (N := 1) ?hd (cs := #[.int .i64 a0_0, .int .i64 a0_1, .slice A0_2 l0_2.length c0_2, .slice A0_3 l0_3.length c0_3]) (t := 25) ?hr ?_; (case hd => rfl); (case hg => rfl); (case hr => first | (go_simp; done) | (go_simp; rfl)); intro gb165 hg w38 hbox hb; have BK165 := Goto.m0 (hbox); have GW165 := Goto.gs HB hg; have GE165 := Goto.gs HB hg; replace HB := Goto.hs HB hb; clear hb hbox hg; have hcz39_0 := Goto.bc0 BK165; have hcz39_1 := Goto.bc1 BK165; have hcz39_2 := Goto.bc2 BK165; have hcz39_3 := Goto.bc3 BK165; have hfz39_0 := Goto.bf BK165 0; have hfz39_1 := Goto.bf BK165 1; have hfz39_2 := Goto.bf BK165 2; have hfz39_3 := Goto.bf BK165 3) | ((first | (with_reducible refine gate_callee (f := 16) rfl ?_) | (with_reducible refine Goto.gate_calleeF rfl ?_)); (first | refine goesL_ (some 8) rfl rfl Tryd.func16 (by kernel_rfl) rfl #[.agg #[.int .i64 a0_0, .int .i64 a0_1, .slice A0_2 l0_2.length c0_2, .slice A0_3 l0_3.length c0_3]] rfl (by (try simp only [List.map_toArray, List.map_cons, List.map_nil]); first | done | rfl | (simp only [List.length_drop, List.length_take]; rfl)) ?_ | refine Goto.goesF_ (some 8) rfl rfl Tryd.func16 (by kernel_rfl) rfl #[.agg #[.int .i64 a0_0, .int .i64 a0_1, .slice A0_2 l0_2.length c0_2, .slice A0_3 l0_3.length c0_3]] rfl (by (try simp only [List.map_toArray, List.map_cons, List.map_nil]); first | done | rfl | (simp only [List.length_drop, List.length_take]; rfl)) ?_); (with_reducible refine (conf_form.calls k a0_0 a0_1 _ _ l0_2 _ _ l0_3 false _ ?side1 ?side2 ?side3 ?side4 A2.out).mono ?_); (case side1 => repeat (first | exact (Kd.C_below HR0_2.out HB.out) | (with_reducible refine Kd.C_alloc ?_ _) | (with_reducible refine Kd.C_drewN ?_ _) | (with_reducible refine Kd.C_drew ?_))); (case side2 => exact HC0_2.out); (case side3 => repeat (first | exact (Kd.C_below HR0_3.out HB.out) | (with_reducible refine Kd.C_alloc ?_ _) | (with_reducible refine Kd.C_drewN ?_ _) | (with_reducible refine Kd.C_drew ?_))); (case side4 => exact HC0_3.out); rintro e w40 ⟨rfl, hb⟩; refine ⟨_, rfl, ?_⟩; replace BK165 := Goto.bb BK165 hb; replace HB := Goto.hs HB hb; (try clear hb); (try clear hb2); (try clear hk); (try clear hi)))
  go_ret
  exact ⟨Goto.er, by repeat (first | (with_reducible first | exact HB.out | apply below_alloc | apply pw_below_drewN | apply below_drew1 | refine below_set ?_ GE165.out) | exact HB.out)⟩

/-! ### conf_Ticks: function 9 -/
def conf_Ticks.f (k : Nat) (a0_0 : Int) (a0_1 : Int) (l0_2 : List (List Int)) (l0_3 : List (S40)) : Option (Int) := (conf_Is.f k a0_0 a0_1 l0_2 l0_3).bind fun t173 => (if t173.isNone = true then (some (wrap64 (a0_0 * a0_1))) else (some 0))
set_option maxHeartbeats 8000000 in
set_option maxRecDepth 100000 in
theorem conf_Ticks.calls (k : Nat) (a0_0 : Int) (a0_1 : Int) (A0_2 : Option Addr) (c0_2 : Nat) (l0_2 : List (List Int)) (A0_3 : Option Addr) (c0_3 : Nat) (l0_3 : List (S40)) (r : Int) (w : World) (hr0_2 : Kd.C (Kd.slice 3 (Kd.int .i64)) w A0_2 l0_2.length l0_2) (hc0_2 : l0_2.length ≤ c0_2) (hr0_3 : Kd.C k40 w A0_3 l0_3.length l0_3) (hc0_3 : l0_3.length ≤ c0_3) (h : conf_Ticks.f k a0_0 a0_1 l0_2 l0_3 = some r) :
    Calls Tryd.prog 9 #[.agg #[.int .i64 a0_0, .int .i64 a0_1, .slice A0_2 l0_2.length c0_2, .slice A0_3 l0_3.length c0_3]] w fun e w' => e = .returned (.int .i64 r) ∧ Below w.heap.size w w' := by
 have hu25 := Tryd.underlying25; have hu30 := Tryd.underlying30; have hu42 := Tryd.underlying42
 have HR0_2 := Goto.m0 hr0_2
 have HC0_2 := Goto.m0 hc0_2
 clear hr0_2 hc0_2
 have HR0_3 := Goto.m0 hr0_3
 have HC0_3 := Goto.m0 hc0_3
 clear hr0_3 hc0_3
 have HB := Goto.m0 (Below.refl w.heap.size w)
 have H : ((conf_Is.f k a0_0 a0_1 l0_2 l0_3).bind fun t173 => (if t173.isNone = true then (some (wrap64 (a0_0 * a0_1))) else (some 0))) = some r := h
 clear h
 replace H := Option.bind_eq_some_iff.mp H
 obtain ⟨t173, A20, H⟩ := H
 have A2 := Goto.m0 A20
 clear A20
 rcases t173 with _ | q174
 ·
  have H1 : (some (wrap64 (a0_0 * a0_1))) = some r := by rw [if_pos (show (none : Option Int).isNone = true by rfl)] at H; exact H
  clear H; have H := H1; clear H1
  try simp only [errW_none, errW_some]
  obtain rfl := Option.some.inj H
  go_enter Tryd.func9, Tryd.ntmps9
  go_wp2_with (first | ((with_reducible refine gate_dst (N := 1) rfl ?_); refine box_event ?hg (N := 1) ?hd (cs := #[.int .i64 a0_0, .int .i64 a0_1, .slice A0_2 l0_2.length c0_2, .slice A0_3 l0_3.length c0_3]) (t := 25) ?hr ?_; (case hd => rfl); (case hg => rfl); (case hr => first | (go_simp; done) | (go_simp; rfl)); intro gb172 hg w3 hbox hb; have BK172 := Goto.m0 (hbox); have GW172 := Goto.gs HB hg; have GE172 := Goto.gs HB hg; replace HB := Goto.hs HB hb; clear hb hbox hg; have hcz4_0 := Goto.bc0 BK172; have hcz4_1 := Goto.bc1 BK172; have hcz4_2 := Goto.bc2 BK172; have hcz4_3 := Goto.bc3 BK172; have hfz4_0 := Goto.bf BK172 0; have hfz4_1 := Goto.bf BK172 1; have hfz4_2 := Goto.bf BK172 2; have hfz4_3 := Goto.bf BK172 3) | ((first | (with_reducible refine gate_callee (f := 7) rfl ?_) | (with_reducible refine Goto.gate_calleeF rfl ?_)); (first | refine goesL_ (some 4) rfl rfl Tryd.func7 (by kernel_rfl) rfl #[.agg #[.int .i64 a0_0, .int .i64 a0_1, .slice A0_2 l0_2.length c0_2, .slice A0_3 l0_3.length c0_3]] rfl (by (try simp only [List.map_toArray, List.map_cons, List.map_nil]); first | done | rfl | (simp only [List.length_drop, List.length_take]; rfl)) ?_ | refine Goto.goesF_ (some 4) rfl rfl Tryd.func7 (by kernel_rfl) rfl #[.agg #[.int .i64 a0_0, .int .i64 a0_1, .slice A0_2 l0_2.length c0_2, .slice A0_3 l0_3.length c0_3]] rfl (by (try simp only [List.map_toArray, List.map_cons, List.map_nil]); first | done | rfl | (simp only [List.length_drop, List.length_take]; rfl)) ?_); (with_reducible refine (conf_Is.calls k a0_0 a0_1 _ _ l0_2 _ _ l0_3 none _ ?side1 ?side2 ?side3 ?side4 A2.out).mono ?_); (case side1 => repeat (first | exact (Kd.C_below HR0_2.out HB.out) | (with_reducible refine Kd.C_alloc ?_ _) | (with_reducible refine Kd.C_drewN ?_ _) | (with_reducible refine Kd.C_drew ?_))); (case side2 => exact HC0_2.out); (case side3 => repeat (first | exact (Kd.C_below HR0_3.out HB.out) | (with_reducible refine Kd.C_alloc ?_ _) | (with_reducible refine Kd.C_drewN ?_ _) | (with_reducible refine Kd.C_drew ?_))); (case side4 => exact HC0_3.out); rintro e w5 ⟨rfl, hb⟩; refine ⟨_, rfl, ?_⟩; replace BK172 := Goto.bb BK172 hb; replace HB := Goto.hs HB hb; (try clear hb); (try clear hb2); (try clear hk); (try clear hi); (try simp only [errW_none, errW_some]); have hcz6_0 := Goto.bc0 BK172; have hcz6_1 := Goto.bc1 BK172; have hcz6_2 := Goto.bc2 BK172; have hcz6_3 := Goto.bc3 BK172; have hfz6_0 := Goto.bf BK172 0; have hfz6_1 := Goto.bf BK172 1; have hfz6_2 := Goto.bf BK172 2; have hfz6_3 := Goto.bf BK172 3))
  go_ret
  exact ⟨Goto.er, by repeat (first | (with_reducible first | exact HB.out | apply below_alloc | apply pw_below_drewN | apply below_drew1 | refine below_set ?_ GE172.out) | exact HB.out)⟩
 ·
  have H1 : (some 0) = some r := by rw [if_neg (show ¬ (some q174).isNone = true by simp)] at H; exact H
  clear H; have H := H1; clear H1
  try simp only [errW_none, errW_some]
  obtain rfl := Option.some.inj H
  go_enter Tryd.func9, Tryd.ntmps9
  go_wp2_with (first | ((with_reducible refine gate_dst (N := 1) rfl ?_); refine box_event ?hg (N := 1) ?hd (cs := #[.int .i64 a0_0, .int .i64 a0_1, .slice A0_2 l0_2.length c0_2, .slice A0_3 l0_3.length c0_3]) (t := 25) ?hr ?_; (case hd => rfl); (case hg => rfl); (case hr => first | (go_simp; done) | (go_simp; rfl)); intro gb172 hg w7 hbox hb; have BK172 := Goto.m0 (hbox); have GW172 := Goto.gs HB hg; have GE172 := Goto.gs HB hg; replace HB := Goto.hs HB hb; clear hb hbox hg; have hcz8_0 := Goto.bc0 BK172; have hcz8_1 := Goto.bc1 BK172; have hcz8_2 := Goto.bc2 BK172; have hcz8_3 := Goto.bc3 BK172; have hfz8_0 := Goto.bf BK172 0; have hfz8_1 := Goto.bf BK172 1; have hfz8_2 := Goto.bf BK172 2; have hfz8_3 := Goto.bf BK172 3) | ((first | (with_reducible refine gate_callee (f := 7) rfl ?_) | (with_reducible refine Goto.gate_calleeF rfl ?_)); (first | refine goesL_ (some 4) rfl rfl Tryd.func7 (by kernel_rfl) rfl #[.agg #[.int .i64 a0_0, .int .i64 a0_1, .slice A0_2 l0_2.length c0_2, .slice A0_3 l0_3.length c0_3]] rfl (by (try simp only [List.map_toArray, List.map_cons, List.map_nil]); first | done | rfl | (simp only [List.length_drop, List.length_take]; rfl)) ?_ | refine Goto.goesF_ (some 4) rfl rfl Tryd.func7 (by kernel_rfl) rfl #[.agg #[.int .i64 a0_0, .int .i64 a0_1, .slice A0_2 l0_2.length c0_2, .slice A0_3 l0_3.length c0_3]] rfl (by (try simp only [List.map_toArray, List.map_cons, List.map_nil]); first | done | rfl | (simp only [List.length_drop, List.length_take]; rfl)) ?_); (with_reducible refine (conf_Is.calls k a0_0 a0_1 _ _ l0_2 _ _ l0_3 (some q174) _ ?side1 ?side2 ?side3 ?side4 A2.out).mono ?_); (case side1 => repeat (first | exact (Kd.C_below HR0_2.out HB.out) | (with_reducible refine Kd.C_alloc ?_ _) | (with_reducible refine Kd.C_drewN ?_ _) | (with_reducible refine Kd.C_drew ?_))); (case side2 => exact HC0_2.out); (case side3 => repeat (first | exact (Kd.C_below HR0_3.out HB.out) | (with_reducible refine Kd.C_alloc ?_ _) | (with_reducible refine Kd.C_drewN ?_ _) | (with_reducible refine Kd.C_drew ?_))); (case side4 => exact HC0_3.out); rintro e w9 ⟨rfl, hb⟩; refine ⟨_, rfl, ?_⟩; replace BK172 := Goto.bb BK172 hb; replace HB := Goto.hs HB hb; (try clear hb); (try clear hb2); (try clear hk); (try clear hi); (try simp only [errW_none, errW_some])))
  go_ret
  exact ⟨Goto.er, by repeat (first | (with_reducible first | exact HB.out | apply below_alloc | apply pw_below_drewN | apply below_drew1 | refine below_set ?_ GE172.out) | exact HB.out)⟩

/-! ### slices_Equal_int_int: function 25 -/
def slices_Equal_int_int.l0 : Nat → List Int → List Int → Int → Int → Option (Bool)
  | 0, _, _, _, _ => none
  | k + 1, x0, x1, x12, x13 => if x13 < x12 then (if 0 ≤ x13 then (if x13 < (x0.length : Int) then (if x13 < (x1.length : Int) then (if (rd x0 x13) = (rd x1 x13) then (slices_Equal_int_int.l0 k x0 x1 x12 (wrap64 (x13 + 1))) else (some false)) else (none)) else (none)) else (none)) else (some true)
def slices_Equal_int_int.f (k : Nat) (l0 : List Int) (l1 : List Int) : Option (Bool) := if (l0.length : Int) = (l1.length : Int) then (slices_Equal_int_int.l0 k l0 l1 (l0.length : Int) 0) else (some false)
set_option maxHeartbeats 8000000 in
set_option maxRecDepth 100000 in
theorem slices_Equal_int_int.calls (k : Nat) (A0 : Option Addr) (c0 : Nat) (l0 : List Int) (A1 : Option Addr) (c1 : Nat) (l1 : List Int) (r : Bool) (w : World) (hr0 : Kd.C (Kd.int .i64) w A0 l0.length l0) (hc0 : l0.length ≤ c0) (hr1 : Kd.C (Kd.int .i64) w A1 l1.length l1) (hc1 : l1.length ≤ c1) (h : slices_Equal_int_int.f k l0 l1 = some r) :
    Calls Tryd.prog 25 #[.slice A0 l0.length c0, .slice A1 l1.length c1] w fun e w' => e = .returned (.bool r) ∧ Drawn0 w w' := by
 have HR0 := Goto.m0 hr0
 have HC0 := Goto.m0 hc0
 clear hr0 hc0
 have HR1 := Goto.m0 hr1
 have HC1 := Goto.m0 hc1
 clear hr1 hc1
 have H : (if (l0.length : Int) = (l1.length : Int) then (slices_Equal_int_int.l0 k l0 l1 (l0.length : Int) 0) else (some false)) = some r := h
 clear h
 by_cases c3 : (l0.length : Int) = (l1.length : Int)
 ·
  rw [if_pos c3] at H
  have c3b0 : ((l0.length : Int) == (l1.length : Int)) = true := beq_iff_eq.mpr c3
  have c3b1 : ((l0.length : Int) != (l1.length : Int)) = false := bne_eq_false_iff_eq.mpr c3
  have c3b2 : (l0.length == l1.length) = true := by first | simpa using c3 | (simp at c3 ⊢; omega)
  clear c3
  have H' := Goto.m0 H
  clear H
  go_enter Tryd.func25, Tryd.ntmps25
  go_wp2
  repeat (go_quiet (fail); try go_wp2)
  go_loopg [13] k (fun kq v13 w' => ∃ (x13_1 : Int), v13 = .int .i64 x13_1 ∧ Aside0 (slices_Equal_int_int.l0 kq l0 l1 (l0.length : Int) x13_1 = some r) ∧ Aside0 (kq ≤ k) ∧ Drawn0 w w')
  case atStart => exact ⟨(0), (by first | rfl | (simp; done) | (simp [*]; done)), H', ⟨Nat.le_refl _⟩, by repeat (first | exact Drawn0.refl _ | apply Drawn0.step)⟩
  case round =>
   clear H'
   try clear c1; try clear c2; try clear p2; try clear c3; try clear c3b0; try clear c3b1; try clear c3b2
   obtain ⟨x13_1, rfl, HA, HK1, ⟨m1, rfl⟩⟩ := hrel
   cases gk with
   | zero => exact absurd HA.out (by simp [slices_Equal_int_int.l0])
   | succ k1 =>
    have H := HA.out; clear HA
    simp only [slices_Equal_int_int.l0] at H
    by_cases c4 : x13_1 < (l0.length : Int)
    ·
     rw [if_pos c4] at H
     have c4b0 : decide (x13_1 < (l0.length : Int)) = true := decide_eq_true c4
     clear c4
     by_cases c5 : 0 ≤ x13_1
     ·
      rw [if_pos c5] at H
      have c5b0 : decide (0 ≤ x13_1) = true := decide_eq_true c5
      clear c5
      by_cases c6 : x13_1 < (l0.length : Int)
      ·
       rw [if_pos c6] at H
       have c6b0 : decide (x13_1 < (l0.length : Int)) = true := decide_eq_true c6
       clear c6
       by_cases c7 : x13_1 < (l1.length : Int)
       ·
        rw [if_pos c7] at H
        have c7b0 : decide (x13_1 < (l1.length : Int)) = true := decide_eq_true c7
        clear c7
        by_cases c8 : (rd l0 x13_1) = (rd l1 x13_1)
        ·
         rw [if_pos c8] at H
         have c8b0 : ((rd l0 x13_1) == (rd l1 x13_1)) = true := beq_iff_eq.mpr c8
         have c8b1 : ((rd l0 x13_1) != (rd l1 x13_1)) = false := bne_eq_false_iff_eq.mpr c8
         clear c8
         have H' := Goto.m0 H
         clear H
         have p175 : 0 ≤ (x13_1 : Int) := Goto.od
         have q175 : x13_1 < (l0.length : Int) := Goto.od
         obtain ⟨ad175, e175, hx175_0⟩ := Kd.at_int HR0.out x13_1 p175 q175
         cases e175
         replace p175 := eq_true p175; replace q175 := eq_true q175
         have p176 : 0 ≤ (x13_1 : Int) := Goto.od
         have q176 : x13_1 < (l1.length : Int) := Goto.od
         obtain ⟨ad176, e176, hx176_0⟩ := Kd.at_int HR1.out x13_1 p176 q176
         cases e176
         replace p176 := eq_true p176; replace q176 := eq_true q176
         go_wp2
         repeat (go_quiet (fail); try go_wp2)
         go_roundg k1
         case measure => have := HK1.out; omega
         case rel => exact ⟨(wrap64 (x13_1 + 1)), (by first | rfl | (simp; done) | (simp [*]; done)), H', ⟨by have := HK1.out; omega⟩, by repeat (first | exact Drawn0.refl _ | apply Drawn0.step)⟩
        ·
         rw [if_neg c8] at H
         have c8b0 : ((rd l0 x13_1) == (rd l1 x13_1)) = false := beq_eq_false_iff_ne.mpr c8
         have c8b1 : ((rd l0 x13_1) != (rd l1 x13_1)) = true := bne_iff_ne.mpr c8
         obtain rfl := Option.some.inj H
         have p175 : 0 ≤ (x13_1 : Int) := Goto.od
         have q175 : x13_1 < (l0.length : Int) := Goto.od
         obtain ⟨ad175, e175, hx175_0⟩ := Kd.at_int HR0.out x13_1 p175 q175
         cases e175
         replace p175 := eq_true p175; replace q175 := eq_true q175
         have p176 : 0 ≤ (x13_1 : Int) := Goto.od
         have q176 : x13_1 < (l1.length : Int) := Goto.od
         obtain ⟨ad176, e176, hx176_0⟩ := Kd.at_int HR1.out x13_1 p176 q176
         cases e176
         replace p176 := eq_true p176; replace q176 := eq_true q176
         go_wp2
         repeat (go_quiet (fail); try go_wp2)
         go_ret
         exact ⟨by first | rfl | (simp; done) | (simp [*]; done), by repeat (first | exact Drawn0.refl _ | apply Drawn0.step)⟩
       ·
        rw [if_neg c7] at H
        exact absurd H (by simp)
      ·
       rw [if_neg c6] at H
       exact absurd H (by simp)
     ·
      rw [if_neg c5] at H
      exact absurd H (by simp)
    ·
     rw [if_neg c4] at H
     have c4b0 : decide (x13_1 < (l0.length : Int)) = false := decide_eq_false c4
     clear c4
     obtain rfl := Option.some.inj H
     go_wp2
     repeat (go_quiet (fail); try go_wp2)
     go_ret
     exact ⟨by first | rfl | (simp; done) | (simp [*]; done), by repeat (first | exact Drawn0.refl _ | apply Drawn0.step)⟩
 ·
  rw [if_neg c3] at H
  have c3b0 : ((l0.length : Int) == (l1.length : Int)) = false := beq_eq_false_iff_ne.mpr c3
  have c3b1 : ((l0.length : Int) != (l1.length : Int)) = true := bne_iff_ne.mpr c3
  have c3b2 : (l0.length == l1.length) = false := by first | simpa using c3 | (simp at c3 ⊢; omega)
  obtain rfl := Option.some.inj H
  go_enter Tryd.func25, Tryd.ntmps25
  go_wp2
  repeat (go_quiet (fail); try go_wp2)
  go_ret
  exact ⟨by first | rfl | (simp; done) | (simp [*]; done), by repeat (first | exact Drawn0.refl _ | apply Drawn0.step)⟩

/-! ### slices_EqualFunc_int_int_int_int: function 24 -/
def slices_EqualFunc_int_int_int_int.l0 : Nat → List (List Int) → List (List Int) → Int → Int → Option (Bool)
  | 0, _, _, _, _ => none
  | k + 1, x1, x15, x16, x17 => if x17 < x16 then (if 0 ≤ x17 then (if x17 < (x15.length : Int) then (if x17 < (x1.length : Int) then ((slices_Equal_int_int.f k (rd_L3 x15 x17) (rd_L3 x1 x17)).bind fun t179 => (if t179 = true then (slices_EqualFunc_int_int_int_int.l0 k x1 x15 x16 (wrap64 (x17 + 1))) else (some false))) else (none)) else (none)) else (none)) else (some true)
def slices_EqualFunc_int_int_int_int.f (k : Nat) (l0 : List (List Int)) (l1 : List (List Int)) (a2 : Unit) : Option (Bool) := if (l0.length : Int) = (l1.length : Int) then (slices_EqualFunc_int_int_int_int.l0 k l1 l0 (l0.length : Int) 0) else (some false)
set_option maxHeartbeats 8000000 in
set_option maxRecDepth 100000 in
theorem slices_EqualFunc_int_int_int_int.calls (k : Nat) (A0 : Option Addr) (c0 : Nat) (l0 : List (List Int)) (A1 : Option Addr) (c1 : Nat) (l1 : List (List Int)) (a2 : Unit) (r : Bool) (w : World) (hr0 : Kd.C (Kd.slice 3 (Kd.int .i64)) w A0 l0.length l0) (hc0 : l0.length ≤ c0) (hr1 : Kd.C (Kd.slice 3 (Kd.int .i64)) w A1 l1.length l1) (hc1 : l1.length ≤ c1) (h : slices_EqualFunc_int_int_int_int.f k l0 l1 a2 = some r) :
    Calls Tryd.prog 24 #[.slice A0 l0.length c0, .slice A1 l1.length c1, .func (.func 25) #[] #[]] w fun e w' => e = .returned (.bool r) ∧ Drawn0 w w' := by
 have HR0 := Goto.m0 hr0
 have HC0 := Goto.m0 hc0
 clear hr0 hc0
 have HR1 := Goto.m0 hr1
 have HC1 := Goto.m0 hc1
 clear hr1 hc1
 have H : (if (l0.length : Int) = (l1.length : Int) then (slices_EqualFunc_int_int_int_int.l0 k l1 l0 (l0.length : Int) 0) else (some false)) = some r := h
 clear h
 by_cases c4 : (l0.length : Int) = (l1.length : Int)
 ·
  rw [if_pos c4] at H
  have c4b0 : ((l0.length : Int) == (l1.length : Int)) = true := beq_iff_eq.mpr c4
  have c4b1 : ((l0.length : Int) != (l1.length : Int)) = false := bne_eq_false_iff_eq.mpr c4
  have c4b2 : (l0.length == l1.length) = true := by first | simpa using c4 | (simp at c4 ⊢; omega)
  clear c4
  have H' := Goto.m0 H
  clear H
  go_enter Tryd.func24, Tryd.ntmps24
  go_wp2
  go_loopg [17] k (fun kq v17 w' => ∃ (x17_1 : Int), v17 = .int .i64 x17_1 ∧ Aside0 (slices_EqualFunc_int_int_int_int.l0 kq l1 l0 (l0.length : Int) x17_1 = some r) ∧ Aside0 (kq ≤ k) ∧ Drawn0 w w')
  case atStart => exact ⟨(0), (by first | rfl | (simp; done) | (simp [*]; done)), H', ⟨Nat.le_refl _⟩, by repeat (first | exact Drawn0.refl _ | apply Drawn0.step)⟩
  case round =>
   clear H'
   try clear c1; try clear c2; try clear p2; try clear c4; try clear c4b0; try clear c4b1; try clear c4b2
   obtain ⟨x17_1, rfl, HA, HK1, ⟨m1, rfl⟩⟩ := hrel
   cases gk with
   | zero => exact absurd HA.out (by simp [slices_EqualFunc_int_int_int_int.l0])
   | succ k1 =>
    have H := HA.out; clear HA
    simp only [slices_EqualFunc_int_int_int_int.l0] at H
    by_cases c5 : x17_1 < (l0.length : Int)
    ·
     rw [if_pos c5] at H
     have c5b0 : decide (x17_1 < (l0.length : Int)) = true := decide_eq_true c5
     clear c5
     by_cases c6 : 0 ≤ x17_1
     ·
      rw [if_pos c6] at H
      have c6b0 : decide (0 ≤ x17_1) = true := decide_eq_true c6
      clear c6
      by_cases c7 : x17_1 < (l0.length : Int)
      ·
       rw [if_pos c7] at H
       have c7b0 : decide (x17_1 < (l0.length : Int)) = true := decide_eq_true c7
       clear c7
       by_cases c8 : x17_1 < (l1.length : Int)
       ·
        rw [if_pos c8] at H
        have c8b0 : decide (x17_1 < (l1.length : Int)) = true := decide_eq_true c8
        clear c8
        replace H := Option.bind_eq_some_iff.mp H
        obtain ⟨t179, A90, H⟩ := H
        have A9 := Goto.m0 A90
        clear A90
        by_cases c10 : t179 = true
        ·
         subst c10
         rw [if_pos rfl] at H
         have H' := Goto.m0 H
         clear H
         have p177 : 0 ≤ (x17_1 : Int) := Goto.od
         have q177 : x17_1 < (l0.length : Int) := Goto.od
         obtain ⟨ad177, A177_0, c177_0, e177, hx177_0, hl177_0, hi177_0⟩ := at_L3 HR0.out x17_1 p177 q177
         cases e177
         have HR177_0 := Goto.m0 hi177_0
         have HC177_0 := Goto.m0 hl177_0
         clear hi177_0 hl177_0; replace p177 := eq_true p177; replace q177 := eq_true q177
         have p178 : 0 ≤ (x17_1 : Int) := Goto.od
         have q178 : x17_1 < (l1.length : Int) := Goto.od
         obtain ⟨ad178, A178_0, c178_0, e178, hx178_0, hl178_0, hi178_0⟩ := at_L3 HR1.out x17_1 p178 q178
         cases e178
         have HR178_0 := Goto.m0 hi178_0
         have HC178_0 := Goto.m0 hl178_0
         clear hi178_0 hl178_0; replace p178 := eq_true p178; replace q178 := eq_true q178
         go_wp2_with (first | ((first | (with_reducible refine gate_callee (f := 25) rfl ?_) | (with_reducible refine Goto.gate_calleeF rfl ?_)); (first | refine goesL_ (some 29) rfl rfl Tryd.func25 (by kernel_rfl) rfl #[.slice A177_0 (rd_L3 l0 x17_1).length c177_0, .slice A178_0 (rd_L3 l1 x17_1).length c178_0] rfl (by (try simp only [List.map_toArray, List.map_cons, List.map_nil]); first | done | rfl | (simp only [List.length_drop, List.length_take]; rfl)) ?_ | refine Goto.goesF_ (some 29) rfl rfl Tryd.func25 (by kernel_rfl) rfl #[.slice A177_0 (rd_L3 l0 x17_1).length c177_0, .slice A178_0 (rd_L3 l1 x17_1).length c178_0] rfl (by (try simp only [List.map_toArray, List.map_cons, List.map_nil]); first | done | rfl | (simp only [List.length_drop, List.length_take]; rfl)) ?_); (with_reducible refine (slices_Equal_int_int.calls k1 _ _ (rd_L3 l0 x17_1) _ _ (rd_L3 l1 x17_1) true _ ?side1 ?side2 ?side3 ?side4 A9.out).mono ?_); (case side1 => repeat (first | exact HR177_0.out | (with_reducible refine Kd.C_alloc ?_ _) | (with_reducible refine Kd.C_drewN ?_ _) | (with_reducible refine Kd.C_drew ?_))); (case side2 => exact HC177_0.out); (case side3 => repeat (first | exact HR178_0.out | (with_reducible refine Kd.C_alloc ?_ _) | (with_reducible refine Kd.C_drewN ?_ _) | (with_reducible refine Kd.C_drew ?_))); (case side4 => exact HC178_0.out); rintro e w' ⟨rfl, ⟨nd, rfl⟩⟩; refine ⟨_, rfl, ?_⟩))
         go_roundg k1
         case measure => have := HK1.out; omega
         case rel => exact ⟨(wrap64 (x17_1 + 1)), (by first | rfl | (simp; done) | (simp [*]; done)), H', ⟨by have := HK1.out; omega⟩, by repeat (first | exact Drawn0.refl _ | apply Drawn0.step)⟩
        ·
         replace c10 := Bool.eq_false_iff.mpr c10
         subst c10
         rw [if_neg (show ¬ (false = true) by decide)] at H
         obtain rfl := Option.some.inj H
         have p177 : 0 ≤ (x17_1 : Int) := Goto.od
         have q177 : x17_1 < (l0.length : Int) := Goto.od
         obtain ⟨ad177, A177_0, c177_0, e177, hx177_0, hl177_0, hi177_0⟩ := at_L3 HR0.out x17_1 p177 q177
         cases e177
         have HR177_0 := Goto.m0 hi177_0
         have HC177_0 := Goto.m0 hl177_0
         clear hi177_0 hl177_0; replace p177 := eq_true p177; replace q177 := eq_true q177
         have p178 : 0 ≤ (x17_1 : Int) := Goto.od
         have q178 : x17_1 < (l1.length : Int) := Goto.od
         obtain ⟨ad178, A178_0, c178_0, e178, hx178_0, hl178_0, hi178_0⟩ := at_L3 HR1.out x17_1 p178 q178
         cases e178
         have HR178_0 := Goto.m0 hi178_0
         have HC178_0 := Goto.m0 hl178_0
         clear hi178_0 hl178_0; replace p178 := eq_true p178; replace q178 := eq_true q178
         go_wp2_with (first | ((first | (with_reducible refine gate_callee (f := 25) rfl ?_) | (with_reducible refine Goto.gate_calleeF rfl ?_)); (first | refine goesL_ (some 29) rfl rfl Tryd.func25 (by kernel_rfl) rfl #[.slice A177_0 (rd_L3 l0 x17_1).length c177_0, .slice A178_0 (rd_L3 l1 x17_1).length c178_0] rfl (by (try simp only [List.map_toArray, List.map_cons, List.map_nil]); first | done | rfl | (simp only [List.length_drop, List.length_take]; rfl)) ?_ | refine Goto.goesF_ (some 29) rfl rfl Tryd.func25 (by kernel_rfl) rfl #[.slice A177_0 (rd_L3 l0 x17_1).length c177_0, .slice A178_0 (rd_L3 l1 x17_1).length c178_0] rfl (by (try simp only [List.map_toArray, List.map_cons, List.map_nil]); first | done | rfl | (simp only [List.length_drop, List.length_take]; rfl)) ?_); (with_reducible refine (slices_Equal_int_int.calls k1 _ _ (rd_L3 l0 x17_1) _ _ (rd_L3 l1 x17_1) false _ ?side1 ?side2 ?side3 ?side4 A9.out).mono ?_); (case side1 => repeat (first | exact HR177_0.out | (with_reducible refine Kd.C_alloc ?_ _) | (with_reducible refine Kd.C_drewN ?_ _) | (with_reducible refine Kd.C_drew ?_))); (case side2 => exact HC177_0.out); (case side3 => repeat (first | exact HR178_0.out | (with_reducible refine Kd.C_alloc ?_ _) | (with_reducible refine Kd.C_drewN ?_ _) | (with_reducible refine Kd.C_drew ?_))); (case side4 => exact HC178_0.out); rintro e w' ⟨rfl, ⟨nd, rfl⟩⟩; refine ⟨_, rfl, ?_⟩))
         go_ret
         exact ⟨by first | rfl | (simp; done) | (simp [*]; done), by repeat (first | exact Drawn0.refl _ | apply Drawn0.step)⟩
       ·
        rw [if_neg c8] at H
        exact absurd H (by simp)
      ·
       rw [if_neg c7] at H
       exact absurd H (by simp)
     ·
      rw [if_neg c6] at H
      exact absurd H (by simp)
    ·
     rw [if_neg c5] at H
     have c5b0 : decide (x17_1 < (l0.length : Int)) = false := decide_eq_false c5
     clear c5
     obtain rfl := Option.some.inj H
     go_wp2
     go_ret
     exact ⟨by first | rfl | (simp; done) | (simp [*]; done), by repeat (first | exact Drawn0.refl _ | apply Drawn0.step)⟩
 ·
  rw [if_neg c4] at H
  have c4b0 : ((l0.length : Int) == (l1.length : Int)) = false := beq_eq_false_iff_ne.mpr c4
  have c4b1 : ((l0.length : Int) != (l1.length : Int)) = true := bne_iff_ne.mpr c4
  have c4b2 : (l0.length == l1.length) = false := by first | simpa using c4 | (simp at c4 ⊢; omega)
  obtain rfl := Option.some.inj H
  go_enter Tryd.func24, Tryd.ntmps24
  go_wp2
  go_ret
  exact ⟨by first | rfl | (simp; done) | (simp [*]; done), by repeat (first | exact Drawn0.refl _ | apply Drawn0.step)⟩

end Go.Proofs.YtjgdcifbhmjinaaDoor.P
