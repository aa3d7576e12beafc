/- Printed by a program of this workplace (a turned copy of the kit's optional print), out of the translation; not trusted: Lean checks it. -/
import Derived.Test.YtjgdcifbhmjinaaDoorPx0
import Derived.Test.YtjgdcifbhmjinaaDoorPx1
import Derived.Test.YtjgdcifbhmjinaaDoorPx9
import Derived.Test.YtjgdcifbhmjinaaDoorPx10
namespace Go.Proofs.YtjgdcifbhmjinaaDoor.P
open Go.RowKit Go.Proofs.YtjgdcifbhmjinaaDoorW.PrintWords Go.Proofs.YtjgdcifbhmjinaaDoorW.PrintLast Go.Proofs.YtjgdcifbhmjinaaDoorW.PrintMore
attribute [local go_sem] max2_int min2_int max_two min_two max_three min_three max_four min_four   -- for this text's walks alone
set_option linter.unusedVariables false
set_option linter.unusedSimpArgs false

attribute [local go_sem high] eqA38
/-! ### tontineref1_routes: function 23 -/
mutual
def tontineref1_routes.j0 : Nat → Bool → Int → Int → List (List Int) → List (S40) → Int → Int → List (List Int) → List Int → Int → Int → Int → Int → Int → Int → Option (Bool)
  | 0, _, _, _, _, _, _, _, _, _, _, _, _, _, _, _ => none
  | k + 1, x50, x260000, x260001, x260002, x260003, x262000, x262001, x262002, x262003, x262004, x262005, x262006, x262007, x262008, x262009 => if x50 = true then (some false) else (tontineref1_routes.l0 k 0 x260000 x260001 x260002 x260003 x262000 x262001 x262002 x262003 x262004 x262005 x262006 x262007 x262008 x262009)
def tontineref1_routes.l0 : Nat → Int → Int → Int → List (List Int) → List (S40) → Int → Int → List (List Int) → List Int → Int → Int → Int → Int → Int → Int → Option (Bool)
  | 0, _, _, _, _, _, _, _, _, _, _, _, _, _, _, _ => none
  | k + 1, x6, x260000, x260001, x260002, x260003, x262000, x262001, x262002, x262003, x262004, x262005, x262006, x262007, x262008, x262009 => if x6 < (x262002.length : Int) then (tontineref1_routes.l1 k x6 (([(⟨x262000, x262001⟩ : S38)] : List (S38))) 0 x260000 x260001 x260002 x260003 x262000 x262001 x262002 x262003 x262004 x262005 x262006 x262007 x262008 x262009) else (if x262004 = (-1) then (some true) else (tontineref1_routes.l2 k 0 x260000 x260001 x260002 x260003 x262000 x262001 x262002 x262003 x262004 x262005 x262006 x262007 x262008 x262009))
def tontineref1_routes.l1 : Nat → Int → List (S38) → Int → Int → Int → List (List Int) → List (S40) → Int → Int → List (List Int) → List Int → Int → Int → Int → Int → Int → Int → Option (Bool)
  | 0, _, _, _, _, _, _, _, _, _, _, _, _, _, _, _, _, _ => none
  | k + 1, x6, x7, x8, x260000, x260001, x260002, x260003, x262000, x262001, x262002, x262003, x262004, x262005, x262006, x262007, x262008, x262009 => if 0 ≤ x6 then (if x6 < (x262002.length : Int) then (if x8 < ((rd_L3 x262002 x6).length : Int) then (if 0 ≤ x8 then ((tontineref1_within.f (rd (rd_L3 x262002 x6) x8) 0 (wrap64 ((x260003.length : Int) - 1))).bind fun t268 => (if t268 = true then (if x8 > 300 then (some false) else (if 0 ≤ (rd (rd_L3 x262002 x6) x8) then (if (rd (rd_L3 x262002 x6) x8) < (x260003.length : Int) then (if x7.length < 8796093022208 then (tontineref1_routes.l1 k x6 (x7 ++ [(⟨(rd_T40 x260003 (rd (rd_L3 x262002 x6) x8)).f0.f0, (rd_T40 x260003 (rd (rd_L3 x262002 x6) x8)).f0.f1⟩ : S38)]) (wrap64 (x8 + 1)) x260000 x260001 x260002 x260003 x262000 x262001 x262002 x262003 x262004 x262005 x262006 x262007 x262008 x262009) else (none)) else (none)) else (none))) else (some false))) else (none)) else (if (x7.length : Int) = 1 then (some false) else ((tontineref1_Chain.f k x7).bind fun t273 => (if t273 = true then (tontineref1_routes.l0 k (wrap64 (x6 + 1)) x260000 x260001 x260002 x260003 x262000 x262001 x262002 x262003 x262004 x262005 x262006 x262007 x262008 x262009) else (some false))))) else (none)) else (none)
def tontineref1_routes.l2 : Nat → Int → Int → Int → List (List Int) → List (S40) → Int → Int → List (List Int) → List Int → Int → Int → Int → Int → Int → Int → Option (Bool)
  | 0, _, _, _, _, _, _, _, _, _, _, _, _, _, _, _ => none
  | k + 1, x10, x260000, x260001, x260002, x260003, x262000, x262001, x262002, x262003, x262004, x262005, x262006, x262007, x262008, x262009 => if x10 < (x262003.length : Int) then (if 0 ≤ x10 then ((tontineref1_within.f (rd x262003 x10) 0 x260000).bind fun t279 => (if t279 = true then (tontineref1_routes.l2 k (wrap64 (x10 + 1)) x260000 x260001 x260002 x260003 x262000 x262001 x262002 x262003 x262004 x262005 x262006 x262007 x262008 x262009) else (some false))) else (none)) else (if 0 ≤ x262004 then (if x262004 < (x260003.length : Int) then ((tontineref1_within.f (x262003.length : Int) 1 4).bind fun t276 => (if t276 = true then ((tontineref1_Leq.f ((rd_T40 x260003 x262004).f0.f0) ((rd_T40 x260003 x262004).f0.f1) x262000 x262001).bind fun t277 => (if t277 = true then (some (!(((rd_T40 x260003 x262004).f0.f0) == x262000) || (!(((rd_T40 x260003 x262004).f0.f1) == x262001)))) else (some false))) else (some false))) else (none)) else (none))
end
def tontineref1_routes.f (k : Nat) (a0_0 : Int) (a0_1 : Int) (l0_2 : List (List Int)) (l0_3 : List (S40)) (a1 : Int) : Option (Bool) := if 0 ≤ a1 then (if a1 < (l0_3.length : Int) then (if (((rd_T40 l0_3 a1).f1).length : Int) > 3 then (tontineref1_routes.j0 k true a0_0 a0_1 l0_2 l0_3 ((rd_T40 l0_3 a1).f0.f0) ((rd_T40 l0_3 a1).f0.f1) ((rd_T40 l0_3 a1).f1) ((rd_T40 l0_3 a1).f2) ((rd_T40 l0_3 a1).f3) ((rd_T40 l0_3 a1).f4) ((rd_T40 l0_3 a1).f5) ((rd_T40 l0_3 a1).f6) ((rd_T40 l0_3 a1).f7) ((rd_T40 l0_3 a1).f8)) else (if ((rd_T40 l0_3 a1).f3) < (-1) then (tontineref1_routes.j0 k true a0_0 a0_1 l0_2 l0_3 ((rd_T40 l0_3 a1).f0.f0) ((rd_T40 l0_3 a1).f0.f1) ((rd_T40 l0_3 a1).f1) ((rd_T40 l0_3 a1).f2) ((rd_T40 l0_3 a1).f3) ((rd_T40 l0_3 a1).f4) ((rd_T40 l0_3 a1).f5) ((rd_T40 l0_3 a1).f6) ((rd_T40 l0_3 a1).f7) ((rd_T40 l0_3 a1).f8)) else (if ((rd_T40 l0_3 a1).f3) ≥ (l0_3.length : Int) then (tontineref1_routes.j0 k true a0_0 a0_1 l0_2 l0_3 ((rd_T40 l0_3 a1).f0.f0) ((rd_T40 l0_3 a1).f0.f1) ((rd_T40 l0_3 a1).f1) ((rd_T40 l0_3 a1).f2) ((rd_T40 l0_3 a1).f3) ((rd_T40 l0_3 a1).f4) ((rd_T40 l0_3 a1).f5) ((rd_T40 l0_3 a1).f6) ((rd_T40 l0_3 a1).f7) ((rd_T40 l0_3 a1).f8)) else (if ((rd_T40 l0_3 a1).f3) = a1 then (tontineref1_routes.j0 k true a0_0 a0_1 l0_2 l0_3 ((rd_T40 l0_3 a1).f0.f0) ((rd_T40 l0_3 a1).f0.f1) ((rd_T40 l0_3 a1).f1) ((rd_T40 l0_3 a1).f2) ((rd_T40 l0_3 a1).f3) ((rd_T40 l0_3 a1).f4) ((rd_T40 l0_3 a1).f5) ((rd_T40 l0_3 a1).f6) ((rd_T40 l0_3 a1).f7) ((rd_T40 l0_3 a1).f8)) else (if ((rd_T40 l0_3 a1).f3) = (-1) then (tontineref1_routes.j0 k (decide ((((rd_T40 l0_3 a1).f2).length : Int) > 0)) a0_0 a0_1 l0_2 l0_3 ((rd_T40 l0_3 a1).f0.f0) ((rd_T40 l0_3 a1).f0.f1) ((rd_T40 l0_3 a1).f1) ((rd_T40 l0_3 a1).f2) ((rd_T40 l0_3 a1).f3) ((rd_T40 l0_3 a1).f4) ((rd_T40 l0_3 a1).f5) ((rd_T40 l0_3 a1).f6) ((rd_T40 l0_3 a1).f7) ((rd_T40 l0_3 a1).f8)) else (tontineref1_routes.j0 k false a0_0 a0_1 l0_2 l0_3 ((rd_T40 l0_3 a1).f0.f0) ((rd_T40 l0_3 a1).f0.f1) ((rd_T40 l0_3 a1).f1) ((rd_T40 l0_3 a1).f2) ((rd_T40 l0_3 a1).f3) ((rd_T40 l0_3 a1).f4) ((rd_T40 l0_3 a1).f5) ((rd_T40 l0_3 a1).f6) ((rd_T40 l0_3 a1).f7) ((rd_T40 l0_3 a1).f8))))))) else (none)) else (none)
set_option maxHeartbeats 8000000 in
set_option maxRecDepth 100000 in
theorem tontineref1_routes.calls (k : Nat) (a0_0 : Int) (a0_1 : Int) (A0_2 : Option Addr) (c0_2 : Nat) (l0_2 : List (List Int)) (A0_3 : Option Addr) (c0_3 : Nat) (l0_3 : List (S40)) (a1 : Int) (r : Bool) (w : World) (hr0_2 : Kd.C (Kd.slice 3 (Kd.int .i64)) w A0_2 l0_2.length l0_2) (hc0_2 : l0_2.length ≤ c0_2) (hr0_3 : Kd.C k40 w A0_3 l0_3.length l0_3) (hc0_3 : l0_3.length ≤ c0_3) (h : tontineref1_routes.f k a0_0 a0_1 l0_2 l0_3 a1 = some r) :
    Calls Tryd.prog 23 #[.agg #[.int .i64 a0_0, .int .i64 a0_1, .slice A0_2 l0_2.length c0_2, .slice A0_3 l0_3.length c0_3], .int .i64 a1] w fun e w' => e = .returned (.bool r) ∧ Below w.heap.size w w' := by
 have hu25 := Tryd.underlying25; have hu40 := Tryd.underlying40; have hu38 := Tryd.underlying38
 have HR0_2 := Goto.m0 hr0_2
 have HC0_2 := Goto.m0 hc0_2
 clear hr0_2 hc0_2
 have HR0_3 := Goto.m0 hr0_3
 have HC0_3 := Goto.m0 hc0_3
 clear hr0_3 hc0_3
 have HB := Goto.m0 (Below.refl w.heap.size w)
 have H : (if 0 ≤ a1 then (if a1 < (l0_3.length : Int) then (if (((rd_T40 l0_3 a1).f1).length : Int) > 3 then (tontineref1_routes.j0 k true a0_0 a0_1 l0_2 l0_3 ((rd_T40 l0_3 a1).f0.f0) ((rd_T40 l0_3 a1).f0.f1) ((rd_T40 l0_3 a1).f1) ((rd_T40 l0_3 a1).f2) ((rd_T40 l0_3 a1).f3) ((rd_T40 l0_3 a1).f4) ((rd_T40 l0_3 a1).f5) ((rd_T40 l0_3 a1).f6) ((rd_T40 l0_3 a1).f7) ((rd_T40 l0_3 a1).f8)) else (if ((rd_T40 l0_3 a1).f3) < (-1) then (tontineref1_routes.j0 k true a0_0 a0_1 l0_2 l0_3 ((rd_T40 l0_3 a1).f0.f0) ((rd_T40 l0_3 a1).f0.f1) ((rd_T40 l0_3 a1).f1) ((rd_T40 l0_3 a1).f2) ((rd_T40 l0_3 a1).f3) ((rd_T40 l0_3 a1).f4) ((rd_T40 l0_3 a1).f5) ((rd_T40 l0_3 a1).f6) ((rd_T40 l0_3 a1).f7) ((rd_T40 l0_3 a1).f8)) else (if ((rd_T40 l0_3 a1).f3) ≥ (l0_3.length : Int) then (tontineref1_routes.j0 k true a0_0 a0_1 l0_2 l0_3 ((rd_T40 l0_3 a1).f0.f0) ((rd_T40 l0_3 a1).f0.f1) ((rd_T40 l0_3 a1).f1) ((rd_T40 l0_3 a1).f2) ((rd_T40 l0_3 a1).f3) ((rd_T40 l0_3 a1).f4) ((rd_T40 l0_3 a1).f5) ((rd_T40 l0_3 a1).f6) ((rd_T40 l0_3 a1).f7) ((rd_T40 l0_3 a1).f8)) else (if ((rd_T40 l0_3 a1).f3) = a1 then (tontineref1_routes.j0 k true a0_0 a0_1 l0_2 l0_3 ((rd_T40 l0_3 a1).f0.f0) ((rd_T40 l0_3 a1).f0.f1) ((rd_T40 l0_3 a1).f1) ((rd_T40 l0_3 a1).f2) ((rd_T40 l0_3 a1).f3) ((rd_T40 l0_3 a1).f4) ((rd_T40 l0_3 a1).f5) ((rd_T40 l0_3 a1).f6) ((rd_T40 l0_3 a1).f7) ((rd_T40 l0_3 a1).f8)) else (if ((rd_T40 l0_3 a1).f3) = (-1) then (tontineref1_routes.j0 k (decide ((((rd_T40 l0_3 a1).f2).length : Int) > 0)) a0_0 a0_1 l0_2 l0_3 ((rd_T40 l0_3 a1).f0.f0) ((rd_T40 l0_3 a1).f0.f1) ((rd_T40 l0_3 a1).f1) ((rd_T40 l0_3 a1).f2) ((rd_T40 l0_3 a1).f3) ((rd_T40 l0_3 a1).f4) ((rd_T40 l0_3 a1).f5) ((rd_T40 l0_3 a1).f6) ((rd_T40 l0_3 a1).f7) ((rd_T40 l0_3 a1).f8)) else (tontineref1_routes.j0 k false a0_0 a0_1 l0_2 l0_3 ((rd_T40 l0_3 a1).f0.f0) ((rd_T40 l0_3 a1).f0.f1) ((rd_T40 l0_3 a1).f1) ((rd_T40 l0_3 a1).f2) ((rd_T40 l0_3 a1).f3) ((rd_T40 l0_3 a1).f4) ((rd_T40 l0_3 a1).f5) ((rd_T40 l0_3 a1).f6) ((rd_T40 l0_3 a1).f7) ((rd_T40 l0_3 a1).f8))))))) else (none)) else (none)) = some r := h
 clear h
 by_cases c3 : 0 ≤ a1
 ·
  rw [if_pos c3] at H
  have c3b0 : decide (0 ≤ a1) = true := decide_eq_true c3
  clear c3
  by_cases c4 : a1 < (l0_3.length : Int)
  ·
   rw [if_pos c4] at H
   have c4b0 : decide (a1 < (l0_3.length : Int)) = true := decide_eq_true c4
   clear c4
   have HC5 := Goto.m0 H
   clear H
   go_enter Tryd.func23, Tryd.ntmps23
   go_upto_region 2 with (first | ((with_reducible refine gate_dst (N := 2) rfl ?_); (try (refine gate_guard (by rfl) ?_; dsimp only)); refine box_event ?hg (N := 2) ?hd (cs := #[.int .i64 a0_0, .int .i64 a0_1, .slice A0_2 l0_2.length c0_2, .slice A0_3 l0_3.length c0_3]) (t := 25) ?hr ?_; (case hd => rfl); (case hg => rfl); (case hr => first | (go_simp; done) | (go_simp; rfl)); intro gb259 hg w6 hbox hb; have BK259 := Goto.m0 (hbox); have GW259 := Goto.gs HB hg; have GE259 := Goto.gs HB hg; replace HB := Goto.hs HB hb; clear hb hbox hg; have hcz7_0 := Goto.bc0 BK259; have hcz7_1 := Goto.bc1 BK259; have hcz7_2 := Goto.bc2 BK259; have hcz7_3 := Goto.bc3 BK259; have hfz7_0 := Goto.bf BK259 0; have hfz7_1 := Goto.bf BK259 1; have hfz7_2 := Goto.bf BK259 2; have hfz7_3 := Goto.bf BK259 3; have p260 : 0 ≤ (a1 : Int) := Goto.od; have q260 : a1 < (l0_3.length : Int) := Goto.od; obtain ⟨ad260, A260_2, c260_2, A260_3, c260_3, e260, hx260_0, hx260_1, hx260_2, hx260_3, hx260_4, hx260_5, hx260_6, hx260_7, hx260_8, hx260_9, hl260_2, hi260_2, hl260_3, hi260_3⟩ := at_T40 HR0_3.out a1 p260 q260; cases e260; replace hx260_0 := Goto.kc HB.out hx260_0; replace hx260_1 := Goto.kc HB.out hx260_1; replace hx260_2 := Goto.kc HB.out hx260_2; replace hx260_3 := Goto.kc HB.out hx260_3; replace hx260_4 := Goto.kc HB.out hx260_4; replace hx260_5 := Goto.kc HB.out hx260_5; replace hx260_6 := Goto.kc HB.out hx260_6; replace hx260_7 := Goto.kc HB.out hx260_7; replace hx260_8 := Goto.kc HB.out hx260_8; replace hx260_9 := Goto.kc HB.out hx260_9; have HR260_2 := Goto.m0 hi260_2; have HC260_2 := Goto.m0 hl260_2; clear hi260_2 hl260_2; have HR260_3 := Goto.m0 hi260_3; have HC260_3 := Goto.m0 hl260_3; clear hi260_3 hl260_3; replace p260 := eq_true p260; replace q260 := eq_true q260) | ((with_reducible refine gate_dst (N := 5) rfl ?_); (try (refine gate_guard (by rfl) ?_; dsimp only)); refine box_event ?hg (N := 5) ?hd (cs := #[.int .i64 0, .int .u64 0, .slice none 0 0, .slice none 0 0, .int .i64 0, .int .i64 0, .int .i64 0, .int .i64 0, .int .i64 0, .int .i64 0]) (t := 40) ?hr ?_; (case hd => rfl); (case hg => rfl); (case hr => first | (go_simp; done) | (go_simp; rfl)); intro gb261 hg w8 hbox hb; have BK261 := Goto.m0 (hbox); have GW261 := Goto.gs HB hg; have GE261 := Goto.gs HB hg; have NB259_261 := Goto.nl BK259 hg; have NB261_259 := Goto.nr BK259 hg; replace BK259 := Goto.bb BK259 hb; replace HB := Goto.hs HB hb; clear hb hbox hg; have hnb9 := NB261_259.out; have hnc9 := NB259_261.out; have hcz10_0 := Goto.bc0 BK261; have hcz10_1 := Goto.bc1 BK261; have hcz10_2 := Goto.bc2 BK261; have hcz10_3 := Goto.bc3 BK261; have hcz10_4 := Goto.bc4 BK261; have hcz10_5 := Goto.bc5 BK261; have hcz10_6 := Goto.bc6 BK261; have hcz10_7 := Goto.bc7 BK261; have hcz10_8 := Goto.bc8 BK261; have hcz10_9 := Goto.bc9 BK261; have hfz10_0 := Goto.bf BK261 0; have hfz10_1 := Goto.bf BK261 1; have hfz10_2 := Goto.bf BK261 2; have hfz10_3 := Goto.bf BK261 3; have hfz10_4 := Goto.bf BK261 4; have hfz10_5 := Goto.bf BK261 5; have hfz10_6 := Goto.bf BK261 6; have hfz10_7 := Goto.bf BK261 7; have hfz10_8 := Goto.bf BK261 8; have hfz10_9 := Goto.bf BK261 9))
   repeat (go_quiet (first | ((with_reducible refine gate_dst (N := 2) rfl ?_); (try (refine gate_guard (by rfl) ?_; dsimp only)); refine box_event ?hg (N := 2) ?hd (cs := #[.int .i64 a0_0, .int .i64 a0_1, .slice A0_2 l0_2.length c0_2, .slice A0_3 l0_3.length c0_3]) (t := 25) ?hr ?_; (case hd => rfl); (case hg => rfl); (case hr => first | (go_simp; done) | (go_simp; rfl)); intro gb259 hg w6 hbox hb; have BK259 := Goto.m0 (hbox); have GW259 := Goto.gs HB hg; have GE259 := Goto.gs HB hg; replace HB := Goto.hs HB hb; clear hb hbox hg; have hcz7_0 := Goto.bc0 BK259; have hcz7_1 := Goto.bc1 BK259; have hcz7_2 := Goto.bc2 BK259; have hcz7_3 := Goto.bc3 BK259; have hfz7_0 := Goto.bf BK259 0; have hfz7_1 := Goto.bf BK259 1; have hfz7_2 := Goto.bf BK259 2; have hfz7_3 := Goto.bf BK259 3; have p260 : 0 ≤ (a1 : Int) := Goto.od; have q260 : a1 < (l0_3.length : Int) := Goto.od; obtain ⟨ad260, A260_2, c260_2, A260_3, c260_3, e260, hx260_0, hx260_1, hx260_2, hx260_3, hx260_4, hx260_5, hx260_6, hx260_7, hx260_8, hx260_9, hl260_2, hi260_2, hl260_3, hi260_3⟩ := at_T40 HR0_3.out a1 p260 q260; cases e260; replace hx260_0 := Goto.kc HB.out hx260_0; replace hx260_1 := Goto.kc HB.out hx260_1; replace hx260_2 := Goto.kc HB.out hx260_2; replace hx260_3 := Goto.kc HB.out hx260_3; replace hx260_4 := Goto.kc HB.out hx260_4; replace hx260_5 := Goto.kc HB.out hx260_5; replace hx260_6 := Goto.kc HB.out hx260_6; replace hx260_7 := Goto.kc HB.out hx260_7; replace hx260_8 := Goto.kc HB.out hx260_8; replace hx260_9 := Goto.kc HB.out hx260_9; have HR260_2 := Goto.m0 hi260_2; have HC260_2 := Goto.m0 hl260_2; clear hi260_2 hl260_2; have HR260_3 := Goto.m0 hi260_3; have HC260_3 := Goto.m0 hl260_3; clear hi260_3 hl260_3; replace p260 := eq_true p260; replace q260 := eq_true q260) | ((with_reducible refine gate_dst (N := 5) rfl ?_); (try (refine gate_guard (by rfl) ?_; dsimp only)); refine box_event ?hg (N := 5) ?hd (cs := #[.int .i64 0, .int .u64 0, .slice none 0 0, .slice none 0 0, .int .i64 0, .int .i64 0, .int .i64 0, .int .i64 0, .int .i64 0, .int .i64 0]) (t := 40) ?hr ?_; (case hd => rfl); (case hg => rfl); (case hr => first | (go_simp; done) | (go_simp; rfl)); intro gb261 hg w8 hbox hb; have BK261 := Goto.m0 (hbox); have GW261 := Goto.gs HB hg; have GE261 := Goto.gs HB hg; have NB259_261 := Goto.nl BK259 hg; have NB261_259 := Goto.nr BK259 hg; replace BK259 := Goto.bb BK259 hb; replace HB := Goto.hs HB hb; clear hb hbox hg; have hnb9 := NB261_259.out; have hnc9 := NB259_261.out; have hcz10_0 := Goto.bc0 BK261; have hcz10_1 := Goto.bc1 BK261; have hcz10_2 := Goto.bc2 BK261; have hcz10_3 := Goto.bc3 BK261; have hcz10_4 := Goto.bc4 BK261; have hcz10_5 := Goto.bc5 BK261; have hcz10_6 := Goto.bc6 BK261; have hcz10_7 := Goto.bc7 BK261; have hcz10_8 := Goto.bc8 BK261; have hcz10_9 := Goto.bc9 BK261; have hfz10_0 := Goto.bf BK261 0; have hfz10_1 := Goto.bf BK261 1; have hfz10_2 := Goto.bf BK261 2; have hfz10_3 := Goto.bf BK261 3; have hfz10_4 := Goto.bf BK261 4; have hfz10_5 := Goto.bf BK261 5; have hfz10_6 := Goto.bf BK261 6; have hfz10_7 := Goto.bf BK261 7; have hfz10_8 := Goto.bf BK261 8; have hfz10_9 := Goto.bf BK261 9)); go_upto_region 2 with (first | ((with_reducible refine gate_dst (N := 2) rfl ?_); (try (refine gate_guard (by rfl) ?_; dsimp only)); refine box_event ?hg (N := 2) ?hd (cs := #[.int .i64 a0_0, .int .i64 a0_1, .slice A0_2 l0_2.length c0_2, .slice A0_3 l0_3.length c0_3]) (t := 25) ?hr ?_; (case hd => rfl); (case hg => rfl); (case hr => first | (go_simp; done) | (go_simp; rfl)); intro gb259 hg w6 hbox hb; have BK259 := Goto.m0 (hbox); have GW259 := Goto.gs HB hg; have GE259 := Goto.gs HB hg; replace HB := Goto.hs HB hb; clear hb hbox hg; have hcz7_0 := Goto.bc0 BK259; have hcz7_1 := Goto.bc1 BK259; have hcz7_2 := Goto.bc2 BK259; have hcz7_3 := Goto.bc3 BK259; have hfz7_0 := Goto.bf BK259 0; have hfz7_1 := Goto.bf BK259 1; have hfz7_2 := Goto.bf BK259 2; have hfz7_3 := Goto.bf BK259 3; have p260 : 0 ≤ (a1 : Int) := Goto.od; have q260 : a1 < (l0_3.length : Int) := Goto.od; obtain ⟨ad260, A260_2, c260_2, A260_3, c260_3, e260, hx260_0, hx260_1, hx260_2, hx260_3, hx260_4, hx260_5, hx260_6, hx260_7, hx260_8, hx260_9, hl260_2, hi260_2, hl260_3, hi260_3⟩ := at_T40 HR0_3.out a1 p260 q260; cases e260; replace hx260_0 := Goto.kc HB.out hx260_0; replace hx260_1 := Goto.kc HB.out hx260_1; replace hx260_2 := Goto.kc HB.out hx260_2; replace hx260_3 := Goto.kc HB.out hx260_3; replace hx260_4 := Goto.kc HB.out hx260_4; replace hx260_5 := Goto.kc HB.out hx260_5; replace hx260_6 := Goto.kc HB.out hx260_6; replace hx260_7 := Goto.kc HB.out hx260_7; replace hx260_8 := Goto.kc HB.out hx260_8; replace hx260_9 := Goto.kc HB.out hx260_9; have HR260_2 := Goto.m0 hi260_2; have HC260_2 := Goto.m0 hl260_2; clear hi260_2 hl260_2; have HR260_3 := Goto.m0 hi260_3; have HC260_3 := Goto.m0 hl260_3; clear hi260_3 hl260_3; replace p260 := eq_true p260; replace q260 := eq_true q260) | ((with_reducible refine gate_dst (N := 5) rfl ?_); (try (refine gate_guard (by rfl) ?_; dsimp only)); refine box_event ?hg (N := 5) ?hd (cs := #[.int .i64 0, .int .u64 0, .slice none 0 0, .slice none 0 0, .int .i64 0, .int .i64 0, .int .i64 0, .int .i64 0, .int .i64 0, .int .i64 0]) (t := 40) ?hr ?_; (case hd => rfl); (case hg => rfl); (case hr => first | (go_simp; done) | (go_simp; rfl)); intro gb261 hg w8 hbox hb; have BK261 := Goto.m0 (hbox); have GW261 := Goto.gs HB hg; have GE261 := Goto.gs HB hg; have NB259_261 := Goto.nl BK259 hg; have NB261_259 := Goto.nr BK259 hg; replace BK259 := Goto.bb BK259 hb; replace HB := Goto.hs HB hb; clear hb hbox hg; have hnb9 := NB261_259.out; have hnc9 := NB259_261.out; have hcz10_0 := Goto.bc0 BK261; have hcz10_1 := Goto.bc1 BK261; have hcz10_2 := Goto.bc2 BK261; have hcz10_3 := Goto.bc3 BK261; have hcz10_4 := Goto.bc4 BK261; have hcz10_5 := Goto.bc5 BK261; have hcz10_6 := Goto.bc6 BK261; have hcz10_7 := Goto.bc7 BK261; have hcz10_8 := Goto.bc8 BK261; have hcz10_9 := Goto.bc9 BK261; have hfz10_0 := Goto.bf BK261 0; have hfz10_1 := Goto.bf BK261 1; have hfz10_2 := Goto.bf BK261 2; have hfz10_3 := Goto.bf BK261 3; have hfz10_4 := Goto.bf BK261 4; have hfz10_5 := Goto.bf BK261 5; have hfz10_6 := Goto.bf BK261 6; have hfz10_7 := Goto.bf BK261 7; have hfz10_8 := Goto.bf BK261 8; have hfz10_9 := Goto.bf BK261 9)))
   (try simp only [Act.put, List.setIfInBounds_toArray, List.set_cons_zero, List.set_cons_succ])
   go_cut [50] (fun v50 wc => ∃ (kq : Nat) (x50_4 : Bool), v50 = .bool x50_4 ∧ Aside0 (tontineref1_routes.j0 kq x50_4 a0_0 a0_1 l0_2 l0_3 ((rd_T40 l0_3 a1).f0.f0) ((rd_T40 l0_3 a1).f0.f1) ((rd_T40 l0_3 a1).f1) ((rd_T40 l0_3 a1).f2) ((rd_T40 l0_3 a1).f3) ((rd_T40 l0_3 a1).f4) ((rd_T40 l0_3 a1).f5) ((rd_T40 l0_3 a1).f6) ((rd_T40 l0_3 a1).f7) ((rd_T40 l0_3 a1).f8) = some r) ∧ Aside0 (kq ≤ k) ∧ Aside0 (wc.heap[gb259]? = some (.cells #[.int .i64 a0_0, .int .i64 a0_1, (.slice A0_2 l0_2.length c0_2), (.slice (some ad260) l0_3.length c0_3)] 25 (0, 0))) ∧ Aside0 (wc.heap[gb261]? = some (.cells #[.int .i64 ((rd_T40 l0_3 a1).f0.f0), .int .u64 ((rd_T40 l0_3 a1).f0.f1), (.slice A260_2 ((rd_T40 l0_3 a1).f1).length c260_2), (.slice A260_3 ((rd_T40 l0_3 a1).f2).length c260_3), .int .i64 ((rd_T40 l0_3 a1).f3), .int .i64 ((rd_T40 l0_3 a1).f4), .int .i64 ((rd_T40 l0_3 a1).f5), .int .i64 ((rd_T40 l0_3 a1).f6), .int .i64 ((rd_T40 l0_3 a1).f7), .int .i64 ((rd_T40 l0_3 a1).f8)] 40 (0, 0))) ∧ Aside0 (Below w.heap.size w wc))
   case first =>
    have H := HC5.out; clear HC5
    by_cases c11 : (((rd_T40 l0_3 a1).f1).length : Int) > 3
    ·
     rw [if_pos c11] at H
     have c11b0 : decide (3 < (((rd_T40 l0_3 a1).f1).length : Int)) = true := decide_eq_true c11
     have c11b1 : decide (3 < ((rd_T40 l0_3 a1).f1).length) = true := decide_eq_true (by omega)
     clear c11
     (first | rw [c11b0] | (simp only [i64_w, i32_w]; rw [c11b0]) | skip)
     have H' := Goto.m0 H
     clear H; have hnb12 := NB261_259.out; have hnc12 := NB259_261.out; have hcz13_0 := Goto.bc0 BK261; have hcz13_1 := Goto.bc1 BK261; have hcz13_2 := Goto.bc2 BK261; have hcz13_3 := Goto.bc3 BK261; have hcz13_4 := Goto.bc4 BK261; have hcz13_5 := Goto.bc5 BK261; have hcz13_6 := Goto.bc6 BK261; have hcz13_7 := Goto.bc7 BK261; have hcz13_8 := Goto.bc8 BK261; have hcz13_9 := Goto.bc9 BK261; have hfz13_0 := Goto.bf BK261 0; have hfz13_1 := Goto.bf BK261 1; have hfz13_2 := Goto.bf BK261 2; have hfz13_3 := Goto.bf BK261 3; have hfz13_4 := Goto.bf BK261 4; have hfz13_5 := Goto.bf BK261 5; have hfz13_6 := Goto.bf BK261 6; have hfz13_7 := Goto.bf BK261 7; have hfz13_8 := Goto.bf BK261 8; have hfz13_9 := Goto.bf BK261 9
     go_wp2
     repeat (go_quiet (fail); try go_wp2)
     go_meet
     case rel => exact ⟨_, (true), (by first | rfl | (simp; done) | (simp [*]; done)), H', ⟨by first | omega | exact Nat.le_refl _⟩, ⟨Goto.bx BK259⟩, ⟨Goto.bx BK261⟩, ⟨Goto.hx HB⟩⟩
    ·
     rw [if_neg c11] at H
     have c11b0 : decide (3 < (((rd_T40 l0_3 a1).f1).length : Int)) = false := decide_eq_false c11
     have c11b1 : decide (3 < ((rd_T40 l0_3 a1).f1).length) = false := decide_eq_false (by omega)
     clear c11
     (first | rw [c11b0] | (simp only [i64_w, i32_w]; rw [c11b0]) | skip)
     by_cases c14 : ((rd_T40 l0_3 a1).f3) < (-1)
     ·
      rw [if_pos c14] at H
      have c14b0 : decide (((rd_T40 l0_3 a1).f3) < (-1)) = true := decide_eq_true c14
      clear c14
      have H' := Goto.m0 H
      clear H; have hnb15 := NB261_259.out; have hnc15 := NB259_261.out; have hcz16_0 := Goto.bc0 BK261; have hcz16_1 := Goto.bc1 BK261; have hcz16_2 := Goto.bc2 BK261; have hcz16_3 := Goto.bc3 BK261; have hcz16_4 := Goto.bc4 BK261; have hcz16_5 := Goto.bc5 BK261; have hcz16_6 := Goto.bc6 BK261; have hcz16_7 := Goto.bc7 BK261; have hcz16_8 := Goto.bc8 BK261; have hcz16_9 := Goto.bc9 BK261; have hfz16_0 := Goto.bf BK261 0; have hfz16_1 := Goto.bf BK261 1; have hfz16_2 := Goto.bf BK261 2; have hfz16_3 := Goto.bf BK261 3; have hfz16_4 := Goto.bf BK261 4; have hfz16_5 := Goto.bf BK261 5; have hfz16_6 := Goto.bf BK261 6; have hfz16_7 := Goto.bf BK261 7; have hfz16_8 := Goto.bf BK261 8; have hfz16_9 := Goto.bf BK261 9
      go_wp2
      repeat (go_quiet (fail); try go_wp2)
      go_meet
      case rel => exact ⟨_, (true), (by first | rfl | (simp; done) | (simp [*]; done)), H', ⟨by first | omega | exact Nat.le_refl _⟩, ⟨Goto.bx BK259⟩, ⟨Goto.bx BK261⟩, ⟨Goto.hx HB⟩⟩
     ·
      rw [if_neg c14] at H
      have c14b0 : decide (((rd_T40 l0_3 a1).f3) < (-1)) = false := decide_eq_false c14
      clear c14
      by_cases c17 : ((rd_T40 l0_3 a1).f3) ≥ (l0_3.length : Int)
      ·
       rw [if_pos c17] at H
       have c17b0 : decide ((l0_3.length : Int) ≤ ((rd_T40 l0_3 a1).f3)) = true := decide_eq_true c17
       clear c17
       have H' := Goto.m0 H
       clear H; have hnb18 := NB261_259.out; have hnc18 := NB259_261.out; have hcz19_0 := Goto.bc0 BK261; have hcz19_1 := Goto.bc1 BK261; have hcz19_2 := Goto.bc2 BK261; have hcz19_3 := Goto.bc3 BK261; have hcz19_4 := Goto.bc4 BK261; have hcz19_5 := Goto.bc5 BK261; have hcz19_6 := Goto.bc6 BK261; have hcz19_7 := Goto.bc7 BK261; have hcz19_8 := Goto.bc8 BK261; have hcz19_9 := Goto.bc9 BK261; have hfz19_0 := Goto.bf BK261 0; have hfz19_1 := Goto.bf BK261 1; have hfz19_2 := Goto.bf BK261 2; have hfz19_3 := Goto.bf BK261 3; have hfz19_4 := Goto.bf BK261 4; have hfz19_5 := Goto.bf BK261 5; have hfz19_6 := Goto.bf BK261 6; have hfz19_7 := Goto.bf BK261 7; have hfz19_8 := Goto.bf BK261 8; have hfz19_9 := Goto.bf BK261 9; have hcz20_0 := Goto.bc0 BK259; have hcz20_1 := Goto.bc1 BK259; have hcz20_2 := Goto.bc2 BK259
       have hcz20_3 := Goto.bc3 BK259
       have hfz20_0 := Goto.bf BK259 0; have hfz20_1 := Goto.bf BK259 1; have hfz20_2 := Goto.bf BK259 2; have hfz20_3 := Goto.bf BK259 3
       go_wp2
       repeat (go_quiet (fail); try go_wp2)
       go_meet
       case rel => exact ⟨_, (true), (by first | rfl | (simp; done) | (simp [*]; done)), H', ⟨by first | omega | exact Nat.le_refl _⟩, ⟨Goto.bx BK259⟩, ⟨Goto.bx BK261⟩, ⟨Goto.hx HB⟩⟩
      ·
       rw [if_neg c17] at H
       have c17b0 : decide ((l0_3.length : Int) ≤ ((rd_T40 l0_3 a1).f3)) = false := decide_eq_false c17
       clear c17
       by_cases c21 : ((rd_T40 l0_3 a1).f3) = a1
       ·
        rw [if_pos c21] at H
        have c21b0 : (((rd_T40 l0_3 a1).f3) == a1) = true := beq_iff_eq.mpr c21
        have c21b1 : (((rd_T40 l0_3 a1).f3) != a1) = false := bne_eq_false_iff_eq.mpr c21
        clear c21
        have H' := Goto.m0 H
        clear H; have hnb22 := NB261_259.out; have hnc22 := NB259_261.out; have hcz23_0 := Goto.bc0 BK261; have hcz23_1 := Goto.bc1 BK261; have hcz23_2 := Goto.bc2 BK261; have hcz23_3 := Goto.bc3 BK261; have hcz23_4 := Goto.bc4 BK261; have hcz23_5 := Goto.bc5 BK261; have hcz23_6 := Goto.bc6 BK261; have hcz23_7 := Goto.bc7 BK261; have hcz23_8 := Goto.bc8 BK261; have hcz23_9 := Goto.bc9 BK261; have hfz23_0 := Goto.bf BK261 0; have hfz23_1 := Goto.bf BK261 1; have hfz23_2 := Goto.bf BK261 2; have hfz23_3 := Goto.bf BK261 3; have hfz23_4 := Goto.bf BK261 4; have hfz23_5 := Goto.bf BK261 5; have hfz23_6 := Goto.bf BK261 6; have hfz23_7 := Goto.bf BK261 7; have hfz23_8 := Goto.bf BK261 8; have hfz23_9 := Goto.bf BK261 9; have hcz24_0 := Goto.bc0 BK259; have hcz24_1 := Goto.bc1 BK259; have hcz24_2 := Goto.bc2 BK259
        have hcz24_3 := Goto.bc3 BK259
        have hfz24_0 := Goto.bf BK259 0; have hfz24_1 := Goto.bf BK259 1; have hfz24_2 := Goto.bf BK259 2; have hfz24_3 := Goto.bf BK259 3
        go_wp2
        repeat (go_quiet (fail); try go_wp2)
        go_meet
        case rel => exact ⟨_, (true), (by first | rfl | (simp; done) | (simp [*]; done)), H', ⟨by first | omega | exact Nat.le_refl _⟩, ⟨Goto.bx BK259⟩, ⟨Goto.bx BK261⟩, ⟨Goto.hx HB⟩⟩
       ·
        rw [if_neg c21] at H
        have c21b0 : (((rd_T40 l0_3 a1).f3) == a1) = false := beq_eq_false_iff_ne.mpr c21
        have c21b1 : (((rd_T40 l0_3 a1).f3) != a1) = true := bne_iff_ne.mpr c21
        by_cases c25 : ((rd_T40 l0_3 a1).f3) = (-1)
        ·
         rw [if_pos c25] at H
         have c25b0 : (((rd_T40 l0_3 a1).f3) == (-1)) = true := beq_iff_eq.mpr c25
         have c25b1 : (((rd_T40 l0_3 a1).f3) != (-1)) = false := bne_eq_false_iff_eq.mpr c25
         clear c25
         have H' := Goto.m0 H
         clear H; have hnb26 := NB261_259.out; have hnc26 := NB259_261.out; have hcz27_0 := Goto.bc0 BK261; have hcz27_1 := Goto.bc1 BK261; have hcz27_2 := Goto.bc2 BK261; have hcz27_3 := Goto.bc3 BK261; have hcz27_4 := Goto.bc4 BK261; have hcz27_5 := Goto.bc5 BK261; have hcz27_6 := Goto.bc6 BK261; have hcz27_7 := Goto.bc7 BK261; have hcz27_8 := Goto.bc8 BK261; have hcz27_9 := Goto.bc9 BK261; have hfz27_0 := Goto.bf BK261 0; have hfz27_1 := Goto.bf BK261 1; have hfz27_2 := Goto.bf BK261 2; have hfz27_3 := Goto.bf BK261 3; have hfz27_4 := Goto.bf BK261 4; have hfz27_5 := Goto.bf BK261 5; have hfz27_6 := Goto.bf BK261 6; have hfz27_7 := Goto.bf BK261 7; have hfz27_8 := Goto.bf BK261 8; have hfz27_9 := Goto.bf BK261 9; have hcz28_0 := Goto.bc0 BK259; have hcz28_1 := Goto.bc1 BK259; have hcz28_2 := Goto.bc2 BK259
         have hcz28_3 := Goto.bc3 BK259
         have hfz28_0 := Goto.bf BK259 0; have hfz28_1 := Goto.bf BK259 1; have hfz28_2 := Goto.bf BK259 2; have hfz28_3 := Goto.bf BK259 3
         go_wp2
         repeat (go_quiet (fail); try go_wp2)
         go_meet
         case rel => exact ⟨_, (decide ((((rd_T40 l0_3 a1).f2).length : Int) > 0)), (by first | rfl | (simp; done) | (simp [*]; done)), H', ⟨by first | omega | exact Nat.le_refl _⟩, ⟨Goto.bx BK259⟩, ⟨Goto.bx BK261⟩, ⟨Goto.hx HB⟩⟩
        ·
         rw [if_neg c25] at H
         have c25b0 : (((rd_T40 l0_3 a1).f3) == (-1)) = false := beq_eq_false_iff_ne.mpr c25
         have c25b1 : (((rd_T40 l0_3 a1).f3) != (-1)) = true := bne_iff_ne.mpr c25
         have H' := Goto.m0 H
         clear H; have hnb29 := NB261_259.out; have hnc29 := NB259_261.out; have hcz30_0 := Goto.bc0 BK261; have hcz30_1 := Goto.bc1 BK261; have hcz30_2 := Goto.bc2 BK261; have hcz30_3 := Goto.bc3 BK261; have hcz30_4 := Goto.bc4 BK261; have hcz30_5 := Goto.bc5 BK261; have hcz30_6 := Goto.bc6 BK261; have hcz30_7 := Goto.bc7 BK261; have hcz30_8 := Goto.bc8 BK261; have hcz30_9 := Goto.bc9 BK261; have hfz30_0 := Goto.bf BK261 0; have hfz30_1 := Goto.bf BK261 1; have hfz30_2 := Goto.bf BK261 2; have hfz30_3 := Goto.bf BK261 3; have hfz30_4 := Goto.bf BK261 4; have hfz30_5 := Goto.bf BK261 5; have hfz30_6 := Goto.bf BK261 6; have hfz30_7 := Goto.bf BK261 7; have hfz30_8 := Goto.bf BK261 8; have hfz30_9 := Goto.bf BK261 9; have hcz31_0 := Goto.bc0 BK259; have hcz31_1 := Goto.bc1 BK259; have hcz31_2 := Goto.bc2 BK259
         have hcz31_3 := Goto.bc3 BK259
         have hfz31_0 := Goto.bf BK259 0; have hfz31_1 := Goto.bf BK259 1; have hfz31_2 := Goto.bf BK259 2; have hfz31_3 := Goto.bf BK259 3
         go_wp2
         repeat (go_quiet (fail); try go_wp2)
         go_meet
         case rel => exact ⟨_, (false), (by first | rfl | (simp; done) | (simp [*]; done)), H', ⟨by first | omega | exact Nat.le_refl _⟩, ⟨Goto.bx BK259⟩, ⟨Goto.bx BK261⟩, ⟨Goto.hx HB⟩⟩
   case rest =>
    clear HC5; try clear c1; try clear c2; try clear p2; try clear q2; try clear hx2; try clear c3; try clear c3b0; try clear c4; try clear c4b0; try clear c9; try clear c11; try clear c11b0; try clear c11b1; try clear c12; try clear c14; try clear c14b0; try clear c15; try clear c17; try clear c17b0; try clear c18; try clear c21; try clear c21b0; try clear c21b1; try clear c22; try clear c23; try clear c25; try clear c25b0; try clear c25b1; try clear c26; try clear p26; try clear q26; try clear hx26; try clear c29; try clear hcz10_0; try clear hcz10_1; try clear hcz10_2; try clear hcz10_3; try clear hcz10_4; try clear hcz10_5; try clear hcz10_6; try clear hcz10_7; try clear hcz10_8; try clear hcz10_9; try clear hcz13_0; try clear hcz13_1; try clear hcz13_2; try clear hcz13_3; try clear hcz13_4; try clear hcz13_5; try clear hcz13_6; try clear hcz13_7; try clear hcz13_8; try clear hcz13_9; try clear hcz16_0; try clear hcz16_1; try clear hcz16_2; try clear hcz16_3; try clear hcz16_4; try clear hcz16_5; try clear hcz16_6; try clear hcz16_7; try clear hcz16_8; try clear hcz16_9; try clear hcz19_0; try clear hcz19_1; try clear hcz19_2; try clear hcz19_3; try clear hcz19_4; try clear hcz19_5; try clear hcz19_6; try clear hcz19_7; try clear hcz19_8; try clear hcz19_9; try clear hcz20_0; try clear hcz20_1; try clear hcz20_2; try clear hcz20_3; try clear hcz23_0; try clear hcz23_1; try clear hcz23_2; try clear hcz23_3; try clear hcz23_4; try clear hcz23_5; try clear hcz23_6; try clear hcz23_7; try clear hcz23_8; try clear hcz23_9; try clear hcz24_0; try clear hcz24_1; try clear hcz24_2; try clear hcz24_3; try clear hcz27_0; try clear hcz27_1; try clear hcz27_2; try clear hcz27_3; try clear hcz27_4; try clear hcz27_5; try clear hcz27_6; try clear hcz27_7; try clear hcz27_8; try clear hcz27_9; try clear hcz28_0; try clear hcz28_1; try clear hcz28_2; try clear hcz28_3; try clear hcz30_0; try clear hcz30_1; try clear hcz30_2; try clear hcz30_3; try clear hcz30_4; try clear hcz30_5; try clear hcz30_6; try clear hcz30_7; try clear hcz30_8; try clear hcz30_9; try clear hcz31_0; try clear hcz31_1; try clear hcz31_2; try clear hcz31_3; try clear hcz7_0; try clear hcz7_1; try clear hcz7_2; try clear hcz7_3; try clear hfz10_0; try clear hfz10_1; try clear hfz10_2; try clear hfz10_3; try clear hfz10_4; try clear hfz10_5; try clear hfz10_6; try clear hfz10_7; try clear hfz10_8; try clear hfz10_9; try clear hfz13_0; try clear hfz13_1; try clear hfz13_2; try clear hfz13_3; try clear hfz13_4; try clear hfz13_5; try clear hfz13_6; try clear hfz13_7; try clear hfz13_8; try clear hfz13_9; try clear hfz16_0; try clear hfz16_1; try clear hfz16_2; try clear hfz16_3; try clear hfz16_4; try clear hfz16_5; try clear hfz16_6; try clear hfz16_7; try clear hfz16_8; try clear hfz16_9; try clear hfz19_0; try clear hfz19_1; try clear hfz19_2; try clear hfz19_3; try clear hfz19_4; try clear hfz19_5; try clear hfz19_6; try clear hfz19_7; try clear hfz19_8; try clear hfz19_9; try clear hfz20_0; try clear hfz20_1; try clear hfz20_2; try clear hfz20_3; try clear hfz23_0; try clear hfz23_1; try clear hfz23_2; try clear hfz23_3; try clear hfz23_4; try clear hfz23_5; try clear hfz23_6; try clear hfz23_7; try clear hfz23_8; try clear hfz23_9; try clear hfz24_0; try clear hfz24_1; try clear hfz24_2; try clear hfz24_3; try clear hfz27_0; try clear hfz27_1; try clear hfz27_2; try clear hfz27_3; try clear hfz27_4; try clear hfz27_5; try clear hfz27_6; try clear hfz27_7; try clear hfz27_8; try clear hfz27_9; try clear hfz28_0; try clear hfz28_1; try clear hfz28_2; try clear hfz28_3; try clear hfz30_0; try clear hfz30_1; try clear hfz30_2; try clear hfz30_3; try clear hfz30_4; try clear hfz30_5; try clear hfz30_6; try clear hfz30_7; try clear hfz30_8; try clear hfz30_9; try clear hfz31_0; try clear hfz31_1; try clear hfz31_2; try clear hfz31_3; try clear hfz7_0; try clear hfz7_1; try clear hfz7_2; try clear hfz7_3; try clear hx260_0; try clear hx260_1; try clear hx260_2; try clear hx260_3; try clear hx260_4
    try clear hx260_5; try clear hx260_6; try clear hx260_7; try clear hx260_8; try clear hx260_9; try clear p260; try clear q260
    obtain ⟨kq, x50_4, rfl, HA, HJ4, BK259, BK261, HB⟩ := hcut
    cases kq with
    | zero => exact absurd HA.out (by simp [tontineref1_routes.j0])
    | succ kj4 =>
     have H := HA.out; clear HA
     simp only [tontineref1_routes.j0] at H
     by_cases c32 : x50_4 = true
     ·
      subst c32
      rw [if_pos rfl] at H
      obtain rfl := Option.some.inj H
      go_wp2
      repeat (go_quiet (fail); try go_wp2)
      go_ret
      exact ⟨Goto.er, by repeat (first | (with_reducible first | exact HB.out | apply below_alloc | apply pw_below_drewN | apply below_drew1 | refine below_set ?_ GE259.out | refine below_set ?_ GE261.out) | exact HB.out)⟩
     ·
      replace c32 := Bool.eq_false_iff.mpr c32
      subst c32
      rw [if_neg (show ¬ (false = true) by decide)] at H
      have H' := Goto.m0 H
      clear H
      go_wp2
      repeat (go_quiet (fail); try go_wp2)
      go_loopg [6] kj4 (fun kq v6 w' => ∃ (x6_2 : Int), v6 = .int .i64 x6_2 ∧ Aside0 (tontineref1_routes.l0 kq x6_2 a0_0 a0_1 l0_2 l0_3 ((rd_T40 l0_3 a1).f0.f0) ((rd_T40 l0_3 a1).f0.f1) ((rd_T40 l0_3 a1).f1) ((rd_T40 l0_3 a1).f2) ((rd_T40 l0_3 a1).f3) ((rd_T40 l0_3 a1).f4) ((rd_T40 l0_3 a1).f5) ((rd_T40 l0_3 a1).f6) ((rd_T40 l0_3 a1).f7) ((rd_T40 l0_3 a1).f8) = some r) ∧ Aside0 (kq ≤ kj4) ∧ Aside0 (w'.heap[gb259]? = some (.cells #[.int .i64 a0_0, .int .i64 a0_1, (.slice A0_2 l0_2.length c0_2), (.slice (some ad260) l0_3.length c0_3)] 25 (0, 0))) ∧ Aside0 (w'.heap[gb261]? = some (.cells #[.int .i64 ((rd_T40 l0_3 a1).f0.f0), .int .u64 ((rd_T40 l0_3 a1).f0.f1), (.slice A260_2 ((rd_T40 l0_3 a1).f1).length c260_2), (.slice A260_3 ((rd_T40 l0_3 a1).f2).length c260_3), .int .i64 ((rd_T40 l0_3 a1).f3), .int .i64 ((rd_T40 l0_3 a1).f4), .int .i64 ((rd_T40 l0_3 a1).f5), .int .i64 ((rd_T40 l0_3 a1).f6), .int .i64 ((rd_T40 l0_3 a1).f7), .int .i64 ((rd_T40 l0_3 a1).f8)] 40 (0, 0))) ∧ Aside0 (Below w.heap.size w w'))
      case atStart => exact ⟨(0), (by first | rfl | (simp; done) | (simp [*]; done)), H', ⟨Nat.le_refl _⟩, ⟨Goto.bx BK259⟩, ⟨Goto.bx BK261⟩, ⟨Goto.hx HB⟩⟩
      case round =>
       clear H'
       try clear c1; try clear c2; try clear p2; try clear q2; try clear hx2; try clear c3; try clear c3b0; try clear c4; try clear c4b0; try clear c9; try clear c11; try clear c11b0; try clear c11b1; try clear c12; try clear c14; try clear c14b0; try clear c15; try clear c17; try clear c17b0; try clear c18; try clear c21; try clear c21b0; try clear c21b1; try clear c22; try clear c23; try clear c25; try clear c25b0; try clear c25b1; try clear c26; try clear p26; try clear q26; try clear hx26; try clear c29; try clear c32; try clear hcz10_0; try clear hcz10_1; try clear hcz10_2; try clear hcz10_3; try clear hcz10_4; try clear hcz10_5; try clear hcz10_6; try clear hcz10_7; try clear hcz10_8; try clear hcz10_9; try clear hcz13_0; try clear hcz13_1; try clear hcz13_2; try clear hcz13_3; try clear hcz13_4; try clear hcz13_5; try clear hcz13_6; try clear hcz13_7; try clear hcz13_8; try clear hcz13_9; try clear hcz16_0; try clear hcz16_1; try clear hcz16_2; try clear hcz16_3; try clear hcz16_4; try clear hcz16_5; try clear hcz16_6; try clear hcz16_7; try clear hcz16_8; try clear hcz16_9; try clear hcz19_0; try clear hcz19_1; try clear hcz19_2; try clear hcz19_3; try clear hcz19_4; try clear hcz19_5; try clear hcz19_6; try clear hcz19_7; try clear hcz19_8; try clear hcz19_9; try clear hcz20_0; try clear hcz20_1; try clear hcz20_2; try clear hcz20_3; try clear hcz23_0; try clear hcz23_1; try clear hcz23_2; try clear hcz23_3; try clear hcz23_4; try clear hcz23_5; try clear hcz23_6; try clear hcz23_7; try clear hcz23_8; try clear hcz23_9; try clear hcz24_0; try clear hcz24_1; try clear hcz24_2; try clear hcz24_3; try clear hcz27_0; try clear hcz27_1; try clear hcz27_2; try clear hcz27_3; try clear hcz27_4; try clear hcz27_5; try clear hcz27_6; try clear hcz27_7; try clear hcz27_8; try clear hcz27_9; try clear hcz28_0; try clear hcz28_1; try clear hcz28_2; try clear hcz28_3; try clear hcz30_0; try clear hcz30_1; try clear hcz30_2; try clear hcz30_3; try clear hcz30_4; try clear hcz30_5; try clear hcz30_6; try clear hcz30_7; try clear hcz30_8; try clear hcz30_9; try clear hcz31_0; try clear hcz31_1; try clear hcz31_2; try clear hcz31_3; try clear hcz7_0; try clear hcz7_1; try clear hcz7_2; try clear hcz7_3; try clear hfz10_0; try clear hfz10_1; try clear hfz10_2; try clear hfz10_3; try clear hfz10_4; try clear hfz10_5; try clear hfz10_6; try clear hfz10_7; try clear hfz10_8; try clear hfz10_9; try clear hfz13_0; try clear hfz13_1; try clear hfz13_2; try clear hfz13_3; try clear hfz13_4; try clear hfz13_5; try clear hfz13_6; try clear hfz13_7; try clear hfz13_8; try clear hfz13_9; try clear hfz16_0; try clear hfz16_1; try clear hfz16_2; try clear hfz16_3; try clear hfz16_4; try clear hfz16_5; try clear hfz16_6; try clear hfz16_7; try clear hfz16_8; try clear hfz16_9; try clear hfz19_0; try clear hfz19_1; try clear hfz19_2; try clear hfz19_3; try clear hfz19_4; try clear hfz19_5; try clear hfz19_6; try clear hfz19_7; try clear hfz19_8; try clear hfz19_9; try clear hfz20_0; try clear hfz20_1; try clear hfz20_2; try clear hfz20_3; try clear hfz23_0; try clear hfz23_1; try clear hfz23_2; try clear hfz23_3; try clear hfz23_4; try clear hfz23_5; try clear hfz23_6; try clear hfz23_7; try clear hfz23_8; try clear hfz23_9; try clear hfz24_0; try clear hfz24_1; try clear hfz24_2; try clear hfz24_3; try clear hfz27_0; try clear hfz27_1; try clear hfz27_2; try clear hfz27_3; try clear hfz27_4; try clear hfz27_5; try clear hfz27_6; try clear hfz27_7; try clear hfz27_8; try clear hfz27_9; try clear hfz28_0; try clear hfz28_1; try clear hfz28_2; try clear hfz28_3; try clear hfz30_0; try clear hfz30_1; try clear hfz30_2; try clear hfz30_3; try clear hfz30_4; try clear hfz30_5; try clear hfz30_6; try clear hfz30_7; try clear hfz30_8; try clear hfz30_9; try clear hfz31_0; try clear hfz31_1; try clear hfz31_2; try clear hfz31_3; try clear hfz7_0; try clear hfz7_1; try clear hfz7_2; try clear hfz7_3; try clear hx260_0; try clear hx260_1; try clear hx260_2; try clear hx260_3
       try clear hx260_4; try clear hx260_5; try clear hx260_6; try clear hx260_7; try clear hx260_8; try clear hx260_9; try clear p2; try clear p26; try clear p260; try clear q2; try clear q26; try clear q260
       obtain ⟨x6_2, rfl, HA, HK2, BK259, BK261, HB⟩ := hrel
       cases gk with
       | zero => exact absurd HA.out (by simp [tontineref1_routes.l0])
       | succ k2 =>
        have H := HA.out; clear HA
        simp only [tontineref1_routes.l0] at H
        by_cases c33 : x6_2 < (((rd_T40 l0_3 a1).f1).length : Int)
        ·
         rw [if_pos c33] at H
         have c33b0 : decide (x6_2 < (((rd_T40 l0_3 a1).f1).length : Int)) = true := decide_eq_true c33
         clear c33
         obtain ⟨y262, hy262⟩ : ∃ y_ : List (S38), y_ = (([(⟨((rd_T40 l0_3 a1).f0.f0), ((rd_T40 l0_3 a1).f0.f1)⟩ : S38)] : List (S38))) := ⟨_, rfl⟩
         replace H : (tontineref1_routes.l1 k2 x6_2 y262 0 a0_0 a0_1 l0_2 l0_3 ((rd_T40 l0_3 a1).f0.f0) ((rd_T40 l0_3 a1).f0.f1) ((rd_T40 l0_3 a1).f1) ((rd_T40 l0_3 a1).f2) ((rd_T40 l0_3 a1).f3) ((rd_T40 l0_3 a1).f4) ((rd_T40 l0_3 a1).f5) ((rd_T40 l0_3 a1).f6) ((rd_T40 l0_3 a1).f7) ((rd_T40 l0_3 a1).f8)) = some r := by first | (rw [hy262]; with_reducible exact H) | (have H2_ := (Option.bind_some _ _).symm.trans H; rw [hy262]; with_reducible exact H2_) | (have H2_ := (Option.bind_some _ _).symm.trans H; with_reducible exact H2_) | with_reducible exact H | (rw [hy262]; exact H) | exact H
         have Ny262 := Goto.m0 hy262
         clear hy262
         have H' := Goto.m0 H
         clear H; have hnb34 := NB261_259.out; have hnc34 := NB259_261.out
         have hcz35_0 := Goto.bc0 BK261
         have hcz35_1 := Goto.bc1 BK261
         have hcz35_2 := Goto.bc2 BK261
         have hcz35_3 := Goto.bc3 BK261
         have hcz35_4 := Goto.bc4 BK261
         have hcz35_5 := Goto.bc5 BK261
         have hcz35_6 := Goto.bc6 BK261
         have hcz35_7 := Goto.bc7 BK261
         have hcz35_8 := Goto.bc8 BK261
         have hcz35_9 := Goto.bc9 BK261
         have hfz35_0 := Goto.bf BK261 0; have hfz35_1 := Goto.bf BK261 1; have hfz35_2 := Goto.bf BK261 2; have hfz35_3 := Goto.bf BK261 3; have hfz35_4 := Goto.bf BK261 4; have hfz35_5 := Goto.bf BK261 5; have hfz35_6 := Goto.bf BK261 6; have hfz35_7 := Goto.bf BK261 7; have hfz35_8 := Goto.bf BK261 8; have hfz35_9 := Goto.bf BK261 9
         go_wp2_with (first | (apply wp_region_lit; refine tontineref1_routes.flatc ?_) | (with_reducible refine tontineref1_routes.flatc ?_) | (with_reducible refine tontineref1_routes.flatn ?_) | ((with_reducible refine gate_dst (N := 60) rfl ?_); (try (refine gate_guard (by rfl) ?_; dsimp only)); refine Kd.R_lit k38 _ 38 ?hg (N := 60) ?hd (xs := ([(⟨((rd_T40 l0_3 a1).f0.f0), ((rd_T40 l0_3 a1).f0.f1)⟩ : S38)] : List (S38))) (inner := [.int .i64 ((rd_T40 l0_3 a1).f0.f0), .int .u64 ((rd_T40 l0_3 a1).f0.f1)]) (ok := fun _ => True) (okp := fun _ => True) ?hr ?hp (fun _ hk => hk) trivial (Below.refl _ _) (Nat.le_refl _) (by simp) ?_; (case hd => rfl); (case hg => rfl); (case hr => first | (go_simp; done) | (go_simp; rfl)); (case hp => exact (Reps.c2 (show Kd.M k38 _ _ _ (⟨((rd_T40 l0_3 a1).f0.f0), ((rd_T40 l0_3 a1).f0.f1)⟩ : S38) [.int .i64 ((rd_T40 l0_3 a1).f0.f0), .int .u64 ((rd_T40 l0_3 a1).f0.f1)] from (k38_mkM _ _ _ (⟨((rd_T40 l0_3 a1).f0.f0), ((rd_T40 l0_3 a1).f0.f1)⟩ : S38) )) (Reps.none _ _))); intro v263 w36 ho37 hb hg_ hnew_; clear hg_ hnew_; (first | rw [← Ny262.out] at ho37 | (simp only [Int.reduceToNat] at ho37; rw [← Ny262.out] at ho37)); have HO264 := Goto.m0 (Kd.R_lower ho37 (below_size (Goto.hx HB))); replace BK259 := Goto.bb BK259 hb; replace BK261 := Goto.bb BK261 hb; replace HB := Goto.hs HB hb; clear hb ho37))
         repeat (go_quiet (first | (apply wp_region_lit; refine tontineref1_routes.flatc ?_) | (with_reducible refine tontineref1_routes.flatc ?_) | (with_reducible refine tontineref1_routes.flatn ?_) | ((with_reducible refine gate_dst (N := 60) rfl ?_); (try (refine gate_guard (by rfl) ?_; dsimp only)); refine Kd.R_lit k38 _ 38 ?hg (N := 60) ?hd (xs := ([(⟨((rd_T40 l0_3 a1).f0.f0), ((rd_T40 l0_3 a1).f0.f1)⟩ : S38)] : List (S38))) (inner := [.int .i64 ((rd_T40 l0_3 a1).f0.f0), .int .u64 ((rd_T40 l0_3 a1).f0.f1)]) (ok := fun _ => True) (okp := fun _ => True) ?hr ?hp (fun _ hk => hk) trivial (Below.refl _ _) (Nat.le_refl _) (by simp) ?_; (case hd => rfl); (case hg => rfl); (case hr => first | (go_simp; done) | (go_simp; rfl)); (case hp => exact (Reps.c2 (show Kd.M k38 _ _ _ (⟨((rd_T40 l0_3 a1).f0.f0), ((rd_T40 l0_3 a1).f0.f1)⟩ : S38) [.int .i64 ((rd_T40 l0_3 a1).f0.f0), .int .u64 ((rd_T40 l0_3 a1).f0.f1)] from (k38_mkM _ _ _ (⟨((rd_T40 l0_3 a1).f0.f0), ((rd_T40 l0_3 a1).f0.f1)⟩ : S38) )) (Reps.none _ _))); intro v263 w36 ho37 hb hg_ hnew_; clear hg_ hnew_; (first | rw [← Ny262.out] at ho37 | (simp only [Int.reduceToNat] at ho37; rw [← Ny262.out] at ho37)); have HO264 := Goto.m0 (Kd.R_lower ho37 (below_size (Goto.hx HB))); replace BK259 := Goto.bb BK259 hb; replace BK261 := Goto.bb BK261 hb; replace HB := Goto.hs HB hb; clear hb ho37)); try go_wp2_with (first | (apply wp_region_lit; refine tontineref1_routes.flatc ?_) | (with_reducible refine tontineref1_routes.flatc ?_) | (with_reducible refine tontineref1_routes.flatn ?_) | ((with_reducible refine gate_dst (N := 60) rfl ?_); (try (refine gate_guard (by rfl) ?_; dsimp only)); refine Kd.R_lit k38 _ 38 ?hg (N := 60) ?hd (xs := ([(⟨((rd_T40 l0_3 a1).f0.f0), ((rd_T40 l0_3 a1).f0.f1)⟩ : S38)] : List (S38))) (inner := [.int .i64 ((rd_T40 l0_3 a1).f0.f0), .int .u64 ((rd_T40 l0_3 a1).f0.f1)]) (ok := fun _ => True) (okp := fun _ => True) ?hr ?hp (fun _ hk => hk) trivial (Below.refl _ _) (Nat.le_refl _) (by simp) ?_; (case hd => rfl); (case hg => rfl); (case hr => first | (go_simp; done) | (go_simp; rfl)); (case hp => exact (Reps.c2 (show Kd.M k38 _ _ _ (⟨((rd_T40 l0_3 a1).f0.f0), ((rd_T40 l0_3 a1).f0.f1)⟩ : S38) [.int .i64 ((rd_T40 l0_3 a1).f0.f0), .int .u64 ((rd_T40 l0_3 a1).f0.f1)] from (k38_mkM _ _ _ (⟨((rd_T40 l0_3 a1).f0.f0), ((rd_T40 l0_3 a1).f0.f1)⟩ : S38) )) (Reps.none _ _))); intro v263 w36 ho37 hb hg_ hnew_; clear hg_ hnew_; (first | rw [← Ny262.out] at ho37 | (simp only [Int.reduceToNat] at ho37; rw [← Ny262.out] at ho37)); have HO264 := Goto.m0 (Kd.R_lower ho37 (below_size (Goto.hx HB))); replace BK259 := Goto.bb BK259 hb; replace BK261 := Goto.bb BK261 hb; replace HB := Goto.hs HB hb; clear hb ho37)))
         go_loopg [7, 8] k2 (fun kq v7 v8 w' => ∃ (x7_3 : List (S38)) (x8_3 : Int), v8 = .int .i64 x8_3 ∧ Aside0 (tontineref1_routes.l1 kq x6_2 x7_3 x8_3 a0_0 a0_1 l0_2 l0_3 ((rd_T40 l0_3 a1).f0.f0) ((rd_T40 l0_3 a1).f0.f1) ((rd_T40 l0_3 a1).f1) ((rd_T40 l0_3 a1).f2) ((rd_T40 l0_3 a1).f3) ((rd_T40 l0_3 a1).f4) ((rd_T40 l0_3 a1).f5) ((rd_T40 l0_3 a1).f6) ((rd_T40 l0_3 a1).f7) ((rd_T40 l0_3 a1).f8) = some r) ∧ Aside0 (kq ≤ k2) ∧ Aside0 (Kd.R k38 38 w' w.heap.size (fun _ => True) v7 x7_3) ∧ Aside0 (w'.heap[gb259]? = some (.cells #[.int .i64 a0_0, .int .i64 a0_1, (.slice A0_2 l0_2.length c0_2), (.slice (some ad260) l0_3.length c0_3)] 25 (0, 0))) ∧ Aside0 (w'.heap[gb261]? = some (.cells #[.int .i64 ((rd_T40 l0_3 a1).f0.f0), .int .u64 ((rd_T40 l0_3 a1).f0.f1), (.slice A260_2 ((rd_T40 l0_3 a1).f1).length c260_2), (.slice A260_3 ((rd_T40 l0_3 a1).f2).length c260_3), .int .i64 ((rd_T40 l0_3 a1).f3), .int .i64 ((rd_T40 l0_3 a1).f4), .int .i64 ((rd_T40 l0_3 a1).f5), .int .i64 ((rd_T40 l0_3 a1).f6), .int .i64 ((rd_T40 l0_3 a1).f7), .int .i64 ((rd_T40 l0_3 a1).f8)] 40 (0, 0))) ∧ Aside0 (Below w.heap.size w w'))
         case atStart => exact ⟨(y262), (0), (by first | rfl | (simp; done) | (simp [*]; done)), H', ⟨Nat.le_refl _⟩, ⟨Goto.rk HO264⟩, ⟨Goto.bx BK259⟩, ⟨Goto.bx BK261⟩, ⟨Goto.hx HB⟩⟩
         case round =>
          clear H'
          try clear c1; try clear c2; try clear p2; try clear q2; try clear hx2; try clear c3; try clear c3b0; try clear c4; try clear c4b0; try clear c9; try clear c11; try clear c11b0; try clear c11b1; try clear c12; try clear c14; try clear c14b0; try clear c15; try clear c17; try clear c17b0; try clear c18; try clear c21; try clear c21b0; try clear c21b1; try clear c22; try clear c23; try clear c25; try clear c25b0; try clear c25b1; try clear c26; try clear p26; try clear q26; try clear hx26; try clear c29; try clear c32; try clear c33; try clear c33b0; try clear c34; try clear hcz10_0; try clear hcz10_1; try clear hcz10_2; try clear hcz10_3; try clear hcz10_4; try clear hcz10_5; try clear hcz10_6; try clear hcz10_7; try clear hcz10_8; try clear hcz10_9; try clear hcz13_0; try clear hcz13_1; try clear hcz13_2; try clear hcz13_3; try clear hcz13_4; try clear hcz13_5; try clear hcz13_6; try clear hcz13_7; try clear hcz13_8; try clear hcz13_9; try clear hcz16_0; try clear hcz16_1; try clear hcz16_2; try clear hcz16_3; try clear hcz16_4; try clear hcz16_5; try clear hcz16_6; try clear hcz16_7; try clear hcz16_8; try clear hcz16_9; try clear hcz19_0; try clear hcz19_1; try clear hcz19_2; try clear hcz19_3; try clear hcz19_4; try clear hcz19_5; try clear hcz19_6; try clear hcz19_7; try clear hcz19_8; try clear hcz19_9; try clear hcz20_0; try clear hcz20_1; try clear hcz20_2; try clear hcz20_3; try clear hcz23_0; try clear hcz23_1; try clear hcz23_2; try clear hcz23_3; try clear hcz23_4; try clear hcz23_5; try clear hcz23_6; try clear hcz23_7; try clear hcz23_8; try clear hcz23_9; try clear hcz24_0; try clear hcz24_1; try clear hcz24_2; try clear hcz24_3; try clear hcz27_0; try clear hcz27_1; try clear hcz27_2; try clear hcz27_3; try clear hcz27_4; try clear hcz27_5; try clear hcz27_6; try clear hcz27_7; try clear hcz27_8; try clear hcz27_9; try clear hcz28_0; try clear hcz28_1; try clear hcz28_2; try clear hcz28_3; try clear hcz30_0; try clear hcz30_1; try clear hcz30_2; try clear hcz30_3; try clear hcz30_4; try clear hcz30_5; try clear hcz30_6; try clear hcz30_7; try clear hcz30_8; try clear hcz30_9; try clear hcz31_0; try clear hcz31_1; try clear hcz31_2; try clear hcz31_3; try clear hcz35_0; try clear hcz35_1; try clear hcz35_2; try clear hcz35_3; try clear hcz35_4; try clear hcz35_5; try clear hcz35_6; try clear hcz35_7; try clear hcz35_8; try clear hcz35_9; try clear hcz7_0; try clear hcz7_1; try clear hcz7_2; try clear hcz7_3; try clear hfz10_0; try clear hfz10_1; try clear hfz10_2; try clear hfz10_3; try clear hfz10_4; try clear hfz10_5; try clear hfz10_6; try clear hfz10_7; try clear hfz10_8; try clear hfz10_9; try clear hfz13_0; try clear hfz13_1; try clear hfz13_2; try clear hfz13_3; try clear hfz13_4; try clear hfz13_5; try clear hfz13_6; try clear hfz13_7; try clear hfz13_8; try clear hfz13_9; try clear hfz16_0; try clear hfz16_1; try clear hfz16_2; try clear hfz16_3; try clear hfz16_4; try clear hfz16_5; try clear hfz16_6; try clear hfz16_7; try clear hfz16_8; try clear hfz16_9; try clear hfz19_0; try clear hfz19_1; try clear hfz19_2; try clear hfz19_3; try clear hfz19_4; try clear hfz19_5; try clear hfz19_6; try clear hfz19_7; try clear hfz19_8; try clear hfz19_9; try clear hfz20_0; try clear hfz20_1; try clear hfz20_2; try clear hfz20_3; try clear hfz23_0; try clear hfz23_1; try clear hfz23_2; try clear hfz23_3; try clear hfz23_4; try clear hfz23_5; try clear hfz23_6; try clear hfz23_7; try clear hfz23_8; try clear hfz23_9; try clear hfz24_0; try clear hfz24_1; try clear hfz24_2; try clear hfz24_3; try clear hfz27_0; try clear hfz27_1; try clear hfz27_2; try clear hfz27_3; try clear hfz27_4; try clear hfz27_5; try clear hfz27_6; try clear hfz27_7; try clear hfz27_8; try clear hfz27_9; try clear hfz28_0; try clear hfz28_1; try clear hfz28_2; try clear hfz28_3; try clear hfz30_0; try clear hfz30_1; try clear hfz30_2; try clear hfz30_3; try clear hfz30_4; try clear hfz30_5; try clear hfz30_6; try clear hfz30_7; try clear hfz30_8
          try clear hfz30_9; try clear hfz31_0; try clear hfz31_1; try clear hfz31_2; try clear hfz31_3; try clear hfz35_0; try clear hfz35_1; try clear hfz35_2; try clear hfz35_3; try clear hfz35_4; try clear hfz35_5; try clear hfz35_6; try clear hfz35_7; try clear hfz35_8; try clear hfz35_9; try clear hfz7_0; try clear hfz7_1; try clear hfz7_2; try clear hfz7_3; try clear hx260_0; try clear hx260_1; try clear hx260_2; try clear hx260_3; try clear hx260_4; try clear hx260_5; try clear hx260_6; try clear hx260_7; try clear hx260_8; try clear hx260_9; try clear p2; try clear p26; try clear p260; try clear q2; try clear q26; try clear q260
          obtain ⟨x7_3, x8_3, rfl, HA, HK3, HO_7, BK259, BK261, HB⟩ := hrel
          cases gk with
          | zero => exact absurd HA.out (by simp [tontineref1_routes.l1])
          | succ k3 =>
           have H := HA.out; clear HA
           simp only [tontineref1_routes.l1] at H
           by_cases c38 : 0 ≤ x6_2
           ·
            rw [if_pos c38] at H
            have c38b0 : decide (0 ≤ x6_2) = true := decide_eq_true c38
            clear c38
            by_cases c39 : x6_2 < (((rd_T40 l0_3 a1).f1).length : Int)
            ·
             rw [if_pos c39] at H
             have c39b0 : decide (x6_2 < (((rd_T40 l0_3 a1).f1).length : Int)) = true := decide_eq_true c39
             clear c39
             by_cases c40 : x8_3 < ((rd_L3 ((rd_T40 l0_3 a1).f1) x6_2).length : Int)
             ·
              rw [if_pos c40] at H
              have c40b0 : decide (x8_3 < ((rd_L3 ((rd_T40 l0_3 a1).f1) x6_2).length : Int)) = true := decide_eq_true c40
              clear c40
              by_cases c41 : 0 ≤ x8_3
              ·
               rw [if_pos c41] at H
               have c41b0 : decide (0 ≤ x8_3) = true := decide_eq_true c41
               clear c41
               replace H := Option.bind_eq_some_iff.mp H
               obtain ⟨t268, A420, H⟩ := H
               have A42 := Goto.m0 A420
               clear A420
               by_cases c43 : t268 = true
               ·
                subst c43
                rw [if_pos rfl] at H
                by_cases c44 : x8_3 > 300
                ·
                 rw [if_pos c44] at H
                 have c44b0 : decide (300 < x8_3) = true := decide_eq_true c44
                 clear c44
                 obtain rfl := Option.some.inj H
                 have hnb45 := NB261_259.out; have hnc45 := NB259_261.out
                 have hcz46_0 := Goto.bc0 BK261
                 have hcz46_1 := Goto.bc1 BK261
                 have hcz46_2 := Goto.bc2 BK261
                 have hcz46_3 := Goto.bc3 BK261
                 have hcz46_4 := Goto.bc4 BK261
                 have hcz46_5 := Goto.bc5 BK261
                 have hcz46_6 := Goto.bc6 BK261
                 have hcz46_7 := Goto.bc7 BK261
                 have hcz46_8 := Goto.bc8 BK261
                 have hcz46_9 := Goto.bc9 BK261
                 have hfz46_0 := Goto.bf BK261 0; have hfz46_1 := Goto.bf BK261 1; have hfz46_2 := Goto.bf BK261 2; have hfz46_3 := Goto.bf BK261 3; have hfz46_4 := Goto.bf BK261 4; have hfz46_5 := Goto.bf BK261 5; have hfz46_6 := Goto.bf BK261 6; have hfz46_7 := Goto.bf BK261 7; have hfz46_8 := Goto.bf BK261 8; have hfz46_9 := Goto.bf BK261 9
                 have p265 : 0 ≤ (x6_2 : Int) := Goto.od
                 have q265 : x6_2 < (((rd_T40 l0_3 a1).f1).length : Int) := Goto.od
                 obtain ⟨ad265, A265_0, c265_0, e265, hx265_0, hl265_0, hi265_0⟩ := at_L3 HR260_2.out x6_2 p265 q265
                 cases e265
                 replace hx265_0 := Goto.kc HB.out hx265_0
                 have HR265_0 := Goto.m0 hi265_0
                 have HC265_0 := Goto.m0 hl265_0
                 clear hi265_0 hl265_0; replace p265 := eq_true p265; replace q265 := eq_true q265
                 have p266 : 0 ≤ (x6_2 : Int) := Goto.od
                 have q266 : x6_2 < (((rd_T40 l0_3 a1).f1).length : Int) := Goto.od
                 obtain ⟨ad266, A266_0, c266_0, e266, hx266_0, hl266_0, hi266_0⟩ := at_L3 HR260_2.out x6_2 p266 q266
                 obtain rfl : ad265 = ad266 := (by injection e266)
                 replace hx266_0 := Goto.kc HB.out hx266_0
                 have HR266_0 := Goto.m0 hi266_0
                 have HC266_0 := Goto.m0 hl266_0
                 clear hi266_0 hl266_0; replace p266 := eq_true p266; replace q266 := eq_true q266
                 have ea_ := Option.some.inj (hx265_0.symm.trans hx266_0)
                 injection ea_ with ea_ en_ ec_
                 subst ea_
                 subst ec_
                 clear en_
                 have p267 : 0 ≤ (x8_3 : Int) := Goto.od
                 have q267 : x8_3 < ((rd_L3 ((rd_T40 l0_3 a1).f1) x6_2).length : Int) := Goto.od
                 obtain ⟨ad267, e267, hx267_0⟩ := Kd.at_int HR266_0.out x8_3 p267 q267
                 cases e267
                 replace hx267_0 := Goto.kc HB.out hx267_0
                 replace p267 := eq_true p267; replace q267 := eq_true q267; have hcz47_0 := Goto.bc0 BK259; have hcz47_1 := Goto.bc1 BK259; have hcz47_2 := Goto.bc2 BK259
                 have hcz47_3 := Goto.bc3 BK259
                 have hfz47_0 := Goto.bf BK259 0; have hfz47_1 := Goto.bf BK259 1; have hfz47_2 := Goto.bf BK259 2; have hfz47_3 := Goto.bf BK259 3
                 (try clear HO_7)
                 go_wp2_with (first | (apply wp_region_lit; refine tontineref1_routes.flatc ?_) | (with_reducible refine tontineref1_routes.flatc ?_) | (with_reducible refine tontineref1_routes.flatn ?_) | (go_at_call 20; (with_reducible refine (tontineref1_within.calls (rd (rd_L3 ((rd_T40 l0_3 a1).f1) x6_2) x8_3) 0 (wrap64 ((l0_3.length : Int) - 1)) true _ A42.out).mono ?_); rintro e w' ⟨rfl, ⟨nd, rfl⟩⟩; (try first | exact ⟨rfl, _, World.drewN_drewN _ _ _⟩ | exact ⟨rfl, _, Eq.trans (World.drewN_drewN _ _ _) (congrArg (World.drewN _) (Nat.add_assoc _ _ _))⟩)))
                 repeat (go_quiet (first | (apply wp_region_lit; refine tontineref1_routes.flatc ?_) | (with_reducible refine tontineref1_routes.flatc ?_) | (with_reducible refine tontineref1_routes.flatn ?_) | (go_at_call 20; (with_reducible refine (tontineref1_within.calls (rd (rd_L3 ((rd_T40 l0_3 a1).f1) x6_2) x8_3) 0 (wrap64 ((l0_3.length : Int) - 1)) true _ A42.out).mono ?_); rintro e w' ⟨rfl, ⟨nd, rfl⟩⟩; (try first | exact ⟨rfl, _, World.drewN_drewN _ _ _⟩ | exact ⟨rfl, _, Eq.trans (World.drewN_drewN _ _ _) (congrArg (World.drewN _) (Nat.add_assoc _ _ _))⟩))); try go_wp2_with (first | (apply wp_region_lit; refine tontineref1_routes.flatc ?_) | (with_reducible refine tontineref1_routes.flatc ?_) | (with_reducible refine tontineref1_routes.flatn ?_) | (go_at_call 20; (with_reducible refine (tontineref1_within.calls (rd (rd_L3 ((rd_T40 l0_3 a1).f1) x6_2) x8_3) 0 (wrap64 ((l0_3.length : Int) - 1)) true _ A42.out).mono ?_); rintro e w' ⟨rfl, ⟨nd, rfl⟩⟩; (try first | exact ⟨rfl, _, World.drewN_drewN _ _ _⟩ | exact ⟨rfl, _, Eq.trans (World.drewN_drewN _ _ _) (congrArg (World.drewN _) (Nat.add_assoc _ _ _))⟩))))
                 go_ret
                 exact ⟨Goto.er, by repeat (first | (with_reducible first | exact HB.out | apply below_alloc | apply pw_below_drewN | apply below_drew1 | refine below_set ?_ GE259.out | refine below_set ?_ GE261.out) | exact HB.out)⟩
                ·
                 rw [if_neg c44] at H
                 have c44b0 : decide (300 < x8_3) = false := decide_eq_false c44
                 clear c44
                 by_cases c48 : 0 ≤ (rd (rd_L3 ((rd_T40 l0_3 a1).f1) x6_2) x8_3)
                 ·
                  rw [if_pos c48] at H
                  have c48b0 : decide (0 ≤ (rd (rd_L3 ((rd_T40 l0_3 a1).f1) x6_2) x8_3)) = true := decide_eq_true c48
                  clear c48
                  by_cases c49 : (rd (rd_L3 ((rd_T40 l0_3 a1).f1) x6_2) x8_3) < (l0_3.length : Int)
                  ·
                   rw [if_pos c49] at H
                   have c49b0 : decide ((rd (rd_L3 ((rd_T40 l0_3 a1).f1) x6_2) x8_3) < (l0_3.length : Int)) = true := decide_eq_true c49
                   clear c49
                   by_cases c50 : x7_3.length < 8796093022208
                   ·
                    rw [if_pos c50] at H
                    have LMc50 := Goto.m0 c50
                    clear c50
                    obtain ⟨y270, hy270⟩ : ∃ y_ : List (S38), y_ = (x7_3 ++ [(⟨(rd_T40 l0_3 (rd (rd_L3 ((rd_T40 l0_3 a1).f1) x6_2) x8_3)).f0.f0, (rd_T40 l0_3 (rd (rd_L3 ((rd_T40 l0_3 a1).f1) x6_2) x8_3)).f0.f1⟩ : S38)]) := ⟨_, rfl⟩
                    replace H : (tontineref1_routes.l1 k3 x6_2 y270 (wrap64 (x8_3 + 1)) a0_0 a0_1 l0_2 l0_3 ((rd_T40 l0_3 a1).f0.f0) ((rd_T40 l0_3 a1).f0.f1) ((rd_T40 l0_3 a1).f1) ((rd_T40 l0_3 a1).f2) ((rd_T40 l0_3 a1).f3) ((rd_T40 l0_3 a1).f4) ((rd_T40 l0_3 a1).f5) ((rd_T40 l0_3 a1).f6) ((rd_T40 l0_3 a1).f7) ((rd_T40 l0_3 a1).f8)) = some r := by first | (rw [hy270]; with_reducible exact H) | (have H2_ := (Option.bind_some _ _).symm.trans H; rw [hy270]; with_reducible exact H2_) | (have H2_ := (Option.bind_some _ _).symm.trans H; with_reducible exact H2_) | with_reducible exact H | (rw [hy270]; exact H) | exact H
                    have Ny270 := Goto.m0 hy270
                    clear hy270
                    have H' := Goto.m0 H
                    clear H; have hnb51 := NB261_259.out; have hnc51 := NB259_261.out
                    have hcz52_0 := Goto.bc0 BK261
                    have hcz52_1 := Goto.bc1 BK261
                    have hcz52_2 := Goto.bc2 BK261
                    have hcz52_3 := Goto.bc3 BK261
                    have hcz52_4 := Goto.bc4 BK261
                    have hcz52_5 := Goto.bc5 BK261
                    have hcz52_6 := Goto.bc6 BK261
                    have hcz52_7 := Goto.bc7 BK261
                    have hcz52_8 := Goto.bc8 BK261
                    have hcz52_9 := Goto.bc9 BK261
                    have hfz52_0 := Goto.bf BK261 0; have hfz52_1 := Goto.bf BK261 1; have hfz52_2 := Goto.bf BK261 2; have hfz52_3 := Goto.bf BK261 3; have hfz52_4 := Goto.bf BK261 4; have hfz52_5 := Goto.bf BK261 5; have hfz52_6 := Goto.bf BK261 6; have hfz52_7 := Goto.bf BK261 7; have hfz52_8 := Goto.bf BK261 8; have hfz52_9 := Goto.bf BK261 9
                    have p265 : 0 ≤ (x6_2 : Int) := Goto.od
                    have q265 : x6_2 < (((rd_T40 l0_3 a1).f1).length : Int) := Goto.od
                    obtain ⟨ad265, A265_0, c265_0, e265, hx265_0, hl265_0, hi265_0⟩ := at_L3 HR260_2.out x6_2 p265 q265
                    cases e265
                    replace hx265_0 := Goto.kc HB.out hx265_0
                    have HR265_0 := Goto.m0 hi265_0
                    have HC265_0 := Goto.m0 hl265_0
                    clear hi265_0 hl265_0; replace p265 := eq_true p265; replace q265 := eq_true q265
                    have p266 : 0 ≤ (x6_2 : Int) := Goto.od
                    have q266 : x6_2 < (((rd_T40 l0_3 a1).f1).length : Int) := Goto.od
                    obtain ⟨ad266, A266_0, c266_0, e266, hx266_0, hl266_0, hi266_0⟩ := at_L3 HR260_2.out x6_2 p266 q266
                    obtain rfl : ad265 = ad266 := (by injection e266)
                    replace hx266_0 := Goto.kc HB.out hx266_0
                    have HR266_0 := Goto.m0 hi266_0
                    have HC266_0 := Goto.m0 hl266_0
                    clear hi266_0 hl266_0; replace p266 := eq_true p266; replace q266 := eq_true q266
                    have ea_ := Option.some.inj (hx265_0.symm.trans hx266_0)
                    injection ea_ with ea_ en_ ec_
                    subst ea_
                    subst ec_
                    clear en_
                    have p267 : 0 ≤ (x8_3 : Int) := Goto.od
                    have q267 : x8_3 < ((rd_L3 ((rd_T40 l0_3 a1).f1) x6_2).length : Int) := Goto.od
                    obtain ⟨ad267, e267, hx267_0⟩ := Kd.at_int HR266_0.out x8_3 p267 q267
                    cases e267
                    replace hx267_0 := Goto.kc HB.out hx267_0
                    replace p267 := eq_true p267; replace q267 := eq_true q267; have hcz53_0 := Goto.bc0 BK259; have hcz53_1 := Goto.bc1 BK259; have hcz53_2 := Goto.bc2 BK259
                    have hcz53_3 := Goto.bc3 BK259
                    have hfz53_0 := Goto.bf BK259 0; have hfz53_1 := Goto.bf BK259 1; have hfz53_2 := Goto.bf BK259 2; have hfz53_3 := Goto.bf BK259 3
                    go_wp2_with (first | (apply wp_region_lit; refine tontineref1_routes.flatc ?_) | (with_reducible refine tontineref1_routes.flatc ?_) | (with_reducible refine tontineref1_routes.flatn ?_) | (go_at_call 20; (with_reducible refine (tontineref1_within.calls (rd (rd_L3 ((rd_T40 l0_3 a1).f1) x6_2) x8_3) 0 (wrap64 ((l0_3.length : Int) - 1)) true _ A42.out).mono ?_); rintro e w' ⟨rfl, ⟨nd, rfl⟩⟩; (try first | exact ⟨rfl, _, World.drewN_drewN _ _ _⟩ | exact ⟨rfl, _, Eq.trans (World.drewN_drewN _ _ _) (congrArg (World.drewN _) (Nat.add_assoc _ _ _))⟩); have p269 : 0 ≤ ((rd (rd_L3 ((rd_T40 l0_3 a1).f1) x6_2) x8_3) : Int) := Goto.od; have q269 : (rd (rd_L3 ((rd_T40 l0_3 a1).f1) x6_2) x8_3) < (l0_3.length : Int) := Goto.od; obtain ⟨ad269, A269_2, c269_2, A269_3, c269_3, e269, hx269_0, hx269_1, hx269_2, hx269_3, hx269_4, hx269_5, hx269_6, hx269_7, hx269_8, hx269_9, hl269_2, hi269_2, hl269_3, hi269_3⟩ := at_T40 HR0_3.out (rd (rd_L3 ((rd_T40 l0_3 a1).f1) x6_2) x8_3) p269 q269; obtain rfl : ad260 = ad269 := (by injection e269); replace hx269_0 := Goto.kc HB.out hx269_0; replace hx269_1 := Goto.kc HB.out hx269_1; replace hx269_2 := Goto.kc HB.out hx269_2; replace hx269_3 := Goto.kc HB.out hx269_3; replace hx269_4 := Goto.kc HB.out hx269_4; replace hx269_5 := Goto.kc HB.out hx269_5; replace hx269_6 := Goto.kc HB.out hx269_6; replace hx269_7 := Goto.kc HB.out hx269_7; replace hx269_8 := Goto.kc HB.out hx269_8; replace hx269_9 := Goto.kc HB.out hx269_9; have HR269_2 := Goto.m0 hi269_2; have HC269_2 := Goto.m0 hl269_2; clear hi269_2 hl269_2; have HR269_3 := Goto.m0 hi269_3; have HC269_3 := Goto.m0 hl269_3; clear hi269_3 hl269_3; replace p269 := eq_true p269; replace q269 := eq_true q269) | ((with_reducible refine gate_builtin (b := .append) (xs := #[.tmp 90, .tmp 97]) rfl ?_); (try (refine gate_guard (by rfl) ?_; dsimp only)); at_builtin; refine Kd.R_append k38 (w0 := w) w.heap.size rfl (.tmp 90) (.tmp 97) 70 38 (.agg #[(.int .i64 0), (.int .u64 0)]) 16 rfl Tryd.underlying70 info38 rfl (by decide) (by omega) u7 x7_3 (⟨(rd_T40 l0_3 (rd (rd_L3 ((rd_T40 l0_3 a1).f1) x6_2) x8_3)).f0.f0, (rd_T40 l0_3 (rd (rd_L3 ((rd_T40 l0_3 a1).f1) x6_2) x8_3)).f0.f1⟩ : S38) [.int .i64 ((rd_T40 l0_3 (rd (rd_L3 ((rd_T40 l0_3 a1).f1) x6_2) x8_3)).f0.f0), .int .u64 ((rd_T40 l0_3 (rd (rd_L3 ((rd_T40 l0_3 a1).f1) x6_2) x8_3)).f0.f1)] (fun _ => True) (fun _ => False) rfl rfl ?aP (fun _ hk => hk.elim) ?aF ?aO ?aB ?aS ?aL ?_; (case aP => exact k38_mkM _ _ _ (⟨(rd_T40 l0_3 (rd (rd_L3 ((rd_T40 l0_3 a1).f1) x6_2) x8_3)).f0.f0, (rd_T40 l0_3 (rd (rd_L3 ((rd_T40 l0_3 a1).f1) x6_2) x8_3)).f0.f1⟩ : S38)); (case aB => exact (Goto.hx HB)); (case aF => exact (fun _ _ => trivial)); (case aO => exact (Goto.rk HO_7)); (case aS => exact (below_size (Goto.hx HB))); (case aL => have := LMc50.out; omega); intro v271 w54 ho hb hg hat; rw [← Ny270.out] at ho; have n0_ := Goto.m0 (blk_grown (g := gb259) (o := .cells #[.int .i64 a0_0, .int .i64 a0_1, .slice A0_2 l0_2.length c0_2, .slice (some ad260) l0_3.length c0_3] 25 (0, 0)) (Goto.bx BK259) hg (Kd.R_ne HO_7.out BK259.out (by decide))); have n1_ := Goto.m0 (blk_grown (g := gb261) (o := .cells #[.int .i64 ((rd_T40 l0_3 a1).f0.f0), .int .u64 ((rd_T40 l0_3 a1).f0.f1), .slice (some ad265) ((rd_T40 l0_3 a1).f1).length c260_2, .slice A260_3 ((rd_T40 l0_3 a1).f2).length c260_3, .int .i64 ((rd_T40 l0_3 a1).f3), .int .i64 ((rd_T40 l0_3 a1).f4), .int .i64 ((rd_T40 l0_3 a1).f5), .int .i64 ((rd_T40 l0_3 a1).f6), .int .i64 ((rd_T40 l0_3 a1).f7), .int .i64 ((rd_T40 l0_3 a1).f8)] 40 (0, 0)) (Goto.bx BK261) hg (Kd.R_ne HO_7.out BK261.out (by decide))); have n2_ := Goto.m0 (hb); have n3_ := Goto.m0 (ho); clear BK259; clear BK261; clear HB; clear HO_7; have BK259 := n0_; have BK261 := n1_; have HB := n2_; have HO272 := n3_; clear n0_ n1_ n2_ n3_; clear ho hb hg hat))
                    repeat (go_quiet (first | (apply wp_region_lit; refine tontineref1_routes.flatc ?_) | (with_reducible refine tontineref1_routes.flatc ?_) | (with_reducible refine tontineref1_routes.flatn ?_) | (go_at_call 20; (with_reducible refine (tontineref1_within.calls (rd (rd_L3 ((rd_T40 l0_3 a1).f1) x6_2) x8_3) 0 (wrap64 ((l0_3.length : Int) - 1)) true _ A42.out).mono ?_); rintro e w' ⟨rfl, ⟨nd, rfl⟩⟩; (try first | exact ⟨rfl, _, World.drewN_drewN _ _ _⟩ | exact ⟨rfl, _, Eq.trans (World.drewN_drewN _ _ _) (congrArg (World.drewN _) (Nat.add_assoc _ _ _))⟩); have p269 : 0 ≤ ((rd (rd_L3 ((rd_T40 l0_3 a1).f1) x6_2) x8_3) : Int) := Goto.od; have q269 : (rd (rd_L3 ((rd_T40 l0_3 a1).f1) x6_2) x8_3) < (l0_3.length : Int) := Goto.od; obtain ⟨ad269, A269_2, c269_2, A269_3, c269_3, e269, hx269_0, hx269_1, hx269_2, hx269_3, hx269_4, hx269_5, hx269_6, hx269_7, hx269_8, hx269_9, hl269_2, hi269_2, hl269_3, hi269_3⟩ := at_T40 HR0_3.out (rd (rd_L3 ((rd_T40 l0_3 a1).f1) x6_2) x8_3) p269 q269; obtain rfl : ad260 = ad269 := (by injection e269); replace hx269_0 := Goto.kc HB.out hx269_0; replace hx269_1 := Goto.kc HB.out hx269_1; replace hx269_2 := Goto.kc HB.out hx269_2; replace hx269_3 := Goto.kc HB.out hx269_3; replace hx269_4 := Goto.kc HB.out hx269_4; replace hx269_5 := Goto.kc HB.out hx269_5; replace hx269_6 := Goto.kc HB.out hx269_6; replace hx269_7 := Goto.kc HB.out hx269_7; replace hx269_8 := Goto.kc HB.out hx269_8; replace hx269_9 := Goto.kc HB.out hx269_9; have HR269_2 := Goto.m0 hi269_2; have HC269_2 := Goto.m0 hl269_2; clear hi269_2 hl269_2; have HR269_3 := Goto.m0 hi269_3; have HC269_3 := Goto.m0 hl269_3; clear hi269_3 hl269_3; replace p269 := eq_true p269; replace q269 := eq_true q269) | ((with_reducible refine gate_builtin (b := .append) (xs := #[.tmp 90, .tmp 97]) rfl ?_); (try (refine gate_guard (by rfl) ?_; dsimp only)); at_builtin; refine Kd.R_append k38 (w0 := w) w.heap.size rfl (.tmp 90) (.tmp 97) 70 38 (.agg #[(.int .i64 0), (.int .u64 0)]) 16 rfl Tryd.underlying70 info38 rfl (by decide) (by omega) u7 x7_3 (⟨(rd_T40 l0_3 (rd (rd_L3 ((rd_T40 l0_3 a1).f1) x6_2) x8_3)).f0.f0, (rd_T40 l0_3 (rd (rd_L3 ((rd_T40 l0_3 a1).f1) x6_2) x8_3)).f0.f1⟩ : S38) [.int .i64 ((rd_T40 l0_3 (rd (rd_L3 ((rd_T40 l0_3 a1).f1) x6_2) x8_3)).f0.f0), .int .u64 ((rd_T40 l0_3 (rd (rd_L3 ((rd_T40 l0_3 a1).f1) x6_2) x8_3)).f0.f1)] (fun _ => True) (fun _ => False) rfl rfl ?aP (fun _ hk => hk.elim) ?aF ?aO ?aB ?aS ?aL ?_; (case aP => exact k38_mkM _ _ _ (⟨(rd_T40 l0_3 (rd (rd_L3 ((rd_T40 l0_3 a1).f1) x6_2) x8_3)).f0.f0, (rd_T40 l0_3 (rd (rd_L3 ((rd_T40 l0_3 a1).f1) x6_2) x8_3)).f0.f1⟩ : S38)); (case aB => exact (Goto.hx HB)); (case aF => exact (fun _ _ => trivial)); (case aO => exact (Goto.rk HO_7)); (case aS => exact (below_size (Goto.hx HB))); (case aL => have := LMc50.out; omega); intro v271 w54 ho hb hg hat; rw [← Ny270.out] at ho; have n0_ := Goto.m0 (blk_grown (g := gb259) (o := .cells #[.int .i64 a0_0, .int .i64 a0_1, .slice A0_2 l0_2.length c0_2, .slice (some ad260) l0_3.length c0_3] 25 (0, 0)) (Goto.bx BK259) hg (Kd.R_ne HO_7.out BK259.out (by decide))); have n1_ := Goto.m0 (blk_grown (g := gb261) (o := .cells #[.int .i64 ((rd_T40 l0_3 a1).f0.f0), .int .u64 ((rd_T40 l0_3 a1).f0.f1), .slice (some ad265) ((rd_T40 l0_3 a1).f1).length c260_2, .slice A260_3 ((rd_T40 l0_3 a1).f2).length c260_3, .int .i64 ((rd_T40 l0_3 a1).f3), .int .i64 ((rd_T40 l0_3 a1).f4), .int .i64 ((rd_T40 l0_3 a1).f5), .int .i64 ((rd_T40 l0_3 a1).f6), .int .i64 ((rd_T40 l0_3 a1).f7), .int .i64 ((rd_T40 l0_3 a1).f8)] 40 (0, 0)) (Goto.bx BK261) hg (Kd.R_ne HO_7.out BK261.out (by decide))); have n2_ := Goto.m0 (hb); have n3_ := Goto.m0 (ho); clear BK259; clear BK261; clear HB; clear HO_7; have BK259 := n0_; have BK261 := n1_; have HB := n2_; have HO272 := n3_; clear n0_ n1_ n2_ n3_; clear ho hb hg hat)); try go_wp2_with (first | (apply wp_region_lit; refine tontineref1_routes.flatc ?_) | (with_reducible refine tontineref1_routes.flatc ?_) | (with_reducible refine tontineref1_routes.flatn ?_) | (go_at_call 20; (with_reducible refine (tontineref1_within.calls (rd (rd_L3 ((rd_T40 l0_3 a1).f1) x6_2) x8_3) 0 (wrap64 ((l0_3.length : Int) - 1)) true _ A42.out).mono ?_); rintro e w' ⟨rfl, ⟨nd, rfl⟩⟩; (try first | exact ⟨rfl, _, World.drewN_drewN _ _ _⟩ | exact ⟨rfl, _, Eq.trans (World.drewN_drewN _ _ _) (congrArg (World.drewN _) (Nat.add_assoc _ _ _))⟩); have p269 : 0 ≤ ((rd (rd_L3 ((rd_T40 l0_3 a1).f1) x6_2) x8_3) : Int) := Goto.od; have q269 : (rd (rd_L3 ((rd_T40 l0_3 a1).f1) x6_2) x8_3) < (l0_3.length : Int) := Goto.od; obtain ⟨ad269, A269_2, c269_2, A269_3, c269_3, e269, hx269_0, hx269_1, hx269_2, hx269_3, hx269_4, hx269_5, hx269_6, hx269_7, hx269_8, hx269_9, hl269_2, hi269_2, hl269_3, hi269_3⟩ := at_T40 HR0_3.out (rd (rd_L3 ((rd_T40 l0_3 a1).f1) x6_2) x8_3) p269 q269; obtain rfl : ad260 = ad269 := (by injection e269); replace hx269_0 := Goto.kc HB.out hx269_0; replace hx269_1 := Goto.kc HB.out hx269_1; replace hx269_2 := Goto.kc HB.out hx269_2; replace hx269_3 := Goto.kc HB.out hx269_3; replace hx269_4 := Goto.kc HB.out hx269_4; replace hx269_5 := Goto.kc HB.out hx269_5; replace hx269_6 := Goto.kc HB.out hx269_6; replace hx269_7 := Goto.kc HB.out hx269_7; replace hx269_8 := Goto.kc HB.out hx269_8; replace hx269_9 := Goto.kc HB.out hx269_9; have HR269_2 := Goto.m0 hi269_2; have HC269_2 := Goto.m0 hl269_2; clear hi269_2 hl269_2; have HR269_3 := Goto.m0 hi269_3; have HC269_3 := Goto.m0 hl269_3; clear hi269_3 hl269_3; replace p269 := eq_true p269; replace q269 := eq_true q269) | ((with_reducible refine gate_builtin (b := .append) (xs := #[.tmp 90, .tmp 97]) rfl ?_); (try (refine gate_guard (by rfl) ?_; dsimp only)); at_builtin; refine Kd.R_append k38 (w0 := w) w.heap.size rfl (.tmp 90) (.tmp 97) 70 38 (.agg #[(.int .i64 0), (.int .u64 0)]) 16 rfl Tryd.underlying70 info38 rfl (by decide) (by omega) u7 x7_3 (⟨(rd_T40 l0_3 (rd (rd_L3 ((rd_T40 l0_3 a1).f1) x6_2) x8_3)).f0.f0, (rd_T40 l0_3 (rd (rd_L3 ((rd_T40 l0_3 a1).f1) x6_2) x8_3)).f0.f1⟩ : S38) [.int .i64 ((rd_T40 l0_3 (rd (rd_L3 ((rd_T40 l0_3 a1).f1) x6_2) x8_3)).f0.f0), .int .u64 ((rd_T40 l0_3 (rd (rd_L3 ((rd_T40 l0_3 a1).f1) x6_2) x8_3)).f0.f1)] (fun _ => True) (fun _ => False) rfl rfl ?aP (fun _ hk => hk.elim) ?aF ?aO ?aB ?aS ?aL ?_; (case aP => exact k38_mkM _ _ _ (⟨(rd_T40 l0_3 (rd (rd_L3 ((rd_T40 l0_3 a1).f1) x6_2) x8_3)).f0.f0, (rd_T40 l0_3 (rd (rd_L3 ((rd_T40 l0_3 a1).f1) x6_2) x8_3)).f0.f1⟩ : S38)); (case aB => exact (Goto.hx HB)); (case aF => exact (fun _ _ => trivial)); (case aO => exact (Goto.rk HO_7)); (case aS => exact (below_size (Goto.hx HB))); (case aL => have := LMc50.out; omega); intro v271 w54 ho hb hg hat; rw [← Ny270.out] at ho; have n0_ := Goto.m0 (blk_grown (g := gb259) (o := .cells #[.int .i64 a0_0, .int .i64 a0_1, .slice A0_2 l0_2.length c0_2, .slice (some ad260) l0_3.length c0_3] 25 (0, 0)) (Goto.bx BK259) hg (Kd.R_ne HO_7.out BK259.out (by decide))); have n1_ := Goto.m0 (blk_grown (g := gb261) (o := .cells #[.int .i64 ((rd_T40 l0_3 a1).f0.f0), .int .u64 ((rd_T40 l0_3 a1).f0.f1), .slice (some ad265) ((rd_T40 l0_3 a1).f1).length c260_2, .slice A260_3 ((rd_T40 l0_3 a1).f2).length c260_3, .int .i64 ((rd_T40 l0_3 a1).f3), .int .i64 ((rd_T40 l0_3 a1).f4), .int .i64 ((rd_T40 l0_3 a1).f5), .int .i64 ((rd_T40 l0_3 a1).f6), .int .i64 ((rd_T40 l0_3 a1).f7), .int .i64 ((rd_T40 l0_3 a1).f8)] 40 (0, 0)) (Goto.bx BK261) hg (Kd.R_ne HO_7.out BK261.out (by decide))); have n2_ := Goto.m0 (hb); have n3_ := Goto.m0 (ho); clear BK259; clear BK261; clear HB; clear HO_7; have BK259 := n0_; have BK261 := n1_; have HB := n2_; have HO272 := n3_; clear n0_ n1_ n2_ n3_; clear ho hb hg hat)))
                    go_roundg k3
                    case measure => have := HJ4.out; have := HK2.out; have := HK3.out; omega
                    case rel => exact ⟨(y270), (wrap64 (x8_3 + 1)), (by first | rfl | (simp; done) | (simp [*]; done)), H', ⟨by have := HJ4.out; have := HK2.out; have := HK3.out; omega⟩, ⟨Goto.rk HO272⟩, ⟨Goto.bx BK259⟩, ⟨Goto.bx BK261⟩, ⟨Goto.hx HB⟩⟩
                   ·
                    rw [if_neg c50] at H
                    exact absurd H (by simp)
                  ·
                   rw [if_neg c49] at H
                   exact absurd H (by simp)
                 ·
                  rw [if_neg c48] at H
                  exact absurd H (by simp)
               ·
                replace c43 := Bool.eq_false_iff.mpr c43
                subst c43
                rw [if_neg (show ¬ (false = true) by decide)] at H
                obtain rfl := Option.some.inj H
                have hnb55 := NB261_259.out; have hnc55 := NB259_261.out
                have hcz56_0 := Goto.bc0 BK261
                have hcz56_1 := Goto.bc1 BK261
                have hcz56_2 := Goto.bc2 BK261
                have hcz56_3 := Goto.bc3 BK261
                have hcz56_4 := Goto.bc4 BK261
                have hcz56_5 := Goto.bc5 BK261
                have hcz56_6 := Goto.bc6 BK261
                have hcz56_7 := Goto.bc7 BK261
                have hcz56_8 := Goto.bc8 BK261
                have hcz56_9 := Goto.bc9 BK261
                have hfz56_0 := Goto.bf BK261 0; have hfz56_1 := Goto.bf BK261 1; have hfz56_2 := Goto.bf BK261 2; have hfz56_3 := Goto.bf BK261 3; have hfz56_4 := Goto.bf BK261 4; have hfz56_5 := Goto.bf BK261 5; have hfz56_6 := Goto.bf BK261 6; have hfz56_7 := Goto.bf BK261 7; have hfz56_8 := Goto.bf BK261 8; have hfz56_9 := Goto.bf BK261 9
                have p265 : 0 ≤ (x6_2 : Int) := Goto.od
                have q265 : x6_2 < (((rd_T40 l0_3 a1).f1).length : Int) := Goto.od
                obtain ⟨ad265, A265_0, c265_0, e265, hx265_0, hl265_0, hi265_0⟩ := at_L3 HR260_2.out x6_2 p265 q265
                cases e265
                replace hx265_0 := Goto.kc HB.out hx265_0
                have HR265_0 := Goto.m0 hi265_0
                have HC265_0 := Goto.m0 hl265_0
                clear hi265_0 hl265_0; replace p265 := eq_true p265; replace q265 := eq_true q265
                have p266 : 0 ≤ (x6_2 : Int) := Goto.od
                have q266 : x6_2 < (((rd_T40 l0_3 a1).f1).length : Int) := Goto.od
                obtain ⟨ad266, A266_0, c266_0, e266, hx266_0, hl266_0, hi266_0⟩ := at_L3 HR260_2.out x6_2 p266 q266
                obtain rfl : ad265 = ad266 := (by injection e266)
                replace hx266_0 := Goto.kc HB.out hx266_0
                have HR266_0 := Goto.m0 hi266_0
                have HC266_0 := Goto.m0 hl266_0
                clear hi266_0 hl266_0; replace p266 := eq_true p266; replace q266 := eq_true q266
                have ea_ := Option.some.inj (hx265_0.symm.trans hx266_0)
                injection ea_ with ea_ en_ ec_
                subst ea_
                subst ec_
                clear en_
                have p267 : 0 ≤ (x8_3 : Int) := Goto.od
                have q267 : x8_3 < ((rd_L3 ((rd_T40 l0_3 a1).f1) x6_2).length : Int) := Goto.od
                obtain ⟨ad267, e267, hx267_0⟩ := Kd.at_int HR266_0.out x8_3 p267 q267
                cases e267
                replace hx267_0 := Goto.kc HB.out hx267_0
                replace p267 := eq_true p267; replace q267 := eq_true q267; have hcz57_0 := Goto.bc0 BK259; have hcz57_1 := Goto.bc1 BK259; have hcz57_2 := Goto.bc2 BK259
                have hcz57_3 := Goto.bc3 BK259
                have hfz57_0 := Goto.bf BK259 0; have hfz57_1 := Goto.bf BK259 1; have hfz57_2 := Goto.bf BK259 2; have hfz57_3 := Goto.bf BK259 3
                (try clear HO_7)
                go_wp2_with (first | (apply wp_region_lit; refine tontineref1_routes.flatc ?_) | (with_reducible refine tontineref1_routes.flatc ?_) | (with_reducible refine tontineref1_routes.flatn ?_) | (go_at_call 20; (with_reducible refine (tontineref1_within.calls (rd (rd_L3 ((rd_T40 l0_3 a1).f1) x6_2) x8_3) 0 (wrap64 ((l0_3.length : Int) - 1)) false _ A42.out).mono ?_); rintro e w' ⟨rfl, ⟨nd, rfl⟩⟩; (try first | exact ⟨rfl, _, World.drewN_drewN _ _ _⟩ | exact ⟨rfl, _, Eq.trans (World.drewN_drewN _ _ _) (congrArg (World.drewN _) (Nat.add_assoc _ _ _))⟩)))
                repeat (go_quiet (first | (apply wp_region_lit; refine tontineref1_routes.flatc ?_) | (with_reducible refine tontineref1_routes.flatc ?_) | (with_reducible refine tontineref1_routes.flatn ?_) | (go_at_call 20; (with_reducible refine (tontineref1_within.calls (rd (rd_L3 ((rd_T40 l0_3 a1).f1) x6_2) x8_3) 0 (wrap64 ((l0_3.length : Int) - 1)) false _ A42.out).mono ?_); rintro e w' ⟨rfl, ⟨nd, rfl⟩⟩; (try first | exact ⟨rfl, _, World.drewN_drewN _ _ _⟩ | exact ⟨rfl, _, Eq.trans (World.drewN_drewN _ _ _) (congrArg (World.drewN _) (Nat.add_assoc _ _ _))⟩))); try go_wp2_with (first | (apply wp_region_lit; refine tontineref1_routes.flatc ?_) | (with_reducible refine tontineref1_routes.flatc ?_) | (with_reducible refine tontineref1_routes.flatn ?_) | (go_at_call 20; (with_reducible refine (tontineref1_within.calls (rd (rd_L3 ((rd_T40 l0_3 a1).f1) x6_2) x8_3) 0 (wrap64 ((l0_3.length : Int) - 1)) false _ A42.out).mono ?_); rintro e w' ⟨rfl, ⟨nd, rfl⟩⟩; (try first | exact ⟨rfl, _, World.drewN_drewN _ _ _⟩ | exact ⟨rfl, _, Eq.trans (World.drewN_drewN _ _ _) (congrArg (World.drewN _) (Nat.add_assoc _ _ _))⟩))))
                go_ret
                exact ⟨Goto.er, by repeat (first | (with_reducible first | exact HB.out | apply below_alloc | apply pw_below_drewN | apply below_drew1 | refine below_set ?_ GE259.out | refine below_set ?_ GE261.out) | exact HB.out)⟩
              ·
               rw [if_neg c41] at H
               exact absurd H (by simp)
             ·
              rw [if_neg c40] at H
              have c40b0 : decide (x8_3 < ((rd_L3 ((rd_T40 l0_3 a1).f1) x6_2).length : Int)) = false := decide_eq_false c40
              clear c40
              by_cases c58 : (x7_3.length : Int) = 1
              ·
               rw [if_pos c58] at H
               have c58b0 : ((x7_3.length : Int) == 1) = true := beq_iff_eq.mpr c58
               have c58b1 : ((x7_3.length : Int) != 1) = false := bne_eq_false_iff_eq.mpr c58
               clear c58
               obtain rfl := Option.some.inj H
               have hnb59 := NB261_259.out; have hnc59 := NB259_261.out
               have hcz60_0 := Goto.bc0 BK261
               have hcz60_1 := Goto.bc1 BK261
               have hcz60_2 := Goto.bc2 BK261
               have hcz60_3 := Goto.bc3 BK261
               have hcz60_4 := Goto.bc4 BK261
               have hcz60_5 := Goto.bc5 BK261
               have hcz60_6 := Goto.bc6 BK261
               have hcz60_7 := Goto.bc7 BK261
               have hcz60_8 := Goto.bc8 BK261
               have hcz60_9 := Goto.bc9 BK261
               have hfz60_0 := Goto.bf BK261 0; have hfz60_1 := Goto.bf BK261 1; have hfz60_2 := Goto.bf BK261 2; have hfz60_3 := Goto.bf BK261 3; have hfz60_4 := Goto.bf BK261 4; have hfz60_5 := Goto.bf BK261 5; have hfz60_6 := Goto.bf BK261 6; have hfz60_7 := Goto.bf BK261 7; have hfz60_8 := Goto.bf BK261 8; have hfz60_9 := Goto.bf BK261 9
               have p265 : 0 ≤ (x6_2 : Int) := Goto.od
               have q265 : x6_2 < (((rd_T40 l0_3 a1).f1).length : Int) := Goto.od
               obtain ⟨ad265, A265_0, c265_0, e265, hx265_0, hl265_0, hi265_0⟩ := at_L3 HR260_2.out x6_2 p265 q265
               cases e265
               replace hx265_0 := Goto.kc HB.out hx265_0
               have HR265_0 := Goto.m0 hi265_0
               have HC265_0 := Goto.m0 hl265_0
               clear hi265_0 hl265_0; replace p265 := eq_true p265; replace q265 := eq_true q265
               obtain ⟨Ao61, co61, eo61⟩ := Kd.R_slice HO_7.out
               subst eo61
               go_wp2
               repeat (go_quiet (fail); try go_wp2)
               go_ret
               exact ⟨Goto.er, by repeat (first | (with_reducible first | exact HB.out | apply below_alloc | apply pw_below_drewN | apply below_drew1 | refine below_set ?_ GE259.out | refine below_set ?_ GE261.out) | exact HB.out)⟩
              ·
               rw [if_neg c58] at H
               have c58b0 : ((x7_3.length : Int) == 1) = false := beq_eq_false_iff_ne.mpr c58
               have c58b1 : ((x7_3.length : Int) != 1) = true := bne_iff_ne.mpr c58
               replace H := Option.bind_eq_some_iff.mp H
               obtain ⟨t273, A620, H⟩ := H
               have A62 := Goto.m0 A620
               clear A620
               by_cases c63 : t273 = true
               ·
                subst c63
                rw [if_pos rfl] at H
                have H' := Goto.m0 H
                clear H; have hnb64 := NB261_259.out; have hnc64 := NB259_261.out
                have hcz65_0 := Goto.bc0 BK261
                have hcz65_1 := Goto.bc1 BK261
                have hcz65_2 := Goto.bc2 BK261
                have hcz65_3 := Goto.bc3 BK261
                have hcz65_4 := Goto.bc4 BK261
                have hcz65_5 := Goto.bc5 BK261
                have hcz65_6 := Goto.bc6 BK261
                have hcz65_7 := Goto.bc7 BK261
                have hcz65_8 := Goto.bc8 BK261
                have hcz65_9 := Goto.bc9 BK261
                have hfz65_0 := Goto.bf BK261 0; have hfz65_1 := Goto.bf BK261 1; have hfz65_2 := Goto.bf BK261 2; have hfz65_3 := Goto.bf BK261 3; have hfz65_4 := Goto.bf BK261 4; have hfz65_5 := Goto.bf BK261 5; have hfz65_6 := Goto.bf BK261 6; have hfz65_7 := Goto.bf BK261 7; have hfz65_8 := Goto.bf BK261 8; have hfz65_9 := Goto.bf BK261 9
                have p265 : 0 ≤ (x6_2 : Int) := Goto.od
                have q265 : x6_2 < (((rd_T40 l0_3 a1).f1).length : Int) := Goto.od
                obtain ⟨ad265, A265_0, c265_0, e265, hx265_0, hl265_0, hi265_0⟩ := at_L3 HR260_2.out x6_2 p265 q265
                cases e265
                replace hx265_0 := Goto.kc HB.out hx265_0
                have HR265_0 := Goto.m0 hi265_0
                have HC265_0 := Goto.m0 hl265_0
                clear hi265_0 hl265_0; replace p265 := eq_true p265; replace q265 := eq_true q265
                obtain ⟨Ao66, co66, eo66⟩ := Kd.R_slice HO_7.out
                subst eo66
                go_wp2_with (first | (apply wp_region_lit; refine tontineref1_routes.flatc ?_) | (with_reducible refine tontineref1_routes.flatc ?_) | (with_reducible refine tontineref1_routes.flatn ?_) | (go_at_call 42; (with_reducible refine (tontineref1_Chain.calls k3 _ _ x7_3 true _ ?side1 ?side2 A62.out).mono ?_); (case side1 => repeat (first | exact (Kd.R_reads' HO_7.out).2.2 | (with_reducible refine Kd.C_alloc ?_ _) | (with_reducible refine Kd.C_drewN ?_ _) | (with_reducible refine Kd.C_drew ?_))); (case side2 => exact (Kd.R_reads' HO_7.out).2.1); rintro e w67 ⟨rfl, hb⟩; replace HO_7 := Goto.m0 (Kd.R_below (Goto.rk HO_7) hb); replace BK259 := Goto.bb BK259 hb; replace BK261 := Goto.bb BK261 hb; replace HB := Goto.hs HB hb; (try clear hb); (try clear hb2); (try clear hk); (try clear hi)))
                repeat (go_quiet (first | (apply wp_region_lit; refine tontineref1_routes.flatc ?_) | (with_reducible refine tontineref1_routes.flatc ?_) | (with_reducible refine tontineref1_routes.flatn ?_) | (go_at_call 42; (with_reducible refine (tontineref1_Chain.calls k3 _ _ x7_3 true _ ?side1 ?side2 A62.out).mono ?_); (case side1 => repeat (first | exact (Kd.R_reads' HO_7.out).2.2 | (with_reducible refine Kd.C_alloc ?_ _) | (with_reducible refine Kd.C_drewN ?_ _) | (with_reducible refine Kd.C_drew ?_))); (case side2 => exact (Kd.R_reads' HO_7.out).2.1); rintro e w67 ⟨rfl, hb⟩; replace HO_7 := Goto.m0 (Kd.R_below (Goto.rk HO_7) hb); replace BK259 := Goto.bb BK259 hb; replace BK261 := Goto.bb BK261 hb; replace HB := Goto.hs HB hb; (try clear hb); (try clear hb2); (try clear hk); (try clear hi))); try go_wp2_with (first | (apply wp_region_lit; refine tontineref1_routes.flatc ?_) | (with_reducible refine tontineref1_routes.flatc ?_) | (with_reducible refine tontineref1_routes.flatn ?_) | (go_at_call 42; (with_reducible refine (tontineref1_Chain.calls k3 _ _ x7_3 true _ ?side1 ?side2 A62.out).mono ?_); (case side1 => repeat (first | exact (Kd.R_reads' HO_7.out).2.2 | (with_reducible refine Kd.C_alloc ?_ _) | (with_reducible refine Kd.C_drewN ?_ _) | (with_reducible refine Kd.C_drew ?_))); (case side2 => exact (Kd.R_reads' HO_7.out).2.1); rintro e w67 ⟨rfl, hb⟩; replace HO_7 := Goto.m0 (Kd.R_below (Goto.rk HO_7) hb); replace BK259 := Goto.bb BK259 hb; replace BK261 := Goto.bb BK261 hb; replace HB := Goto.hs HB hb; (try clear hb); (try clear hb2); (try clear hk); (try clear hi))))
                go_roundg k3
                case measure => have := HJ4.out; have := HK2.out; have := HK3.out; omega
                case rel => exact ⟨(wrap64 (x6_2 + 1)), (by first | rfl | (simp; done) | (simp [*]; done)), H', ⟨by have := HJ4.out; have := HK2.out; have := HK3.out; omega⟩, ⟨Goto.bx BK259⟩, ⟨Goto.bx BK261⟩, ⟨Goto.hx HB⟩⟩
               ·
                replace c63 := Bool.eq_false_iff.mpr c63
                subst c63
                rw [if_neg (show ¬ (false = true) by decide)] at H
                obtain rfl := Option.some.inj H
                have hnb68 := NB261_259.out; have hnc68 := NB259_261.out
                have hcz69_0 := Goto.bc0 BK261
                have hcz69_1 := Goto.bc1 BK261
                have hcz69_2 := Goto.bc2 BK261
                have hcz69_3 := Goto.bc3 BK261
                have hcz69_4 := Goto.bc4 BK261
                have hcz69_5 := Goto.bc5 BK261
                have hcz69_6 := Goto.bc6 BK261
                have hcz69_7 := Goto.bc7 BK261
                have hcz69_8 := Goto.bc8 BK261
                have hcz69_9 := Goto.bc9 BK261
                have hfz69_0 := Goto.bf BK261 0; have hfz69_1 := Goto.bf BK261 1; have hfz69_2 := Goto.bf BK261 2; have hfz69_3 := Goto.bf BK261 3; have hfz69_4 := Goto.bf BK261 4; have hfz69_5 := Goto.bf BK261 5; have hfz69_6 := Goto.bf BK261 6; have hfz69_7 := Goto.bf BK261 7; have hfz69_8 := Goto.bf BK261 8; have hfz69_9 := Goto.bf BK261 9
                have p265 : 0 ≤ (x6_2 : Int) := Goto.od
                have q265 : x6_2 < (((rd_T40 l0_3 a1).f1).length : Int) := Goto.od
                obtain ⟨ad265, A265_0, c265_0, e265, hx265_0, hl265_0, hi265_0⟩ := at_L3 HR260_2.out x6_2 p265 q265
                cases e265
                replace hx265_0 := Goto.kc HB.out hx265_0
                have HR265_0 := Goto.m0 hi265_0
                have HC265_0 := Goto.m0 hl265_0
                clear hi265_0 hl265_0; replace p265 := eq_true p265; replace q265 := eq_true q265
                obtain ⟨Ao70, co70, eo70⟩ := Kd.R_slice HO_7.out
                subst eo70
                go_wp2_with (first | (apply wp_region_lit; refine tontineref1_routes.flatc ?_) | (with_reducible refine tontineref1_routes.flatc ?_) | (with_reducible refine tontineref1_routes.flatn ?_) | (go_at_call 42; (with_reducible refine (tontineref1_Chain.calls k3 _ _ x7_3 false _ ?side1 ?side2 A62.out).mono ?_); (case side1 => repeat (first | exact (Kd.R_reads' HO_7.out).2.2 | (with_reducible refine Kd.C_alloc ?_ _) | (with_reducible refine Kd.C_drewN ?_ _) | (with_reducible refine Kd.C_drew ?_))); (case side2 => exact (Kd.R_reads' HO_7.out).2.1); rintro e w71 ⟨rfl, hb⟩; replace HO_7 := Goto.m0 (Kd.R_below (Goto.rk HO_7) hb); replace BK259 := Goto.bb BK259 hb; replace BK261 := Goto.bb BK261 hb; replace HB := Goto.hs HB hb; (try clear hb); (try clear hb2); (try clear hk); (try clear hi)))
                repeat (go_quiet (first | (apply wp_region_lit; refine tontineref1_routes.flatc ?_) | (with_reducible refine tontineref1_routes.flatc ?_) | (with_reducible refine tontineref1_routes.flatn ?_) | (go_at_call 42; (with_reducible refine (tontineref1_Chain.calls k3 _ _ x7_3 false _ ?side1 ?side2 A62.out).mono ?_); (case side1 => repeat (first | exact (Kd.R_reads' HO_7.out).2.2 | (with_reducible refine Kd.C_alloc ?_ _) | (with_reducible refine Kd.C_drewN ?_ _) | (with_reducible refine Kd.C_drew ?_))); (case side2 => exact (Kd.R_reads' HO_7.out).2.1); rintro e w71 ⟨rfl, hb⟩; replace HO_7 := Goto.m0 (Kd.R_below (Goto.rk HO_7) hb); replace BK259 := Goto.bb BK259 hb; replace BK261 := Goto.bb BK261 hb; replace HB := Goto.hs HB hb; (try clear hb); (try clear hb2); (try clear hk); (try clear hi))); try go_wp2_with (first | (apply wp_region_lit; refine tontineref1_routes.flatc ?_) | (with_reducible refine tontineref1_routes.flatc ?_) | (with_reducible refine tontineref1_routes.flatn ?_) | (go_at_call 42; (with_reducible refine (tontineref1_Chain.calls k3 _ _ x7_3 false _ ?side1 ?side2 A62.out).mono ?_); (case side1 => repeat (first | exact (Kd.R_reads' HO_7.out).2.2 | (with_reducible refine Kd.C_alloc ?_ _) | (with_reducible refine Kd.C_drewN ?_ _) | (with_reducible refine Kd.C_drew ?_))); (case side2 => exact (Kd.R_reads' HO_7.out).2.1); rintro e w71 ⟨rfl, hb⟩; replace HO_7 := Goto.m0 (Kd.R_below (Goto.rk HO_7) hb); replace BK259 := Goto.bb BK259 hb; replace BK261 := Goto.bb BK261 hb; replace HB := Goto.hs HB hb; (try clear hb); (try clear hb2); (try clear hk); (try clear hi))))
                go_ret
                exact ⟨Goto.er, by repeat (first | (with_reducible first | exact HB.out | apply below_alloc | apply pw_below_drewN | apply below_drew1 | refine below_set ?_ GE259.out | refine below_set ?_ GE261.out) | exact HB.out)⟩
            ·
             rw [if_neg c39] at H
             exact absurd H (by simp)
           ·
            rw [if_neg c38] at H
            exact absurd H (by simp)
        ·
         rw [if_neg c33] at H
         have c33b0 : decide (x6_2 < (((rd_T40 l0_3 a1).f1).length : Int)) = false := decide_eq_false c33
         clear c33
         by_cases c72 : ((rd_T40 l0_3 a1).f3) = (-1)
         ·
          rw [if_pos c72] at H
          have c72b0 : (((rd_T40 l0_3 a1).f3) == (-1)) = true := beq_iff_eq.mpr c72
          have c72b1 : (((rd_T40 l0_3 a1).f3) != (-1)) = false := bne_eq_false_iff_eq.mpr c72
          clear c72
          obtain rfl := Option.some.inj H
          have hnb73 := NB261_259.out; have hnc73 := NB259_261.out
          have hcz74_0 := Goto.bc0 BK261
          have hcz74_1 := Goto.bc1 BK261
          have hcz74_2 := Goto.bc2 BK261
          have hcz74_3 := Goto.bc3 BK261
          have hcz74_4 := Goto.bc4 BK261
          have hcz74_5 := Goto.bc5 BK261
          have hcz74_6 := Goto.bc6 BK261
          have hcz74_7 := Goto.bc7 BK261
          have hcz74_8 := Goto.bc8 BK261
          have hcz74_9 := Goto.bc9 BK261
          have hfz74_0 := Goto.bf BK261 0; have hfz74_1 := Goto.bf BK261 1; have hfz74_2 := Goto.bf BK261 2; have hfz74_3 := Goto.bf BK261 3; have hfz74_4 := Goto.bf BK261 4; have hfz74_5 := Goto.bf BK261 5; have hfz74_6 := Goto.bf BK261 6; have hfz74_7 := Goto.bf BK261 7; have hfz74_8 := Goto.bf BK261 8; have hfz74_9 := Goto.bf BK261 9
          go_wp2
          repeat (go_quiet (fail); try go_wp2)
          go_ret
          exact ⟨Goto.er, by repeat (first | (with_reducible first | exact HB.out | apply below_alloc | apply pw_below_drewN | apply below_drew1 | refine below_set ?_ GE259.out | refine below_set ?_ GE261.out) | exact HB.out)⟩
         ·
          rw [if_neg c72] at H
          have c72b0 : (((rd_T40 l0_3 a1).f3) == (-1)) = false := beq_eq_false_iff_ne.mpr c72
          have c72b1 : (((rd_T40 l0_3 a1).f3) != (-1)) = true := bne_iff_ne.mpr c72
          have H' := Goto.m0 H
          clear H; have hnb75 := NB261_259.out; have hnc75 := NB259_261.out
          have hcz76_0 := Goto.bc0 BK261
          have hcz76_1 := Goto.bc1 BK261
          have hcz76_2 := Goto.bc2 BK261
          have hcz76_3 := Goto.bc3 BK261
          have hcz76_4 := Goto.bc4 BK261
          have hcz76_5 := Goto.bc5 BK261
          have hcz76_6 := Goto.bc6 BK261
          have hcz76_7 := Goto.bc7 BK261
          have hcz76_8 := Goto.bc8 BK261
          have hcz76_9 := Goto.bc9 BK261
          have hfz76_0 := Goto.bf BK261 0; have hfz76_1 := Goto.bf BK261 1; have hfz76_2 := Goto.bf BK261 2; have hfz76_3 := Goto.bf BK261 3; have hfz76_4 := Goto.bf BK261 4; have hfz76_5 := Goto.bf BK261 5; have hfz76_6 := Goto.bf BK261 6; have hfz76_7 := Goto.bf BK261 7; have hfz76_8 := Goto.bf BK261 8; have hfz76_9 := Goto.bf BK261 9
          go_wp2
          repeat (go_quiet (fail); try go_wp2)
          go_loopg [10] k2 (fun kq v10 w' => ∃ (x10_3 : Int), v10 = .int .i64 x10_3 ∧ Aside0 (tontineref1_routes.l2 kq x10_3 a0_0 a0_1 l0_2 l0_3 ((rd_T40 l0_3 a1).f0.f0) ((rd_T40 l0_3 a1).f0.f1) ((rd_T40 l0_3 a1).f1) ((rd_T40 l0_3 a1).f2) ((rd_T40 l0_3 a1).f3) ((rd_T40 l0_3 a1).f4) ((rd_T40 l0_3 a1).f5) ((rd_T40 l0_3 a1).f6) ((rd_T40 l0_3 a1).f7) ((rd_T40 l0_3 a1).f8) = some r) ∧ Aside0 (kq ≤ k2) ∧ Aside0 (w'.heap[gb259]? = some (.cells #[.int .i64 a0_0, .int .i64 a0_1, (.slice A0_2 l0_2.length c0_2), (.slice (some ad260) l0_3.length c0_3)] 25 (0, 0))) ∧ Aside0 (w'.heap[gb261]? = some (.cells #[.int .i64 ((rd_T40 l0_3 a1).f0.f0), .int .u64 ((rd_T40 l0_3 a1).f0.f1), (.slice A260_2 ((rd_T40 l0_3 a1).f1).length c260_2), (.slice A260_3 ((rd_T40 l0_3 a1).f2).length c260_3), .int .i64 ((rd_T40 l0_3 a1).f3), .int .i64 ((rd_T40 l0_3 a1).f4), .int .i64 ((rd_T40 l0_3 a1).f5), .int .i64 ((rd_T40 l0_3 a1).f6), .int .i64 ((rd_T40 l0_3 a1).f7), .int .i64 ((rd_T40 l0_3 a1).f8)] 40 (0, 0))) ∧ Aside0 (Below w.heap.size w w'))
          case atStart => exact ⟨(0), (by first | rfl | (simp; done) | (simp [*]; done)), H', ⟨Nat.le_refl _⟩, ⟨Goto.bx BK259⟩, ⟨Goto.bx BK261⟩, ⟨Goto.hx HB⟩⟩
          case round =>
           clear H'
           try clear c2; try clear p2; try clear q2; try clear hx2; try clear c3; try clear c4; try clear c5; try clear c6; try clear p6; try clear c7; try clear c26; try clear p26; try clear q26; try clear hx26; try clear c33; try clear c33b0; try clear c38; try clear c38b0; try clear c39; try clear c39b0; try clear c40; try clear c40b0; try clear c41; try clear c41b0; try clear c43; try clear c44; try clear c44b0; try clear c45; try clear c48; try clear c48b0; try clear c49; try clear c49b0; try clear c50; try clear c51; try clear c55; try clear c58; try clear c58b0; try clear c58b1; try clear c59; try clear c63; try clear c64; try clear p64; try clear c68; try clear c72; try clear c72b0; try clear c72b1; try clear c73; try clear c75; try clear hcz46_0; try clear hcz46_1; try clear hcz46_2; try clear hcz46_3; try clear hcz46_4; try clear hcz46_5; try clear hcz46_6; try clear hcz46_7; try clear hcz46_8; try clear hcz46_9; try clear hcz47_0; try clear hcz47_1; try clear hcz47_2; try clear hcz47_3; try clear hcz52_0; try clear hcz52_1; try clear hcz52_2; try clear hcz52_3; try clear hcz52_4; try clear hcz52_5; try clear hcz52_6; try clear hcz52_7; try clear hcz52_8; try clear hcz52_9; try clear hcz53_0; try clear hcz53_1; try clear hcz53_2; try clear hcz53_3; try clear hcz56_0; try clear hcz56_1; try clear hcz56_2; try clear hcz56_3; try clear hcz56_4; try clear hcz56_5; try clear hcz56_6; try clear hcz56_7; try clear hcz56_8; try clear hcz56_9; try clear hcz57_0; try clear hcz57_1; try clear hcz57_2; try clear hcz57_3; try clear hcz60_0; try clear hcz60_1; try clear hcz60_2; try clear hcz60_3; try clear hcz60_4; try clear hcz60_5; try clear hcz60_6; try clear hcz60_7; try clear hcz60_8; try clear hcz60_9; try clear hcz65_0; try clear hcz65_1; try clear hcz65_2; try clear hcz65_3; try clear hcz65_4; try clear hcz65_5; try clear hcz65_6; try clear hcz65_7; try clear hcz65_8; try clear hcz65_9; try clear hcz69_0; try clear hcz69_1; try clear hcz69_2; try clear hcz69_3; try clear hcz69_4; try clear hcz69_5; try clear hcz69_6; try clear hcz69_7; try clear hcz69_8; try clear hcz69_9; try clear hcz74_0; try clear hcz74_1; try clear hcz74_2; try clear hcz74_3; try clear hcz74_4; try clear hcz74_5; try clear hcz74_6; try clear hcz74_7; try clear hcz74_8; try clear hcz74_9; try clear hcz76_0; try clear hcz76_1; try clear hcz76_2; try clear hcz76_3; try clear hcz76_4; try clear hcz76_5; try clear hcz76_6; try clear hcz76_7; try clear hcz76_8; try clear hcz76_9; try clear hfz13_1; try clear hfz13_2; try clear hfz13_3; try clear hfz13_4; try clear hfz13_5; try clear hfz13_6; try clear hfz13_7; try clear hfz13_8; try clear hfz13_9; try clear hfz16_0; try clear hfz16_1; try clear hfz16_2; try clear hfz16_3; try clear hfz16_4; try clear hfz16_5; try clear hfz16_6; try clear hfz16_7; try clear hfz16_8; try clear hfz16_9; try clear hfz19_0; try clear hfz19_1; try clear hfz19_2; try clear hfz19_3; try clear hfz19_4; try clear hfz19_5; try clear hfz19_6; try clear hfz19_7; try clear hfz19_8; try clear hfz19_9; try clear hfz20_0; try clear hfz20_1; try clear hfz20_2; try clear hfz20_3; try clear hfz23_0; try clear hfz23_1; try clear hfz23_2; try clear hfz23_3; try clear hfz23_4; try clear hfz23_5; try clear hfz23_6; try clear hfz23_7; try clear hfz23_8; try clear hfz23_9; try clear hfz24_0; try clear hfz24_1; try clear hfz24_2; try clear hfz24_3; try clear hfz27_0; try clear hfz27_1; try clear hfz27_2; try clear hfz27_3; try clear hfz27_4; try clear hfz27_5; try clear hfz27_6; try clear hfz27_7; try clear hfz27_8; try clear hfz27_9; try clear hfz28_0; try clear hfz28_1; try clear hfz28_2; try clear hfz28_3; try clear hfz30_0; try clear hfz30_1; try clear hfz30_2; try clear hfz30_3; try clear hfz30_4; try clear hfz30_5; try clear hfz30_6; try clear hfz30_7; try clear hfz30_8; try clear hfz30_9; try clear hfz31_0; try clear hfz31_1; try clear hfz31_2; try clear hfz31_3; try clear hfz35_0; try clear hfz35_1; try clear hfz35_2; try clear hfz35_3; try clear hfz35_4
           try clear hfz35_5; try clear hfz35_6; try clear hfz35_7; try clear hfz35_8; try clear hfz35_9; try clear hfz46_0; try clear hfz46_1; try clear hfz46_2; try clear hfz46_3; try clear hfz46_4; try clear hfz46_5; try clear hfz46_6; try clear hfz46_7; try clear hfz46_8; try clear hfz46_9; try clear hfz47_0; try clear hfz47_1; try clear hfz47_2; try clear hfz47_3; try clear hfz52_0; try clear hfz52_1; try clear hfz52_2; try clear hfz52_3; try clear hfz52_4; try clear hfz52_5; try clear hfz52_6; try clear hfz52_7; try clear hfz52_8; try clear hfz52_9; try clear hfz53_0; try clear hfz53_1; try clear hfz53_2; try clear hfz53_3; try clear hfz56_0; try clear hfz56_1; try clear hfz56_2; try clear hfz56_3; try clear hfz56_4; try clear hfz56_5; try clear hfz56_6; try clear hfz56_7; try clear hfz56_8; try clear hfz56_9; try clear hfz57_0; try clear hfz57_1; try clear hfz57_2; try clear hfz57_3; try clear hfz60_0; try clear hfz60_1; try clear hfz60_2; try clear hfz60_3; try clear hfz60_4; try clear hfz60_5; try clear hfz60_6; try clear hfz60_7; try clear hfz60_8; try clear hfz60_9; try clear hfz65_0; try clear hfz65_1; try clear hfz65_2; try clear hfz65_3; try clear hfz65_4; try clear hfz65_5; try clear hfz65_6; try clear hfz65_7; try clear hfz65_8; try clear hfz65_9; try clear hfz69_0; try clear hfz69_1; try clear hfz69_2; try clear hfz69_3; try clear hfz69_4; try clear hfz69_5; try clear hfz69_6; try clear hfz69_7; try clear hfz69_8; try clear hfz69_9; try clear hfz74_0; try clear hfz74_1; try clear hfz74_2; try clear hfz74_3; try clear hfz74_4; try clear hfz74_5; try clear hfz74_6; try clear hfz74_7; try clear hfz74_8; try clear hfz74_9; try clear hfz76_0; try clear hfz76_1; try clear hfz76_2; try clear hfz76_3; try clear hfz76_4; try clear hfz76_5; try clear hfz76_6; try clear hfz76_7; try clear hfz76_8; try clear hfz76_9; try clear hfz7_0; try clear hfz7_1; try clear hfz7_2; try clear hfz7_3; try clear hx260_0; try clear hx260_1; try clear hx260_2; try clear hx260_3; try clear hx260_4; try clear hx260_5; try clear hx260_6; try clear hx260_7; try clear hx260_8; try clear hx260_9; try clear hx265_0; try clear hx266_0; try clear hx267_0; try clear hx269_0; try clear hx269_1; try clear hx269_2; try clear hx269_3; try clear hx269_4; try clear hx269_5; try clear hx269_6; try clear hx269_7; try clear hx269_8; try clear hx269_9; try clear p2; try clear p26; try clear p260; try clear p265; try clear p266; try clear p267; try clear p269; try clear q2; try clear q26; try clear q260; try clear q265; try clear q266; try clear q267; try clear q269
           obtain ⟨x10_3, rfl, HA, HK3, BK259, BK261, HB⟩ := hrel
           cases gk with
           | zero => exact absurd HA.out (by simp [tontineref1_routes.l2])
           | succ k3 =>
            have H := HA.out; clear HA
            simp only [tontineref1_routes.l2] at H
            by_cases c77 : x10_3 < (((rd_T40 l0_3 a1).f2).length : Int)
            ·
             rw [if_pos c77] at H
             have c77b0 : decide (x10_3 < (((rd_T40 l0_3 a1).f2).length : Int)) = true := decide_eq_true c77
             clear c77
             by_cases c78 : 0 ≤ x10_3
             ·
              rw [if_pos c78] at H
              have c78b0 : decide (0 ≤ x10_3) = true := decide_eq_true c78
              clear c78
              replace H := Option.bind_eq_some_iff.mp H
              obtain ⟨t279, A790, H⟩ := H
              have A79 := Goto.m0 A790
              clear A790
              by_cases c80 : t279 = true
              ·
               subst c80
               rw [if_pos rfl] at H
               have H' := Goto.m0 H
               clear H; have hnb81 := NB261_259.out; have hnc81 := NB259_261.out
               have hcz82_0 := Goto.bc0 BK261
               have hcz82_1 := Goto.bc1 BK261
               have hcz82_2 := Goto.bc2 BK261
               have hcz82_3 := Goto.bc3 BK261
               have hcz82_4 := Goto.bc4 BK261
               have hcz82_5 := Goto.bc5 BK261
               have hcz82_6 := Goto.bc6 BK261
               have hcz82_7 := Goto.bc7 BK261
               have hcz82_8 := Goto.bc8 BK261
               have hcz82_9 := Goto.bc9 BK261
               have hfz82_0 := Goto.bf BK261 0; have hfz82_1 := Goto.bf BK261 1; have hfz82_2 := Goto.bf BK261 2; have hfz82_3 := Goto.bf BK261 3; have hfz82_4 := Goto.bf BK261 4; have hfz82_5 := Goto.bf BK261 5; have hfz82_6 := Goto.bf BK261 6; have hfz82_7 := Goto.bf BK261 7; have hfz82_8 := Goto.bf BK261 8; have hfz82_9 := Goto.bf BK261 9
               have p278 : 0 ≤ (x10_3 : Int) := Goto.od
               have q278 : x10_3 < (((rd_T40 l0_3 a1).f2).length : Int) := Goto.od
               obtain ⟨ad278, e278, hx278_0⟩ := Kd.at_int HR260_3.out x10_3 p278 q278
               cases e278
               replace hx278_0 := Goto.kc HB.out hx278_0
               replace p278 := eq_true p278; replace q278 := eq_true q278; have hcz83_0 := Goto.bc0 BK259; have hcz83_1 := Goto.bc1 BK259; have hcz83_2 := Goto.bc2 BK259
               have hcz83_3 := Goto.bc3 BK259
               have hfz83_0 := Goto.bf BK259 0; have hfz83_1 := Goto.bf BK259 1; have hfz83_2 := Goto.bf BK259 2; have hfz83_3 := Goto.bf BK259 3
               go_wp2_with (first | (apply wp_region_lit; refine tontineref1_routes.flatc ?_) | (with_reducible refine tontineref1_routes.flatc ?_) | (with_reducible refine tontineref1_routes.flatn ?_) | (go_at_call 20; (with_reducible refine (tontineref1_within.calls (rd ((rd_T40 l0_3 a1).f2) x10_3) 0 a0_0 true _ A79.out).mono ?_); rintro e w' ⟨rfl, ⟨nd, rfl⟩⟩; (try first | exact ⟨rfl, _, World.drewN_drewN _ _ _⟩ | exact ⟨rfl, _, Eq.trans (World.drewN_drewN _ _ _) (congrArg (World.drewN _) (Nat.add_assoc _ _ _))⟩)))
               repeat (go_quiet (first | (apply wp_region_lit; refine tontineref1_routes.flatc ?_) | (with_reducible refine tontineref1_routes.flatc ?_) | (with_reducible refine tontineref1_routes.flatn ?_) | (go_at_call 20; (with_reducible refine (tontineref1_within.calls (rd ((rd_T40 l0_3 a1).f2) x10_3) 0 a0_0 true _ A79.out).mono ?_); rintro e w' ⟨rfl, ⟨nd, rfl⟩⟩; (try first | exact ⟨rfl, _, World.drewN_drewN _ _ _⟩ | exact ⟨rfl, _, Eq.trans (World.drewN_drewN _ _ _) (congrArg (World.drewN _) (Nat.add_assoc _ _ _))⟩))); try go_wp2_with (first | (apply wp_region_lit; refine tontineref1_routes.flatc ?_) | (with_reducible refine tontineref1_routes.flatc ?_) | (with_reducible refine tontineref1_routes.flatn ?_) | (go_at_call 20; (with_reducible refine (tontineref1_within.calls (rd ((rd_T40 l0_3 a1).f2) x10_3) 0 a0_0 true _ A79.out).mono ?_); rintro e w' ⟨rfl, ⟨nd, rfl⟩⟩; (try first | exact ⟨rfl, _, World.drewN_drewN _ _ _⟩ | exact ⟨rfl, _, Eq.trans (World.drewN_drewN _ _ _) (congrArg (World.drewN _) (Nat.add_assoc _ _ _))⟩))))
               go_roundg k3
               case measure => have := HJ4.out; have := HK2.out; have := HK3.out; omega
               case rel => exact ⟨(wrap64 (x10_3 + 1)), (by first | rfl | (simp; done) | (simp [*]; done)), H', ⟨by have := HJ4.out; have := HK2.out; have := HK3.out; omega⟩, ⟨Goto.bx BK259⟩, ⟨Goto.bx BK261⟩, ⟨Goto.hx HB⟩⟩
              ·
               replace c80 := Bool.eq_false_iff.mpr c80
               subst c80
               rw [if_neg (show ¬ (false = true) by decide)] at H
               obtain rfl := Option.some.inj H
               have hnb84 := NB261_259.out; have hnc84 := NB259_261.out
               have hcz85_0 := Goto.bc0 BK261
               have hcz85_1 := Goto.bc1 BK261
               have hcz85_2 := Goto.bc2 BK261
               have hcz85_3 := Goto.bc3 BK261
               have hcz85_4 := Goto.bc4 BK261
               have hcz85_5 := Goto.bc5 BK261
               have hcz85_6 := Goto.bc6 BK261
               have hcz85_7 := Goto.bc7 BK261
               have hcz85_8 := Goto.bc8 BK261
               have hcz85_9 := Goto.bc9 BK261
               have hfz85_0 := Goto.bf BK261 0; have hfz85_1 := Goto.bf BK261 1; have hfz85_2 := Goto.bf BK261 2; have hfz85_3 := Goto.bf BK261 3; have hfz85_4 := Goto.bf BK261 4; have hfz85_5 := Goto.bf BK261 5; have hfz85_6 := Goto.bf BK261 6; have hfz85_7 := Goto.bf BK261 7; have hfz85_8 := Goto.bf BK261 8; have hfz85_9 := Goto.bf BK261 9
               have p278 : 0 ≤ (x10_3 : Int) := Goto.od
               have q278 : x10_3 < (((rd_T40 l0_3 a1).f2).length : Int) := Goto.od
               obtain ⟨ad278, e278, hx278_0⟩ := Kd.at_int HR260_3.out x10_3 p278 q278
               cases e278
               replace hx278_0 := Goto.kc HB.out hx278_0
               replace p278 := eq_true p278; replace q278 := eq_true q278; have hcz86_0 := Goto.bc0 BK259; have hcz86_1 := Goto.bc1 BK259; have hcz86_2 := Goto.bc2 BK259
               have hcz86_3 := Goto.bc3 BK259
               have hfz86_0 := Goto.bf BK259 0; have hfz86_1 := Goto.bf BK259 1; have hfz86_2 := Goto.bf BK259 2; have hfz86_3 := Goto.bf BK259 3
               go_wp2_with (first | (apply wp_region_lit; refine tontineref1_routes.flatc ?_) | (with_reducible refine tontineref1_routes.flatc ?_) | (with_reducible refine tontineref1_routes.flatn ?_) | (go_at_call 20; (with_reducible refine (tontineref1_within.calls (rd ((rd_T40 l0_3 a1).f2) x10_3) 0 a0_0 false _ A79.out).mono ?_); rintro e w' ⟨rfl, ⟨nd, rfl⟩⟩; (try first | exact ⟨rfl, _, World.drewN_drewN _ _ _⟩ | exact ⟨rfl, _, Eq.trans (World.drewN_drewN _ _ _) (congrArg (World.drewN _) (Nat.add_assoc _ _ _))⟩)))
               repeat (go_quiet (first | (apply wp_region_lit; refine tontineref1_routes.flatc ?_) | (with_reducible refine tontineref1_routes.flatc ?_) | (with_reducible refine tontineref1_routes.flatn ?_) | (go_at_call 20; (with_reducible refine (tontineref1_within.calls (rd ((rd_T40 l0_3 a1).f2) x10_3) 0 a0_0 false _ A79.out).mono ?_); rintro e w' ⟨rfl, ⟨nd, rfl⟩⟩; (try first | exact ⟨rfl, _, World.drewN_drewN _ _ _⟩ | exact ⟨rfl, _, Eq.trans (World.drewN_drewN _ _ _) (congrArg (World.drewN _) (Nat.add_assoc _ _ _))⟩))); try go_wp2_with (first | (apply wp_region_lit; refine tontineref1_routes.flatc ?_) | (with_reducible refine tontineref1_routes.flatc ?_) | (with_reducible refine tontineref1_routes.flatn ?_) | (go_at_call 20; (with_reducible refine (tontineref1_within.calls (rd ((rd_T40 l0_3 a1).f2) x10_3) 0 a0_0 false _ A79.out).mono ?_); rintro e w' ⟨rfl, ⟨nd, rfl⟩⟩; (try first | exact ⟨rfl, _, World.drewN_drewN _ _ _⟩ | exact ⟨rfl, _, Eq.trans (World.drewN_drewN _ _ _) (congrArg (World.drewN _) (Nat.add_assoc _ _ _))⟩))))
               go_ret
               exact ⟨Goto.er, by repeat (first | (with_reducible first | exact HB.out | apply below_alloc | apply pw_below_drewN | apply below_drew1 | refine below_set ?_ GE259.out | refine below_set ?_ GE261.out) | exact HB.out)⟩
             ·
              rw [if_neg c78] at H
              exact absurd H (by simp)
            ·
             rw [if_neg c77] at H
             have c77b0 : decide (x10_3 < (((rd_T40 l0_3 a1).f2).length : Int)) = false := decide_eq_false c77
             clear c77
             by_cases c87 : 0 ≤ ((rd_T40 l0_3 a1).f3)
             ·
              rw [if_pos c87] at H
              have c87b0 : decide (0 ≤ ((rd_T40 l0_3 a1).f3)) = true := decide_eq_true c87
              clear c87
              by_cases c88 : ((rd_T40 l0_3 a1).f3) < (l0_3.length : Int)
              ·
               rw [if_pos c88] at H
               have c88b0 : decide (((rd_T40 l0_3 a1).f3) < (l0_3.length : Int)) = true := decide_eq_true c88
               clear c88
               replace H := Option.bind_eq_some_iff.mp H
               obtain ⟨t276, A890, H⟩ := H
               have A89 := Goto.m0 A890
               clear A890
               by_cases c90 : t276 = true
               ·
                subst c90
                rw [if_pos rfl] at H
                replace H := Option.bind_eq_some_iff.mp H
                obtain ⟨t277, A910, H⟩ := H
                have A91 := Goto.m0 A910
                clear A910
                by_cases c92 : t277 = true
                ·
                 subst c92
                 rw [if_pos rfl] at H
                 obtain rfl := Option.some.inj H
                 have hnb93 := NB261_259.out; have hnc93 := NB259_261.out
                 have hcz94_0 := Goto.bc0 BK261
                 have hcz94_1 := Goto.bc1 BK261
                 have hcz94_2 := Goto.bc2 BK261
                 have hcz94_3 := Goto.bc3 BK261
                 have hcz94_4 := Goto.bc4 BK261
                 have hcz94_5 := Goto.bc5 BK261
                 have hcz94_6 := Goto.bc6 BK261
                 have hcz94_7 := Goto.bc7 BK261
                 have hcz94_8 := Goto.bc8 BK261
                 have hcz94_9 := Goto.bc9 BK261
                 have hfz94_0 := Goto.bf BK261 0; have hfz94_1 := Goto.bf BK261 1; have hfz94_2 := Goto.bf BK261 2; have hfz94_3 := Goto.bf BK261 3; have hfz94_4 := Goto.bf BK261 4; have hfz94_5 := Goto.bf BK261 5; have hfz94_6 := Goto.bf BK261 6; have hfz94_7 := Goto.bf BK261 7; have hfz94_8 := Goto.bf BK261 8; have hfz94_9 := Goto.bf BK261 9; have hcz95_0 := Goto.bc0 BK259; have hcz95_1 := Goto.bc1 BK259; have hcz95_2 := Goto.bc2 BK259
                 have hcz95_3 := Goto.bc3 BK259
                 have hfz95_0 := Goto.bf BK259 0; have hfz95_1 := Goto.bf BK259 1; have hfz95_2 := Goto.bf BK259 2; have hfz95_3 := Goto.bf BK259 3
                 have p274 : 0 ≤ (((rd_T40 l0_3 a1).f3) : Int) := Goto.od
                 have q274 : ((rd_T40 l0_3 a1).f3) < (l0_3.length : Int) := Goto.od
                 obtain ⟨ad274, A274_2, c274_2, A274_3, c274_3, e274, hx274_0, hx274_1, hx274_2, hx274_3, hx274_4, hx274_5, hx274_6, hx274_7, hx274_8, hx274_9, hl274_2, hi274_2, hl274_3, hi274_3⟩ := at_T40 HR0_3.out ((rd_T40 l0_3 a1).f3) p274 q274
                 obtain rfl : ad260 = ad274 := (by injection e274)
                 replace hx274_0 := Goto.kc HB.out hx274_0
                 replace hx274_1 := Goto.kc HB.out hx274_1
                 replace hx274_2 := Goto.kc HB.out hx274_2
                 replace hx274_3 := Goto.kc HB.out hx274_3
                 replace hx274_4 := Goto.kc HB.out hx274_4
                 replace hx274_5 := Goto.kc HB.out hx274_5
                 replace hx274_6 := Goto.kc HB.out hx274_6
                 replace hx274_7 := Goto.kc HB.out hx274_7
                 replace hx274_8 := Goto.kc HB.out hx274_8
                 replace hx274_9 := Goto.kc HB.out hx274_9
                 have HR274_2 := Goto.m0 hi274_2
                 have HC274_2 := Goto.m0 hl274_2
                 clear hi274_2 hl274_2
                 have HR274_3 := Goto.m0 hi274_3
                 have HC274_3 := Goto.m0 hl274_3
                 clear hi274_3 hl274_3; replace p274 := eq_true p274; replace q274 := eq_true q274
                 go_wp2_with (first | (apply wp_region_lit; refine tontineref1_routes.flatc ?_) | (with_reducible refine tontineref1_routes.flatc ?_) | (with_reducible refine tontineref1_routes.flatn ?_) | ((with_reducible refine gate_dst (N := 11) rfl ?_); (try (refine gate_guard (by rfl) ?_; dsimp only)); refine box_event ?hg (N := 11) ?hd (cs := #[.int .i64 0, .int .u64 0]) (t := 38) ?hr ?_; (case hd => rfl); (case hg => rfl); (case hr => first | (go_simp; done) | (go_simp; rfl)); intro gb275 hg w96 hbox hb; have BK275 := Goto.m0 (hbox); have GW275 := Goto.gs HB hg; have GE275 := Goto.gs HB hg; have NB259_275 := Goto.nl BK259 hg; have NB275_259 := Goto.nr BK259 hg; have NB261_275 := Goto.nl BK261 hg; have NB275_261 := Goto.nr BK261 hg; replace BK259 := Goto.bb BK259 hb; replace BK261 := Goto.bb BK261 hb; replace HB := Goto.hs HB hb; clear hb hbox hg; have hnb97 := NB275_259.out; have hnc97 := NB259_275.out; have hnb98 := NB275_261.out; have hnc98 := NB261_275.out; have hcz99_0 := Goto.bc0 BK275; have hcz99_1 := Goto.bc1 BK275; have hfz99_0 := Goto.bf BK275 0; have hfz99_1 := Goto.bf BK275 1; have hcz100_0 := Goto.bc0 BK261; have hcz100_1 := Goto.bc1 BK261; have hcz100_2 := Goto.bc2 BK261; have hcz100_3 := Goto.bc3 BK261; have hcz100_4 := Goto.bc4 BK261; have hcz100_5 := Goto.bc5 BK261; have hcz100_6 := Goto.bc6 BK261; have hcz100_7 := Goto.bc7 BK261; have hcz100_8 := Goto.bc8 BK261; have hcz100_9 := Goto.bc9 BK261; have hfz100_0 := Goto.bf BK261 0; have hfz100_1 := Goto.bf BK261 1; have hfz100_2 := Goto.bf BK261 2; have hfz100_3 := Goto.bf BK261 3; have hfz100_4 := Goto.bf BK261 4; have hfz100_5 := Goto.bf BK261 5; have hfz100_6 := Goto.bf BK261 6; have hfz100_7 := Goto.bf BK261 7; have hfz100_8 := Goto.bf BK261 8; have hfz100_9 := Goto.bf BK261 9) | (go_at_call 20; (with_reducible refine (tontineref1_within.calls (((rd_T40 l0_3 a1).f2).length : Int) 1 4 true _ A89.out).mono ?_); rintro e w' ⟨rfl, ⟨nd, rfl⟩⟩; (try first | exact ⟨rfl, _, World.drewN_drewN _ _ _⟩ | exact ⟨rfl, _, Eq.trans (World.drewN_drewN _ _ _) (congrArg (World.drewN _) (Nat.add_assoc _ _ _))⟩)) | (go_at_call 43; (with_reducible refine (tontineref1_Leq.calls ((rd_T40 l0_3 ((rd_T40 l0_3 a1).f3)).f0.f0) ((rd_T40 l0_3 ((rd_T40 l0_3 a1).f3)).f0.f1) ((rd_T40 l0_3 a1).f0.f0) ((rd_T40 l0_3 a1).f0.f1) true _ A91.out).mono ?_); rintro e w101 ⟨rfl, hb⟩; replace BK259 := Goto.bb BK259 hb; replace BK261 := Goto.bb BK261 hb; replace BK275 := Goto.bp (.cells #[.int .i64 ((rd_T40 l0_3 ((rd_T40 l0_3 a1).f3)).f0.f0), .int .u64 ((rd_T40 l0_3 ((rd_T40 l0_3 a1).f3)).f0.f1)] 38 (0, 0)) BK275 hb; replace HB := Goto.hs HB hb; (try clear hb); (try clear hb2); (try clear hk); (try clear hi); have hcz102_0 := Goto.bc0 BK275; have hcz102_1 := Goto.bc1 BK275; have hfz102_0 := Goto.bf BK275 0; have hfz102_1 := Goto.bf BK275 1; have hcz103_0 := Goto.bc0 BK261; have hcz103_1 := Goto.bc1 BK261; have hcz103_2 := Goto.bc2 BK261; have hcz103_3 := Goto.bc3 BK261; have hcz103_4 := Goto.bc4 BK261; have hcz103_5 := Goto.bc5 BK261; have hcz103_6 := Goto.bc6 BK261; have hcz103_7 := Goto.bc7 BK261; have hcz103_8 := Goto.bc8 BK261; have hcz103_9 := Goto.bc9 BK261; have hfz103_0 := Goto.bf BK261 0; have hfz103_1 := Goto.bf BK261 1; have hfz103_2 := Goto.bf BK261 2; have hfz103_3 := Goto.bf BK261 3; have hfz103_4 := Goto.bf BK261 4; have hfz103_5 := Goto.bf BK261 5; have hfz103_6 := Goto.bf BK261 6; have hfz103_7 := Goto.bf BK261 7; have hfz103_8 := Goto.bf BK261 8; have hfz103_9 := Goto.bf BK261 9))
                 repeat (go_quiet (first | (apply wp_region_lit; refine tontineref1_routes.flatc ?_) | (with_reducible refine tontineref1_routes.flatc ?_) | (with_reducible refine tontineref1_routes.flatn ?_) | ((with_reducible refine gate_dst (N := 11) rfl ?_); (try (refine gate_guard (by rfl) ?_; dsimp only)); refine box_event ?hg (N := 11) ?hd (cs := #[.int .i64 0, .int .u64 0]) (t := 38) ?hr ?_; (case hd => rfl); (case hg => rfl); (case hr => first | (go_simp; done) | (go_simp; rfl)); intro gb275 hg w96 hbox hb; have BK275 := Goto.m0 (hbox); have GW275 := Goto.gs HB hg; have GE275 := Goto.gs HB hg; have NB259_275 := Goto.nl BK259 hg; have NB275_259 := Goto.nr BK259 hg; have NB261_275 := Goto.nl BK261 hg; have NB275_261 := Goto.nr BK261 hg; replace BK259 := Goto.bb BK259 hb; replace BK261 := Goto.bb BK261 hb; replace HB := Goto.hs HB hb; clear hb hbox hg; have hnb97 := NB275_259.out; have hnc97 := NB259_275.out; have hnb98 := NB275_261.out; have hnc98 := NB261_275.out; have hcz99_0 := Goto.bc0 BK275; have hcz99_1 := Goto.bc1 BK275; have hfz99_0 := Goto.bf BK275 0; have hfz99_1 := Goto.bf BK275 1; have hcz100_0 := Goto.bc0 BK261; have hcz100_1 := Goto.bc1 BK261; have hcz100_2 := Goto.bc2 BK261; have hcz100_3 := Goto.bc3 BK261; have hcz100_4 := Goto.bc4 BK261; have hcz100_5 := Goto.bc5 BK261; have hcz100_6 := Goto.bc6 BK261; have hcz100_7 := Goto.bc7 BK261; have hcz100_8 := Goto.bc8 BK261; have hcz100_9 := Goto.bc9 BK261; have hfz100_0 := Goto.bf BK261 0; have hfz100_1 := Goto.bf BK261 1; have hfz100_2 := Goto.bf BK261 2; have hfz100_3 := Goto.bf BK261 3; have hfz100_4 := Goto.bf BK261 4; have hfz100_5 := Goto.bf BK261 5; have hfz100_6 := Goto.bf BK261 6; have hfz100_7 := Goto.bf BK261 7; have hfz100_8 := Goto.bf BK261 8; have hfz100_9 := Goto.bf BK261 9) | (go_at_call 20; (with_reducible refine (tontineref1_within.calls (((rd_T40 l0_3 a1).f2).length : Int) 1 4 true _ A89.out).mono ?_); rintro e w' ⟨rfl, ⟨nd, rfl⟩⟩; (try first | exact ⟨rfl, _, World.drewN_drewN _ _ _⟩ | exact ⟨rfl, _, Eq.trans (World.drewN_drewN _ _ _) (congrArg (World.drewN _) (Nat.add_assoc _ _ _))⟩)) | (go_at_call 43; (with_reducible refine (tontineref1_Leq.calls ((rd_T40 l0_3 ((rd_T40 l0_3 a1).f3)).f0.f0) ((rd_T40 l0_3 ((rd_T40 l0_3 a1).f3)).f0.f1) ((rd_T40 l0_3 a1).f0.f0) ((rd_T40 l0_3 a1).f0.f1) true _ A91.out).mono ?_); rintro e w101 ⟨rfl, hb⟩; replace BK259 := Goto.bb BK259 hb; replace BK261 := Goto.bb BK261 hb; replace BK275 := Goto.bp (.cells #[.int .i64 ((rd_T40 l0_3 ((rd_T40 l0_3 a1).f3)).f0.f0), .int .u64 ((rd_T40 l0_3 ((rd_T40 l0_3 a1).f3)).f0.f1)] 38 (0, 0)) BK275 hb; replace HB := Goto.hs HB hb; (try clear hb); (try clear hb2); (try clear hk); (try clear hi); have hcz102_0 := Goto.bc0 BK275; have hcz102_1 := Goto.bc1 BK275; have hfz102_0 := Goto.bf BK275 0; have hfz102_1 := Goto.bf BK275 1; have hcz103_0 := Goto.bc0 BK261; have hcz103_1 := Goto.bc1 BK261; have hcz103_2 := Goto.bc2 BK261; have hcz103_3 := Goto.bc3 BK261; have hcz103_4 := Goto.bc4 BK261; have hcz103_5 := Goto.bc5 BK261; have hcz103_6 := Goto.bc6 BK261; have hcz103_7 := Goto.bc7 BK261; have hcz103_8 := Goto.bc8 BK261; have hcz103_9 := Goto.bc9 BK261; have hfz103_0 := Goto.bf BK261 0; have hfz103_1 := Goto.bf BK261 1; have hfz103_2 := Goto.bf BK261 2; have hfz103_3 := Goto.bf BK261 3; have hfz103_4 := Goto.bf BK261 4; have hfz103_5 := Goto.bf BK261 5; have hfz103_6 := Goto.bf BK261 6; have hfz103_7 := Goto.bf BK261 7; have hfz103_8 := Goto.bf BK261 8; have hfz103_9 := Goto.bf BK261 9)); try go_wp2_with (first | (apply wp_region_lit; refine tontineref1_routes.flatc ?_) | (with_reducible refine tontineref1_routes.flatc ?_) | (with_reducible refine tontineref1_routes.flatn ?_) | ((with_reducible refine gate_dst (N := 11) rfl ?_); (try (refine gate_guard (by rfl) ?_; dsimp only)); refine box_event ?hg (N := 11) ?hd (cs := #[.int .i64 0, .int .u64 0]) (t := 38) ?hr ?_; (case hd => rfl); (case hg => rfl); (case hr => first | (go_simp; done) | (go_simp; rfl)); intro gb275 hg w96 hbox hb; have BK275 := Goto.m0 (hbox); have GW275 := Goto.gs HB hg; have GE275 := Goto.gs HB hg; have NB259_275 := Goto.nl BK259 hg; have NB275_259 := Goto.nr BK259 hg; have NB261_275 := Goto.nl BK261 hg; have NB275_261 := Goto.nr BK261 hg; replace BK259 := Goto.bb BK259 hb; replace BK261 := Goto.bb BK261 hb; replace HB := Goto.hs HB hb; clear hb hbox hg; have hnb97 := NB275_259.out; have hnc97 := NB259_275.out; have hnb98 := NB275_261.out; have hnc98 := NB261_275.out; have hcz99_0 := Goto.bc0 BK275; have hcz99_1 := Goto.bc1 BK275; have hfz99_0 := Goto.bf BK275 0; have hfz99_1 := Goto.bf BK275 1; have hcz100_0 := Goto.bc0 BK261; have hcz100_1 := Goto.bc1 BK261; have hcz100_2 := Goto.bc2 BK261; have hcz100_3 := Goto.bc3 BK261; have hcz100_4 := Goto.bc4 BK261; have hcz100_5 := Goto.bc5 BK261; have hcz100_6 := Goto.bc6 BK261; have hcz100_7 := Goto.bc7 BK261; have hcz100_8 := Goto.bc8 BK261; have hcz100_9 := Goto.bc9 BK261; have hfz100_0 := Goto.bf BK261 0; have hfz100_1 := Goto.bf BK261 1; have hfz100_2 := Goto.bf BK261 2; have hfz100_3 := Goto.bf BK261 3; have hfz100_4 := Goto.bf BK261 4; have hfz100_5 := Goto.bf BK261 5; have hfz100_6 := Goto.bf BK261 6; have hfz100_7 := Goto.bf BK261 7; have hfz100_8 := Goto.bf BK261 8; have hfz100_9 := Goto.bf BK261 9) | (go_at_call 20; (with_reducible refine (tontineref1_within.calls (((rd_T40 l0_3 a1).f2).length : Int) 1 4 true _ A89.out).mono ?_); rintro e w' ⟨rfl, ⟨nd, rfl⟩⟩; (try first | exact ⟨rfl, _, World.drewN_drewN _ _ _⟩ | exact ⟨rfl, _, Eq.trans (World.drewN_drewN _ _ _) (congrArg (World.drewN _) (Nat.add_assoc _ _ _))⟩)) | (go_at_call 43; (with_reducible refine (tontineref1_Leq.calls ((rd_T40 l0_3 ((rd_T40 l0_3 a1).f3)).f0.f0) ((rd_T40 l0_3 ((rd_T40 l0_3 a1).f3)).f0.f1) ((rd_T40 l0_3 a1).f0.f0) ((rd_T40 l0_3 a1).f0.f1) true _ A91.out).mono ?_); rintro e w101 ⟨rfl, hb⟩; replace BK259 := Goto.bb BK259 hb; replace BK261 := Goto.bb BK261 hb; replace BK275 := Goto.bp (.cells #[.int .i64 ((rd_T40 l0_3 ((rd_T40 l0_3 a1).f3)).f0.f0), .int .u64 ((rd_T40 l0_3 ((rd_T40 l0_3 a1).f3)).f0.f1)] 38 (0, 0)) BK275 hb; replace HB := Goto.hs HB hb; (try clear hb); (try clear hb2); (try clear hk); (try clear hi); have hcz102_0 := Goto.bc0 BK275; have hcz102_1 := Goto.bc1 BK275; have hfz102_0 := Goto.bf BK275 0; have hfz102_1 := Goto.bf BK275 1; have hcz103_0 := Goto.bc0 BK261; have hcz103_1 := Goto.bc1 BK261; have hcz103_2 := Goto.bc2 BK261; have hcz103_3 := Goto.bc3 BK261; have hcz103_4 := Goto.bc4 BK261; have hcz103_5 := Goto.bc5 BK261; have hcz103_6 := Goto.bc6 BK261; have hcz103_7 := Goto.bc7 BK261; have hcz103_8 := Goto.bc8 BK261; have hcz103_9 := Goto.bc9 BK261; have hfz103_0 := Goto.bf BK261 0; have hfz103_1 := Goto.bf BK261 1; have hfz103_2 := Goto.bf BK261 2; have hfz103_3 := Goto.bf BK261 3; have hfz103_4 := Goto.bf BK261 4; have hfz103_5 := Goto.bf BK261 5; have hfz103_6 := Goto.bf BK261 6; have hfz103_7 := Goto.bf BK261 7; have hfz103_8 := Goto.bf BK261 8; have hfz103_9 := Goto.bf BK261 9)))
                 go_ret
                 exact ⟨Goto.er, by repeat (first | (with_reducible first | exact HB.out | apply below_alloc | apply pw_below_drewN | apply below_drew1 | refine below_set ?_ GE259.out | refine below_set ?_ GE261.out | refine below_set ?_ GE275.out) | exact HB.out)⟩
                ·
                 replace c92 := Bool.eq_false_iff.mpr c92
                 subst c92
                 rw [if_neg (show ¬ (false = true) by decide)] at H
                 obtain rfl := Option.some.inj H
                 have hnb104 := NB261_259.out; have hnc104 := NB259_261.out
                 have hcz105_0 := Goto.bc0 BK261
                 have hcz105_1 := Goto.bc1 BK261
                 have hcz105_2 := Goto.bc2 BK261
                 have hcz105_3 := Goto.bc3 BK261
                 have hcz105_4 := Goto.bc4 BK261
                 have hcz105_5 := Goto.bc5 BK261
                 have hcz105_6 := Goto.bc6 BK261
                 have hcz105_7 := Goto.bc7 BK261
                 have hcz105_8 := Goto.bc8 BK261
                 have hcz105_9 := Goto.bc9 BK261
                 have hfz105_0 := Goto.bf BK261 0; have hfz105_1 := Goto.bf BK261 1; have hfz105_2 := Goto.bf BK261 2; have hfz105_3 := Goto.bf BK261 3; have hfz105_4 := Goto.bf BK261 4; have hfz105_5 := Goto.bf BK261 5; have hfz105_6 := Goto.bf BK261 6; have hfz105_7 := Goto.bf BK261 7; have hfz105_8 := Goto.bf BK261 8; have hfz105_9 := Goto.bf BK261 9; have hcz106_0 := Goto.bc0 BK259; have hcz106_1 := Goto.bc1 BK259; have hcz106_2 := Goto.bc2 BK259
                 have hcz106_3 := Goto.bc3 BK259
                 have hfz106_0 := Goto.bf BK259 0; have hfz106_1 := Goto.bf BK259 1; have hfz106_2 := Goto.bf BK259 2; have hfz106_3 := Goto.bf BK259 3
                 have p274 : 0 ≤ (((rd_T40 l0_3 a1).f3) : Int) := Goto.od
                 have q274 : ((rd_T40 l0_3 a1).f3) < (l0_3.length : Int) := Goto.od
                 obtain ⟨ad274, A274_2, c274_2, A274_3, c274_3, e274, hx274_0, hx274_1, hx274_2, hx274_3, hx274_4, hx274_5, hx274_6, hx274_7, hx274_8, hx274_9, hl274_2, hi274_2, hl274_3, hi274_3⟩ := at_T40 HR0_3.out ((rd_T40 l0_3 a1).f3) p274 q274
                 obtain rfl : ad260 = ad274 := (by injection e274)
                 replace hx274_0 := Goto.kc HB.out hx274_0
                 replace hx274_1 := Goto.kc HB.out hx274_1
                 replace hx274_2 := Goto.kc HB.out hx274_2
                 replace hx274_3 := Goto.kc HB.out hx274_3
                 replace hx274_4 := Goto.kc HB.out hx274_4
                 replace hx274_5 := Goto.kc HB.out hx274_5
                 replace hx274_6 := Goto.kc HB.out hx274_6
                 replace hx274_7 := Goto.kc HB.out hx274_7
                 replace hx274_8 := Goto.kc HB.out hx274_8
                 replace hx274_9 := Goto.kc HB.out hx274_9
                 have HR274_2 := Goto.m0 hi274_2
                 have HC274_2 := Goto.m0 hl274_2
                 clear hi274_2 hl274_2
                 have HR274_3 := Goto.m0 hi274_3
                 have HC274_3 := Goto.m0 hl274_3
                 clear hi274_3 hl274_3; replace p274 := eq_true p274; replace q274 := eq_true q274
                 go_wp2_with (first | (apply wp_region_lit; refine tontineref1_routes.flatc ?_) | (with_reducible refine tontineref1_routes.flatc ?_) | (with_reducible refine tontineref1_routes.flatn ?_) | ((with_reducible refine gate_dst (N := 11) rfl ?_); (try (refine gate_guard (by rfl) ?_; dsimp only)); refine box_event ?hg (N := 11) ?hd (cs := #[.int .i64 0, .int .u64 0]) (t := 38) ?hr ?_; (case hd => rfl); (case hg => rfl); (case hr => first | (go_simp; done) | (go_simp; rfl)); intro gb275 hg w107 hbox hb; have BK275 := Goto.m0 (hbox); have GW275 := Goto.gs HB hg; have GE275 := Goto.gs HB hg; have NB259_275 := Goto.nl BK259 hg; have NB275_259 := Goto.nr BK259 hg; have NB261_275 := Goto.nl BK261 hg; have NB275_261 := Goto.nr BK261 hg; replace BK259 := Goto.bb BK259 hb; replace BK261 := Goto.bb BK261 hb; replace HB := Goto.hs HB hb; clear hb hbox hg; have hnb108 := NB275_259.out; have hnc108 := NB259_275.out; have hnb109 := NB275_261.out; have hnc109 := NB261_275.out; have hcz110_0 := Goto.bc0 BK275; have hcz110_1 := Goto.bc1 BK275; have hfz110_0 := Goto.bf BK275 0; have hfz110_1 := Goto.bf BK275 1; have hcz111_0 := Goto.bc0 BK261; have hcz111_1 := Goto.bc1 BK261; have hcz111_2 := Goto.bc2 BK261; have hcz111_3 := Goto.bc3 BK261; have hcz111_4 := Goto.bc4 BK261; have hcz111_5 := Goto.bc5 BK261; have hcz111_6 := Goto.bc6 BK261; have hcz111_7 := Goto.bc7 BK261; have hcz111_8 := Goto.bc8 BK261; have hcz111_9 := Goto.bc9 BK261; have hfz111_0 := Goto.bf BK261 0; have hfz111_1 := Goto.bf BK261 1; have hfz111_2 := Goto.bf BK261 2; have hfz111_3 := Goto.bf BK261 3; have hfz111_4 := Goto.bf BK261 4; have hfz111_5 := Goto.bf BK261 5; have hfz111_6 := Goto.bf BK261 6; have hfz111_7 := Goto.bf BK261 7; have hfz111_8 := Goto.bf BK261 8; have hfz111_9 := Goto.bf BK261 9) | (go_at_call 20; (with_reducible refine (tontineref1_within.calls (((rd_T40 l0_3 a1).f2).length : Int) 1 4 true _ A89.out).mono ?_); rintro e w' ⟨rfl, ⟨nd, rfl⟩⟩; (try first | exact ⟨rfl, _, World.drewN_drewN _ _ _⟩ | exact ⟨rfl, _, Eq.trans (World.drewN_drewN _ _ _) (congrArg (World.drewN _) (Nat.add_assoc _ _ _))⟩)) | (go_at_call 43; (with_reducible refine (tontineref1_Leq.calls ((rd_T40 l0_3 ((rd_T40 l0_3 a1).f3)).f0.f0) ((rd_T40 l0_3 ((rd_T40 l0_3 a1).f3)).f0.f1) ((rd_T40 l0_3 a1).f0.f0) ((rd_T40 l0_3 a1).f0.f1) false _ A91.out).mono ?_); rintro e w112 ⟨rfl, hb⟩; replace BK259 := Goto.bb BK259 hb; replace BK261 := Goto.bb BK261 hb; replace BK275 := Goto.bp (.cells #[.int .i64 ((rd_T40 l0_3 ((rd_T40 l0_3 a1).f3)).f0.f0), .int .u64 ((rd_T40 l0_3 ((rd_T40 l0_3 a1).f3)).f0.f1)] 38 (0, 0)) BK275 hb; replace HB := Goto.hs HB hb; (try clear hb); (try clear hb2); (try clear hk); (try clear hi)))
                 repeat (go_quiet (first | (apply wp_region_lit; refine tontineref1_routes.flatc ?_) | (with_reducible refine tontineref1_routes.flatc ?_) | (with_reducible refine tontineref1_routes.flatn ?_) | ((with_reducible refine gate_dst (N := 11) rfl ?_); (try (refine gate_guard (by rfl) ?_; dsimp only)); refine box_event ?hg (N := 11) ?hd (cs := #[.int .i64 0, .int .u64 0]) (t := 38) ?hr ?_; (case hd => rfl); (case hg => rfl); (case hr => first | (go_simp; done) | (go_simp; rfl)); intro gb275 hg w107 hbox hb; have BK275 := Goto.m0 (hbox); have GW275 := Goto.gs HB hg; have GE275 := Goto.gs HB hg; have NB259_275 := Goto.nl BK259 hg; have NB275_259 := Goto.nr BK259 hg; have NB261_275 := Goto.nl BK261 hg; have NB275_261 := Goto.nr BK261 hg; replace BK259 := Goto.bb BK259 hb; replace BK261 := Goto.bb BK261 hb; replace HB := Goto.hs HB hb; clear hb hbox hg; have hnb108 := NB275_259.out; have hnc108 := NB259_275.out; have hnb109 := NB275_261.out; have hnc109 := NB261_275.out; have hcz110_0 := Goto.bc0 BK275; have hcz110_1 := Goto.bc1 BK275; have hfz110_0 := Goto.bf BK275 0; have hfz110_1 := Goto.bf BK275 1; have hcz111_0 := Goto.bc0 BK261; have hcz111_1 := Goto.bc1 BK261; have hcz111_2 := Goto.bc2 BK261; have hcz111_3 := Goto.bc3 BK261; have hcz111_4 := Goto.bc4 BK261; have hcz111_5 := Goto.bc5 BK261; have hcz111_6 := Goto.bc6 BK261; have hcz111_7 := Goto.bc7 BK261; have hcz111_8 := Goto.bc8 BK261; have hcz111_9 := Goto.bc9 BK261; have hfz111_0 := Goto.bf BK261 0; have hfz111_1 := Goto.bf BK261 1; have hfz111_2 := Goto.bf BK261 2; have hfz111_3 := Goto.bf BK261 3; have hfz111_4 := Goto.bf BK261 4; have hfz111_5 := Goto.bf BK261 5; have hfz111_6 := Goto.bf BK261 6; have hfz111_7 := Goto.bf BK261 7; have hfz111_8 := Goto.bf BK261 8; have hfz111_9 := Goto.bf BK261 9) | (go_at_call 20; (with_reducible refine (tontineref1_within.calls (((rd_T40 l0_3 a1).f2).length : Int) 1 4 true _ A89.out).mono ?_); rintro e w' ⟨rfl, ⟨nd, rfl⟩⟩; (try first | exact ⟨rfl, _, World.drewN_drewN _ _ _⟩ | exact ⟨rfl, _, Eq.trans (World.drewN_drewN _ _ _) (congrArg (World.drewN _) (Nat.add_assoc _ _ _))⟩)) | (go_at_call 43; (with_reducible refine (tontineref1_Leq.calls ((rd_T40 l0_3 ((rd_T40 l0_3 a1).f3)).f0.f0) ((rd_T40 l0_3 ((rd_T40 l0_3 a1).f3)).f0.f1) ((rd_T40 l0_3 a1).f0.f0) ((rd_T40 l0_3 a1).f0.f1) false _ A91.out).mono ?_); rintro e w112 ⟨rfl, hb⟩; replace BK259 := Goto.bb BK259 hb; replace BK261 := Goto.bb BK261 hb; replace BK275 := Goto.bp (.cells #[.int .i64 ((rd_T40 l0_3 ((rd_T40 l0_3 a1).f3)).f0.f0), .int .u64 ((rd_T40 l0_3 ((rd_T40 l0_3 a1).f3)).f0.f1)] 38 (0, 0)) BK275 hb; replace HB := Goto.hs HB hb; (try clear hb); (try clear hb2); (try clear hk); (try clear hi))); try go_wp2_with (first | (apply wp_region_lit; refine tontineref1_routes.flatc ?_) | (with_reducible refine tontineref1_routes.flatc ?_) | (with_reducible refine tontineref1_routes.flatn ?_) | ((with_reducible refine gate_dst (N := 11) rfl ?_); (try (refine gate_guard (by rfl) ?_; dsimp only)); refine box_event ?hg (N := 11) ?hd (cs := #[.int .i64 0, .int .u64 0]) (t := 38) ?hr ?_; (case hd => rfl); (case hg => rfl); (case hr => first | (go_simp; done) | (go_simp; rfl)); intro gb275 hg w107 hbox hb; have BK275 := Goto.m0 (hbox); have GW275 := Goto.gs HB hg; have GE275 := Goto.gs HB hg; have NB259_275 := Goto.nl BK259 hg; have NB275_259 := Goto.nr BK259 hg; have NB261_275 := Goto.nl BK261 hg; have NB275_261 := Goto.nr BK261 hg; replace BK259 := Goto.bb BK259 hb; replace BK261 := Goto.bb BK261 hb; replace HB := Goto.hs HB hb; clear hb hbox hg; have hnb108 := NB275_259.out; have hnc108 := NB259_275.out; have hnb109 := NB275_261.out; have hnc109 := NB261_275.out; have hcz110_0 := Goto.bc0 BK275; have hcz110_1 := Goto.bc1 BK275; have hfz110_0 := Goto.bf BK275 0; have hfz110_1 := Goto.bf BK275 1; have hcz111_0 := Goto.bc0 BK261; have hcz111_1 := Goto.bc1 BK261; have hcz111_2 := Goto.bc2 BK261; have hcz111_3 := Goto.bc3 BK261; have hcz111_4 := Goto.bc4 BK261; have hcz111_5 := Goto.bc5 BK261; have hcz111_6 := Goto.bc6 BK261; have hcz111_7 := Goto.bc7 BK261; have hcz111_8 := Goto.bc8 BK261; have hcz111_9 := Goto.bc9 BK261; have hfz111_0 := Goto.bf BK261 0; have hfz111_1 := Goto.bf BK261 1; have hfz111_2 := Goto.bf BK261 2; have hfz111_3 := Goto.bf BK261 3; have hfz111_4 := Goto.bf BK261 4; have hfz111_5 := Goto.bf BK261 5; have hfz111_6 := Goto.bf BK261 6; have hfz111_7 := Goto.bf BK261 7; have hfz111_8 := Goto.bf BK261 8; have hfz111_9 := Goto.bf BK261 9) | (go_at_call 20; (with_reducible refine (tontineref1_within.calls (((rd_T40 l0_3 a1).f2).length : Int) 1 4 true _ A89.out).mono ?_); rintro e w' ⟨rfl, ⟨nd, rfl⟩⟩; (try first | exact ⟨rfl, _, World.drewN_drewN _ _ _⟩ | exact ⟨rfl, _, Eq.trans (World.drewN_drewN _ _ _) (congrArg (World.drewN _) (Nat.add_assoc _ _ _))⟩)) | (go_at_call 43; (with_reducible refine (tontineref1_Leq.calls ((rd_T40 l0_3 ((rd_T40 l0_3 a1).f3)).f0.f0) ((rd_T40 l0_3 ((rd_T40 l0_3 a1).f3)).f0.f1) ((rd_T40 l0_3 a1).f0.f0) ((rd_T40 l0_3 a1).f0.f1) false _ A91.out).mono ?_); rintro e w112 ⟨rfl, hb⟩; replace BK259 := Goto.bb BK259 hb; replace BK261 := Goto.bb BK261 hb; replace BK275 := Goto.bp (.cells #[.int .i64 ((rd_T40 l0_3 ((rd_T40 l0_3 a1).f3)).f0.f0), .int .u64 ((rd_T40 l0_3 ((rd_T40 l0_3 a1).f3)).f0.f1)] 38 (0, 0)) BK275 hb; replace HB := Goto.hs HB hb; (try clear hb); (try clear hb2); (try clear hk); (try clear hi))))
                 go_ret
                 exact ⟨Goto.er, by repeat (first | (with_reducible first | exact HB.out | apply below_alloc | apply pw_below_drewN | apply below_drew1 | refine below_set ?_ GE259.out | refine below_set ?_ GE261.out | refine below_set ?_ GE275.out) | exact HB.out)⟩
               ·
                replace c90 := Bool.eq_false_iff.mpr c90
                subst c90
                rw [if_neg (show ¬ (false = true) by decide)] at H
                obtain rfl := Option.some.inj H
                have hnb113 := NB261_259.out; have hnc113 := NB259_261.out
                have hcz114_0 := Goto.bc0 BK261
                have hcz114_1 := Goto.bc1 BK261
                have hcz114_2 := Goto.bc2 BK261
                have hcz114_3 := Goto.bc3 BK261
                have hcz114_4 := Goto.bc4 BK261
                have hcz114_5 := Goto.bc5 BK261
                have hcz114_6 := Goto.bc6 BK261
                have hcz114_7 := Goto.bc7 BK261
                have hcz114_8 := Goto.bc8 BK261
                have hcz114_9 := Goto.bc9 BK261
                have hfz114_0 := Goto.bf BK261 0; have hfz114_1 := Goto.bf BK261 1; have hfz114_2 := Goto.bf BK261 2; have hfz114_3 := Goto.bf BK261 3; have hfz114_4 := Goto.bf BK261 4; have hfz114_5 := Goto.bf BK261 5; have hfz114_6 := Goto.bf BK261 6; have hfz114_7 := Goto.bf BK261 7; have hfz114_8 := Goto.bf BK261 8; have hfz114_9 := Goto.bf BK261 9; have hcz115_0 := Goto.bc0 BK259; have hcz115_1 := Goto.bc1 BK259; have hcz115_2 := Goto.bc2 BK259
                have hcz115_3 := Goto.bc3 BK259
                have hfz115_0 := Goto.bf BK259 0; have hfz115_1 := Goto.bf BK259 1; have hfz115_2 := Goto.bf BK259 2; have hfz115_3 := Goto.bf BK259 3
                have p274 : 0 ≤ (((rd_T40 l0_3 a1).f3) : Int) := Goto.od
                have q274 : ((rd_T40 l0_3 a1).f3) < (l0_3.length : Int) := Goto.od
                obtain ⟨ad274, A274_2, c274_2, A274_3, c274_3, e274, hx274_0, hx274_1, hx274_2, hx274_3, hx274_4, hx274_5, hx274_6, hx274_7, hx274_8, hx274_9, hl274_2, hi274_2, hl274_3, hi274_3⟩ := at_T40 HR0_3.out ((rd_T40 l0_3 a1).f3) p274 q274
                obtain rfl : ad260 = ad274 := (by injection e274)
                replace hx274_0 := Goto.kc HB.out hx274_0
                replace hx274_1 := Goto.kc HB.out hx274_1
                replace hx274_2 := Goto.kc HB.out hx274_2
                replace hx274_3 := Goto.kc HB.out hx274_3
                replace hx274_4 := Goto.kc HB.out hx274_4
                replace hx274_5 := Goto.kc HB.out hx274_5
                replace hx274_6 := Goto.kc HB.out hx274_6
                replace hx274_7 := Goto.kc HB.out hx274_7
                replace hx274_8 := Goto.kc HB.out hx274_8
                replace hx274_9 := Goto.kc HB.out hx274_9
                have HR274_2 := Goto.m0 hi274_2
                have HC274_2 := Goto.m0 hl274_2
                clear hi274_2 hl274_2
                have HR274_3 := Goto.m0 hi274_3
                have HC274_3 := Goto.m0 hl274_3
                clear hi274_3 hl274_3; replace p274 := eq_true p274; replace q274 := eq_true q274
                go_wp2_with (first | (apply wp_region_lit; refine tontineref1_routes.flatc ?_) | (with_reducible refine tontineref1_routes.flatc ?_) | (with_reducible refine tontineref1_routes.flatn ?_) | ((with_reducible refine gate_dst (N := 11) rfl ?_); (try (refine gate_guard (by rfl) ?_; dsimp only)); refine box_event ?hg (N := 11) ?hd (cs := #[.int .i64 0, .int .u64 0]) (t := 38) ?hr ?_; (case hd => rfl); (case hg => rfl); (case hr => first | (go_simp; done) | (go_simp; rfl)); intro gb275 hg w116 hbox hb; have BK275 := Goto.m0 (hbox); have GW275 := Goto.gs HB hg; have GE275 := Goto.gs HB hg; have NB259_275 := Goto.nl BK259 hg; have NB275_259 := Goto.nr BK259 hg; have NB261_275 := Goto.nl BK261 hg; have NB275_261 := Goto.nr BK261 hg; replace BK259 := Goto.bb BK259 hb; replace BK261 := Goto.bb BK261 hb; replace HB := Goto.hs HB hb; clear hb hbox hg; have hnb117 := NB275_259.out; have hnc117 := NB259_275.out; have hnb118 := NB275_261.out; have hnc118 := NB261_275.out; have hcz119_0 := Goto.bc0 BK275; have hcz119_1 := Goto.bc1 BK275; have hfz119_0 := Goto.bf BK275 0; have hfz119_1 := Goto.bf BK275 1; have hcz120_0 := Goto.bc0 BK261; have hcz120_1 := Goto.bc1 BK261; have hcz120_2 := Goto.bc2 BK261; have hcz120_3 := Goto.bc3 BK261; have hcz120_4 := Goto.bc4 BK261; have hcz120_5 := Goto.bc5 BK261; have hcz120_6 := Goto.bc6 BK261; have hcz120_7 := Goto.bc7 BK261; have hcz120_8 := Goto.bc8 BK261; have hcz120_9 := Goto.bc9 BK261; have hfz120_0 := Goto.bf BK261 0; have hfz120_1 := Goto.bf BK261 1; have hfz120_2 := Goto.bf BK261 2; have hfz120_3 := Goto.bf BK261 3; have hfz120_4 := Goto.bf BK261 4; have hfz120_5 := Goto.bf BK261 5; have hfz120_6 := Goto.bf BK261 6; have hfz120_7 := Goto.bf BK261 7; have hfz120_8 := Goto.bf BK261 8; have hfz120_9 := Goto.bf BK261 9) | (go_at_call 20; (with_reducible refine (tontineref1_within.calls (((rd_T40 l0_3 a1).f2).length : Int) 1 4 false _ A89.out).mono ?_); rintro e w' ⟨rfl, ⟨nd, rfl⟩⟩; (try first | exact ⟨rfl, _, World.drewN_drewN _ _ _⟩ | exact ⟨rfl, _, Eq.trans (World.drewN_drewN _ _ _) (congrArg (World.drewN _) (Nat.add_assoc _ _ _))⟩)))
                repeat (go_quiet (first | (apply wp_region_lit; refine tontineref1_routes.flatc ?_) | (with_reducible refine tontineref1_routes.flatc ?_) | (with_reducible refine tontineref1_routes.flatn ?_) | ((with_reducible refine gate_dst (N := 11) rfl ?_); (try (refine gate_guard (by rfl) ?_; dsimp only)); refine box_event ?hg (N := 11) ?hd (cs := #[.int .i64 0, .int .u64 0]) (t := 38) ?hr ?_; (case hd => rfl); (case hg => rfl); (case hr => first | (go_simp; done) | (go_simp; rfl)); intro gb275 hg w116 hbox hb; have BK275 := Goto.m0 (hbox); have GW275 := Goto.gs HB hg; have GE275 := Goto.gs HB hg; have NB259_275 := Goto.nl BK259 hg; have NB275_259 := Goto.nr BK259 hg; have NB261_275 := Goto.nl BK261 hg; have NB275_261 := Goto.nr BK261 hg; replace BK259 := Goto.bb BK259 hb; replace BK261 := Goto.bb BK261 hb; replace HB := Goto.hs HB hb; clear hb hbox hg; have hnb117 := NB275_259.out; have hnc117 := NB259_275.out; have hnb118 := NB275_261.out; have hnc118 := NB261_275.out; have hcz119_0 := Goto.bc0 BK275; have hcz119_1 := Goto.bc1 BK275; have hfz119_0 := Goto.bf BK275 0; have hfz119_1 := Goto.bf BK275 1; have hcz120_0 := Goto.bc0 BK261; have hcz120_1 := Goto.bc1 BK261; have hcz120_2 := Goto.bc2 BK261; have hcz120_3 := Goto.bc3 BK261; have hcz120_4 := Goto.bc4 BK261; have hcz120_5 := Goto.bc5 BK261; have hcz120_6 := Goto.bc6 BK261; have hcz120_7 := Goto.bc7 BK261; have hcz120_8 := Goto.bc8 BK261; have hcz120_9 := Goto.bc9 BK261; have hfz120_0 := Goto.bf BK261 0; have hfz120_1 := Goto.bf BK261 1; have hfz120_2 := Goto.bf BK261 2; have hfz120_3 := Goto.bf BK261 3; have hfz120_4 := Goto.bf BK261 4; have hfz120_5 := Goto.bf BK261 5; have hfz120_6 := Goto.bf BK261 6; have hfz120_7 := Goto.bf BK261 7; have hfz120_8 := Goto.bf BK261 8; have hfz120_9 := Goto.bf BK261 9) | (go_at_call 20; (with_reducible refine (tontineref1_within.calls (((rd_T40 l0_3 a1).f2).length : Int) 1 4 false _ A89.out).mono ?_); rintro e w' ⟨rfl, ⟨nd, rfl⟩⟩; (try first | exact ⟨rfl, _, World.drewN_drewN _ _ _⟩ | exact ⟨rfl, _, Eq.trans (World.drewN_drewN _ _ _) (congrArg (World.drewN _) (Nat.add_assoc _ _ _))⟩))); try go_wp2_with (first | (apply wp_region_lit; refine tontineref1_routes.flatc ?_) | (with_reducible refine tontineref1_routes.flatc ?_) | (with_reducible refine tontineref1_routes.flatn ?_) | ((with_reducible refine gate_dst (N := 11) rfl ?_); (try (refine gate_guard (by rfl) ?_; dsimp only)); refine box_event ?hg (N := 11) ?hd (cs := #[.int .i64 0, .int .u64 0]) (t := 38) ?hr ?_; (case hd => rfl); (case hg => rfl); (case hr => first | (go_simp; done) | (go_simp; rfl)); intro gb275 hg w116 hbox hb; have BK275 := Goto.m0 (hbox); have GW275 := Goto.gs HB hg; have GE275 := Goto.gs HB hg; have NB259_275 := Goto.nl BK259 hg; have NB275_259 := Goto.nr BK259 hg; have NB261_275 := Goto.nl BK261 hg; have NB275_261 := Goto.nr BK261 hg; replace BK259 := Goto.bb BK259 hb; replace BK261 := Goto.bb BK261 hb; replace HB := Goto.hs HB hb; clear hb hbox hg; have hnb117 := NB275_259.out; have hnc117 := NB259_275.out; have hnb118 := NB275_261.out; have hnc118 := NB261_275.out; have hcz119_0 := Goto.bc0 BK275; have hcz119_1 := Goto.bc1 BK275; have hfz119_0 := Goto.bf BK275 0; have hfz119_1 := Goto.bf BK275 1; have hcz120_0 := Goto.bc0 BK261; have hcz120_1 := Goto.bc1 BK261; have hcz120_2 := Goto.bc2 BK261; have hcz120_3 := Goto.bc3 BK261; have hcz120_4 := Goto.bc4 BK261; have hcz120_5 := Goto.bc5 BK261; have hcz120_6 := Goto.bc6 BK261; have hcz120_7 := Goto.bc7 BK261; have hcz120_8 := Goto.bc8 BK261; have hcz120_9 := Goto.bc9 BK261; have hfz120_0 := Goto.bf BK261 0; have hfz120_1 := Goto.bf BK261 1; have hfz120_2 := Goto.bf BK261 2; have hfz120_3 := Goto.bf BK261 3; have hfz120_4 := Goto.bf BK261 4; have hfz120_5 := Goto.bf BK261 5; have hfz120_6 := Goto.bf BK261 6; have hfz120_7 := Goto.bf BK261 7; have hfz120_8 := Goto.bf BK261 8; have hfz120_9 := Goto.bf BK261 9) | (go_at_call 20; (with_reducible refine (tontineref1_within.calls (((rd_T40 l0_3 a1).f2).length : Int) 1 4 false _ A89.out).mono ?_); rintro e w' ⟨rfl, ⟨nd, rfl⟩⟩; (try first | exact ⟨rfl, _, World.drewN_drewN _ _ _⟩ | exact ⟨rfl, _, Eq.trans (World.drewN_drewN _ _ _) (congrArg (World.drewN _) (Nat.add_assoc _ _ _))⟩))))
                go_ret
                exact ⟨Goto.er, by repeat (first | (with_reducible first | exact HB.out | apply below_alloc | apply pw_below_drewN | apply below_drew1 | refine below_set ?_ GE259.out | refine below_set ?_ GE261.out | refine below_set ?_ GE275.out) | exact HB.out)⟩
              ·
               rw [if_neg c88] at H
               exact absurd H (by simp)
             ·
              rw [if_neg c87] at H
              exact absurd H (by simp)
  ·
   rw [if_neg c4] at H
   exact absurd H (by simp)
 ·
  rw [if_neg c3] at H
  exact absurd H (by simp)

end Go.Proofs.YtjgdcifbhmjinaaDoor.P
