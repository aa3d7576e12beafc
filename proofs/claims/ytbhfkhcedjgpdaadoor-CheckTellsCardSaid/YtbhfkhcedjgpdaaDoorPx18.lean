/- Printed by a program of this workplace (a turned copy of the kit's optional print), out of the translation; not trusted: Lean checks it. -/
import Derived.Test.YtbhfkhcedjgpdaaDoorPx0
namespace Go.Proofs.YtbhfkhcedjgpdaaDoor.P
open Go.RowKit Go.Proofs.YtbhfkhcedjgpdaaDoorW.PrintWords Go.Proofs.YtbhfkhcedjgpdaaDoorW.PrintLast Go.Proofs.YtbhfkhcedjgpdaaDoorW.PrintMore
attribute [local go_sem] max2_int min2_int max_two min_two max_three min_three max_four min_four   -- for this text's walks alone
set_option linter.unusedVariables false
set_option linter.unusedSimpArgs false

/-! ### tontineref15_Level: function 16 -/
def tontineref15_Level.f (a0_0 : Int) (a0_1 : Int) (l0_2 : List (List Int)) (l0_3 : List (S60)) (a1 : Int) (a2 : Int) : Option (Int) := if a2 < 0 then (some 10) else (if 0 ≤ a1 then (if a1 < (l0_3.length : Int) then (if a2 ≥ (((rd_T60 l0_3 a1).f2).length : Int) then (some 10) else (some 0)) else (none)) else (none))
set_option maxHeartbeats 8000000 in
set_option maxRecDepth 100000 in
theorem tontineref15_Level.calls (a0_0 : Int) (a0_1 : Int) (A0_2 : Option Addr) (c0_2 : Nat) (l0_2 : List (List Int)) (A0_3 : Option Addr) (c0_3 : Nat) (l0_3 : List (S60)) (a1 : Int) (a2 : Int) (r : Int) (w : World) (hr0_2 : Kd.C (Kd.slice 3 (Kd.int .i64)) w A0_2 l0_2.length l0_2) (hc0_2 : l0_2.length ≤ c0_2) (hr0_3 : Kd.C k60 w A0_3 l0_3.length l0_3) (hc0_3 : l0_3.length ≤ c0_3) (h : tontineref15_Level.f a0_0 a0_1 l0_2 l0_3 a1 a2 = some r) :
    Calls Tryd.prog 16 #[.agg #[.int .i64 a0_0, .int .i64 a0_1, .slice A0_2 l0_2.length c0_2, .slice A0_3 l0_3.length c0_3], .int .i64 a1, .int .i64 a2] w fun e w' => e = .returned (.int .i64 r) ∧ Below w.heap.size w w' := by
 have hu25 := Tryd.underlying25
 have HR0_2 := Goto.m0 hr0_2
 have HC0_2 := Goto.m0 hc0_2
 clear hr0_2 hc0_2
 have HR0_3 := Goto.m0 hr0_3
 have HC0_3 := Goto.m0 hc0_3
 clear hr0_3 hc0_3
 have HB := Goto.m0 (Below.refl w.heap.size w)
 have H : (if a2 < 0 then (some 10) else (if 0 ≤ a1 then (if a1 < (l0_3.length : Int) then (if a2 ≥ (((rd_T60 l0_3 a1).f2).length : Int) then (some 10) else (some 0)) else (none)) else (none))) = some r := h
 clear h
 by_cases c4 : a2 < 0
 ·
  rw [if_pos c4] at H
  have c4b0 : decide (a2 < 0) = true := decide_eq_true c4
  clear c4
  obtain rfl := Option.some.inj H
  go_enter Tryd.func16, Tryd.ntmps16
  go_wp2_with (first | ((with_reducible refine gate_dst (N := 3) rfl ?_); (try (refine gate_guard (by rfl) ?_; dsimp only)); refine box_event ?hg (N := 3) ?hd (cs := #[.int .i64 a0_0, .int .i64 a0_1, .slice A0_2 l0_2.length c0_2, .slice A0_3 l0_3.length c0_3]) (t := 25) ?hr ?_; (case hd => rfl); (case hg => rfl); (case hr => first | (go_simp; done) | (go_simp; rfl)); intro gb264 hg w5 hbox hb; have BK264 := Goto.m0 (hbox); have GW264 := Goto.gs HB hg; have GE264 := Goto.gs HB hg; replace HB := Goto.hs HB hb; clear hb hbox hg))
  go_ret
  exact ⟨Goto.er, by repeat (first | (with_reducible first | exact HB.out | apply below_alloc | apply pw_below_drewN | apply below_drew1 | refine below_set ?_ GE264.out) | exact HB.out)⟩
 ·
  rw [if_neg c4] at H
  have c4b0 : decide (a2 < 0) = false := decide_eq_false c4
  clear c4
  by_cases c6 : 0 ≤ a1
  ·
   rw [if_pos c6] at H
   have c6b0 : decide (0 ≤ a1) = true := decide_eq_true c6
   clear c6
   by_cases c7 : a1 < (l0_3.length : Int)
   ·
    rw [if_pos c7] at H
    have c7b0 : decide (a1 < (l0_3.length : Int)) = true := decide_eq_true c7
    clear c7
    by_cases c8 : a2 ≥ (((rd_T60 l0_3 a1).f2).length : Int)
    ·
     rw [if_pos c8] at H
     have c8b0 : decide ((((rd_T60 l0_3 a1).f2).length : Int) ≤ a2) = true := decide_eq_true c8
     clear c8
     obtain rfl := Option.some.inj H
     go_enter Tryd.func16, Tryd.ntmps16
     go_wp2_with (first | ((with_reducible refine gate_dst (N := 3) rfl ?_); (try (refine gate_guard (by rfl) ?_; dsimp only)); refine box_event ?hg (N := 3) ?hd (cs := #[.int .i64 a0_0, .int .i64 a0_1, .slice A0_2 l0_2.length c0_2, .slice A0_3 l0_3.length c0_3]) (t := 25) ?hr ?_; (case hd => rfl); (case hg => rfl); (case hr => first | (go_simp; done) | (go_simp; rfl)); intro gb264 hg w9 hbox hb; have BK264 := Goto.m0 (hbox); have GW264 := Goto.gs HB hg; have GE264 := Goto.gs HB hg; replace HB := Goto.hs HB hb; clear hb hbox hg; have hcz10_0 := Goto.bc0 BK264; have hcz10_1 := Goto.bc1 BK264; have hcz10_2 := Goto.bc2 BK264; have hcz10_3 := Goto.bc3 BK264; have hfz10_0 := Goto.bf BK264 0; have hfz10_1 := Goto.bf BK264 1; have hfz10_2 := Goto.bf BK264 2; have hfz10_3 := Goto.bf BK264 3; have p265 : 0 ≤ (a1 : Int) := Goto.od; have q265 : a1 < (l0_3.length : Int) := Goto.od; obtain ⟨ad265, A265_2, c265_2, A265_3, c265_3, e265, hx265_0, hx265_1, hx265_2, hx265_3, hx265_4, hx265_5, hx265_6, hx265_7, hx265_8, hx265_9, hl265_2, hi265_2, hl265_3, hi265_3⟩ := at_T60 HR0_3.out a1 p265 q265; cases e265; replace hx265_0 := Goto.kc HB.out hx265_0; replace hx265_1 := Goto.kc HB.out hx265_1; replace hx265_2 := Goto.kc HB.out hx265_2; replace hx265_3 := Goto.kc HB.out hx265_3; replace hx265_4 := Goto.kc HB.out hx265_4; replace hx265_5 := Goto.kc HB.out hx265_5; replace hx265_6 := Goto.kc HB.out hx265_6; replace hx265_7 := Goto.kc HB.out hx265_7; replace hx265_8 := Goto.kc HB.out hx265_8; replace hx265_9 := Goto.kc HB.out hx265_9; have HR265_2 := Goto.m0 hi265_2; have HC265_2 := Goto.m0 hl265_2; clear hi265_2 hl265_2; have HR265_3 := Goto.m0 hi265_3; have HC265_3 := Goto.m0 hl265_3; clear hi265_3 hl265_3; replace p265 := eq_true p265; replace q265 := eq_true q265))
     go_ret
     exact ⟨Goto.er, by repeat (first | (with_reducible first | exact HB.out | apply below_alloc | apply pw_below_drewN | apply below_drew1 | refine below_set ?_ GE264.out) | exact HB.out)⟩
    ·
     rw [if_neg c8] at H
     have c8b0 : decide ((((rd_T60 l0_3 a1).f2).length : Int) ≤ a2) = false := decide_eq_false c8
     clear c8
     obtain rfl := Option.some.inj H
     go_enter Tryd.func16, Tryd.ntmps16
     go_wp2_with (first | ((with_reducible refine gate_dst (N := 3) rfl ?_); (try (refine gate_guard (by rfl) ?_; dsimp only)); refine box_event ?hg (N := 3) ?hd (cs := #[.int .i64 a0_0, .int .i64 a0_1, .slice A0_2 l0_2.length c0_2, .slice A0_3 l0_3.length c0_3]) (t := 25) ?hr ?_; (case hd => rfl); (case hg => rfl); (case hr => first | (go_simp; done) | (go_simp; rfl)); intro gb264 hg w11 hbox hb; have BK264 := Goto.m0 (hbox); have GW264 := Goto.gs HB hg; have GE264 := Goto.gs HB hg; replace HB := Goto.hs HB hb; clear hb hbox hg; have hcz12_0 := Goto.bc0 BK264; have hcz12_1 := Goto.bc1 BK264; have hcz12_2 := Goto.bc2 BK264; have hcz12_3 := Goto.bc3 BK264; have hfz12_0 := Goto.bf BK264 0; have hfz12_1 := Goto.bf BK264 1; have hfz12_2 := Goto.bf BK264 2; have hfz12_3 := Goto.bf BK264 3; have p265 : 0 ≤ (a1 : Int) := Goto.od; have q265 : a1 < (l0_3.length : Int) := Goto.od; obtain ⟨ad265, A265_2, c265_2, A265_3, c265_3, e265, hx265_0, hx265_1, hx265_2, hx265_3, hx265_4, hx265_5, hx265_6, hx265_7, hx265_8, hx265_9, hl265_2, hi265_2, hl265_3, hi265_3⟩ := at_T60 HR0_3.out a1 p265 q265; cases e265; replace hx265_0 := Goto.kc HB.out hx265_0; replace hx265_1 := Goto.kc HB.out hx265_1; replace hx265_2 := Goto.kc HB.out hx265_2; replace hx265_3 := Goto.kc HB.out hx265_3; replace hx265_4 := Goto.kc HB.out hx265_4; replace hx265_5 := Goto.kc HB.out hx265_5; replace hx265_6 := Goto.kc HB.out hx265_6; replace hx265_7 := Goto.kc HB.out hx265_7; replace hx265_8 := Goto.kc HB.out hx265_8; replace hx265_9 := Goto.kc HB.out hx265_9; have HR265_2 := Goto.m0 hi265_2; have HC265_2 := Goto.m0 hl265_2; clear hi265_2 hl265_2; have HR265_3 := Goto.m0 hi265_3; have HC265_3 := Goto.m0 hl265_3; clear hi265_3 hl265_3; replace p265 := eq_true p265; replace q265 := eq_true q265))
     go_ret
     exact ⟨Goto.er, by repeat (first | (with_reducible first | exact HB.out | apply below_alloc | apply pw_below_drewN | apply below_drew1 | refine below_set ?_ GE264.out) | exact HB.out)⟩
   ·
    rw [if_neg c7] at H
    exact absurd H (by simp)
  ·
   rw [if_neg c6] at H
   exact absurd H (by simp)

end Go.Proofs.YtbhfkhcedjgpdaaDoor.P
