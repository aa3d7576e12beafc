/- Printed by a program of this workplace (a turned copy of the kit's optional print), out of the translation; not trusted: Lean checks it. -/
import Derived.Test.YtbhfkhcedjgpdaaDoorPx0
namespace Go.Proofs.YtbhfkhcedjgpdaaDoor.P
open Go.RowKit Go.Proofs.YtbhfkhcedjgpdaaDoorW.PrintWords Go.Proofs.YtbhfkhcedjgpdaaDoorW.PrintLast Go.Proofs.YtbhfkhcedjgpdaaDoorW.PrintMore
attribute [local go_sem] max2_int min2_int max_two min_two max_three min_three max_four min_four   -- for this text's walks alone
set_option linter.unusedVariables false
set_option linter.unusedSimpArgs false

/-! ### check_domain: function 40 -/
def check_domain.f (a0_0 : Int) (a0_1 : Int) (l0_2 : List (List Int)) (l0_3 : List (S60)) (a1 : Int) : Option (Bool) := if a1 ≥ 0 then (some (decide (a1 < (l0_3.length : Int)))) else (some false)
set_option maxHeartbeats 8000000 in
set_option maxRecDepth 100000 in
theorem check_domain.calls (a0_0 : Int) (a0_1 : Int) (A0_2 : Option Addr) (c0_2 : Nat) (l0_2 : List (List Int)) (A0_3 : Option Addr) (c0_3 : Nat) (l0_3 : List (S60)) (a1 : Int) (r : Bool) (w : World) (hr0_2 : Kd.C (Kd.slice 3 (Kd.int .i64)) w A0_2 l0_2.length l0_2) (hc0_2 : l0_2.length ≤ c0_2) (hr0_3 : Kd.C k60 w A0_3 l0_3.length l0_3) (hc0_3 : l0_3.length ≤ c0_3) (h : check_domain.f a0_0 a0_1 l0_2 l0_3 a1 = some r) :
    Calls Tryd.prog 40 #[.agg #[.int .i64 a0_0, .int .i64 a0_1, .slice A0_2 l0_2.length c0_2, .slice A0_3 l0_3.length c0_3], .int .i64 a1] w fun e w' => e = .returned (.bool r) ∧ Below w.heap.size w w' := by
 have hu25 := Tryd.underlying25
 have HR0_2 := Goto.m0 hr0_2
 have HC0_2 := Goto.m0 hc0_2
 clear hr0_2 hc0_2
 have HR0_3 := Goto.m0 hr0_3
 have HC0_3 := Goto.m0 hc0_3
 clear hr0_3 hc0_3
 have HB := Goto.m0 (Below.refl w.heap.size w)
 have H : (if a1 ≥ 0 then (some (decide (a1 < (l0_3.length : Int)))) else (some false)) = some r := h
 clear h
 by_cases c3 : a1 ≥ 0
 ·
  rw [if_pos c3] at H
  have c3b0 : decide (0 ≤ a1) = true := decide_eq_true c3
  clear c3
  obtain rfl := Option.some.inj H
  go_enter Tryd.func40, Tryd.ntmps40
  go_wp2_with (first | ((with_reducible refine gate_dst (N := 2) rfl ?_); (try (refine gate_guard (by rfl) ?_; dsimp only)); refine box_event ?hg (N := 2) ?hd (cs := #[.int .i64 a0_0, .int .i64 a0_1, .slice A0_2 l0_2.length c0_2, .slice A0_3 l0_3.length c0_3]) (t := 25) ?hr ?_; (case hd => rfl); (case hg => rfl); (case hr => first | (go_simp; done) | (go_simp; rfl)); intro gb101 hg w4 hbox hb; have BK101 := Goto.m0 (hbox); have GW101 := Goto.gs HB hg; have GE101 := Goto.gs HB hg; replace HB := Goto.hs HB hb; clear hb hbox hg; have hcz5_0 := Goto.bc0 BK101; have hcz5_1 := Goto.bc1 BK101; have hcz5_2 := Goto.bc2 BK101; have hcz5_3 := Goto.bc3 BK101; have hfz5_0 := Goto.bf BK101 0; have hfz5_1 := Goto.bf BK101 1; have hfz5_2 := Goto.bf BK101 2; have hfz5_3 := Goto.bf BK101 3))
  go_ret
  exact ⟨Goto.er, by repeat (first | (with_reducible first | exact HB.out | apply below_alloc | apply pw_below_drewN | apply below_drew1 | refine below_set ?_ GE101.out) | exact HB.out)⟩
 ·
  rw [if_neg c3] at H
  have c3b0 : decide (0 ≤ a1) = false := decide_eq_false c3
  clear c3
  obtain rfl := Option.some.inj H
  go_enter Tryd.func40, Tryd.ntmps40
  go_wp2_with (first | ((with_reducible refine gate_dst (N := 2) rfl ?_); (try (refine gate_guard (by rfl) ?_; dsimp only)); refine box_event ?hg (N := 2) ?hd (cs := #[.int .i64 a0_0, .int .i64 a0_1, .slice A0_2 l0_2.length c0_2, .slice A0_3 l0_3.length c0_3]) (t := 25) ?hr ?_; (case hd => rfl); (case hg => rfl); (case hr => first | (go_simp; done) | (go_simp; rfl)); intro gb101 hg w6 hbox hb; have BK101 := Goto.m0 (hbox); have GW101 := Goto.gs HB hg; have GE101 := Goto.gs HB hg; replace HB := Goto.hs HB hb; clear hb hbox hg))
  go_ret
  exact ⟨Goto.er, by repeat (first | (with_reducible first | exact HB.out | apply below_alloc | apply pw_below_drewN | apply below_drew1 | refine below_set ?_ GE101.out) | exact HB.out)⟩

/-! ### label_Leq: function 49 -/
def label_Leq.f (a0_0 : Int) (a0_1 : Int) (a1_0 : Int) (a1_1 : Int) : Option (Bool) := if a0_0 ≤ a1_0 then (some ((Go.bits .andNot .u64 a0_1 a1_1) == 0)) else (some false)
set_option maxHeartbeats 8000000 in
set_option maxRecDepth 100000 in
theorem label_Leq.calls (a0_0 : Int) (a0_1 : Int) (a1_0 : Int) (a1_1 : Int) (r : Bool) (w : World) (h : label_Leq.f a0_0 a0_1 a1_0 a1_1 = some r) :
    Calls Tryd.prog 49 #[.agg #[.int .i64 a0_0, .int .u64 a0_1], .agg #[.int .i64 a1_0, .int .u64 a1_1]] w fun e w' => e = .returned (.bool r) ∧ Below w.heap.size w w' := by
 have hu58 := Tryd.underlying58
 have HB := Goto.m0 (Below.refl w.heap.size w)
 have H : (if a0_0 ≤ a1_0 then (some ((Go.bits .andNot .u64 a0_1 a1_1) == 0)) else (some false)) = some r := h
 clear h
 by_cases c3 : a0_0 ≤ a1_0
 ·
  rw [if_pos c3] at H
  have c3b0 : decide (a0_0 ≤ a1_0) = true := decide_eq_true c3
  clear c3
  obtain rfl := Option.some.inj H
  go_enter Tryd.func49, Tryd.ntmps49
  go_wp2_with (first | ((with_reducible refine gate_dst (N := 2) rfl ?_); refine box_event ?hg (N := 2) ?hd (cs := #[.int .i64 a0_0, .int .u64 a0_1]) (t := 58) ?hr ?_; (case hd => rfl); (case hg => rfl); (case hr => first | (go_simp; done) | (go_simp; rfl)); intro gb102 hg w4 hbox hb; have BK102 := Goto.m0 (hbox); have GW102 := Goto.gs HB hg; have GE102 := Goto.gs HB hg; replace HB := Goto.hs HB hb; clear hb hbox hg) | ((with_reducible refine gate_dst (N := 3) rfl ?_); refine box_event ?hg (N := 3) ?hd (cs := #[.int .i64 a1_0, .int .u64 a1_1]) (t := 58) ?hr ?_; (case hd => rfl); (case hg => rfl); (case hr => first | (go_simp; done) | (go_simp; rfl)); intro gb103 hg w5 hbox hb; have BK103 := Goto.m0 (hbox); have GW103 := Goto.gs HB hg; have GE103 := Goto.gs HB hg; have NB102_103 := Goto.nl BK102 hg; have NB103_102 := Goto.nr BK102 hg; replace BK102 := Goto.bb BK102 hb; replace HB := Goto.hs HB hb; clear hb hbox hg; have hnb6 := NB102_103.out; have hnc6 := NB103_102.out; have hcz7_0 := Goto.bc0 BK102; have hcz7_1 := Goto.bc1 BK102; have hfz7_0 := Goto.bf BK102 0; have hfz7_1 := Goto.bf BK102 1; have hcz8_0 := Goto.bc0 BK103; have hcz8_1 := Goto.bc1 BK103; have hfz8_0 := Goto.bf BK103 0; have hfz8_1 := Goto.bf BK103 1))
  go_ret
  exact ⟨Goto.er, by repeat (first | (with_reducible first | exact HB.out | apply below_alloc | apply pw_below_drewN | apply below_drew1 | refine below_set ?_ GE102.out | refine below_set ?_ GE103.out) | exact HB.out)⟩
 ·
  rw [if_neg c3] at H
  have c3b0 : decide (a0_0 ≤ a1_0) = false := decide_eq_false c3
  clear c3
  obtain rfl := Option.some.inj H
  go_enter Tryd.func49, Tryd.ntmps49
  go_wp2_with (first | ((with_reducible refine gate_dst (N := 2) rfl ?_); refine box_event ?hg (N := 2) ?hd (cs := #[.int .i64 a0_0, .int .u64 a0_1]) (t := 58) ?hr ?_; (case hd => rfl); (case hg => rfl); (case hr => first | (go_simp; done) | (go_simp; rfl)); intro gb102 hg w9 hbox hb; have BK102 := Goto.m0 (hbox); have GW102 := Goto.gs HB hg; have GE102 := Goto.gs HB hg; replace HB := Goto.hs HB hb; clear hb hbox hg) | ((with_reducible refine gate_dst (N := 3) rfl ?_); refine box_event ?hg (N := 3) ?hd (cs := #[.int .i64 a1_0, .int .u64 a1_1]) (t := 58) ?hr ?_; (case hd => rfl); (case hg => rfl); (case hr => first | (go_simp; done) | (go_simp; rfl)); intro gb103 hg w10 hbox hb; have BK103 := Goto.m0 (hbox); have GW103 := Goto.gs HB hg; have GE103 := Goto.gs HB hg; have NB102_103 := Goto.nl BK102 hg; have NB103_102 := Goto.nr BK102 hg; replace BK102 := Goto.bb BK102 hb; replace HB := Goto.hs HB hb; clear hb hbox hg; have hnb11 := NB102_103.out; have hnc11 := NB103_102.out; have hcz12_0 := Goto.bc0 BK102; have hcz12_1 := Goto.bc1 BK102; have hfz12_0 := Goto.bf BK102 0; have hfz12_1 := Goto.bf BK102 1; have hcz13_0 := Goto.bc0 BK103; have hcz13_1 := Goto.bc1 BK103; have hfz13_0 := Goto.bf BK103 0; have hfz13_1 := Goto.bf BK103 1))
  go_ret
  exact ⟨Goto.er, by repeat (first | (with_reducible first | exact HB.out | apply below_alloc | apply pw_below_drewN | apply below_drew1 | refine below_set ?_ GE102.out | refine below_set ?_ GE103.out) | exact HB.out)⟩

end Go.Proofs.YtbhfkhcedjgpdaaDoor.P
