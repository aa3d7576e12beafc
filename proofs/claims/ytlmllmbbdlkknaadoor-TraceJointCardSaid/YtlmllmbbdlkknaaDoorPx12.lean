/- Printed by a program of this workplace (a turned copy of the kit's optional print), out of the translation; not trusted: Lean checks it. -/
import Derived.Test.YtlmllmbbdlkknaaDoorPx0
namespace Go.Proofs.YtlmllmbbdlkknaaDoor.P
open Go.RowKit Go.Proofs.YtlmllmbbdlkknaaDoorW.PrintWords Go.Proofs.YtlmllmbbdlkknaaDoorW.PrintLast Go.Proofs.YtlmllmbbdlkknaaDoorW.PrintMore
attribute [local go_sem] max2_int min2_int max_two min_two max_three min_three max_four min_four   -- for this text's walks alone
set_option linter.unusedVariables false
set_option linter.unusedSimpArgs false

/-! ### tontinelaw24_seen: function 20 -/
def tontinelaw24_seen.f (a0_0 : Int) (a0_1 : Int) (a0_2 : Int) (a0_3 : Int) (a0_4 : Int) (a0_5 : Int) : Option (Bool) := if a0_1 = 2 then (some true) else (if a0_1 = 1 then (if a0_3 = 0 then (if a0_4 = 0 then (some (a0_5 == 0)) else (some false)) else (some false)) else (some false))
set_option maxHeartbeats 8000000 in
set_option maxRecDepth 100000 in
theorem tontinelaw24_seen.calls (a0_0 : Int) (a0_1 : Int) (a0_2 : Int) (a0_3 : Int) (a0_4 : Int) (a0_5 : Int) (r : Bool) (w : World) (h : tontinelaw24_seen.f a0_0 a0_1 a0_2 a0_3 a0_4 a0_5 = some r) :
    Calls Tryd.prog 20 #[.agg #[.int .i64 a0_0, .int .i64 a0_1, .int .i64 a0_2, .int .i64 a0_3, .int .i64 a0_4, .int .i64 a0_5]] w fun e w' => e = .returned (.bool r) ∧ Below w.heap.size w w' := by
 have hu35 := Tryd.underlying35
 have HB := Goto.m0 (Below.refl w.heap.size w)
 have H : (if a0_1 = 2 then (some true) else (if a0_1 = 1 then (if a0_3 = 0 then (if a0_4 = 0 then (some (a0_5 == 0)) else (some false)) else (some false)) else (some false))) = some r := h
 clear h
 by_cases c2 : a0_1 = 2
 ·
  rw [if_pos c2] at H
  have c2b0 : (a0_1 == 2) = true := beq_iff_eq.mpr c2
  have c2b1 : (a0_1 != 2) = false := bne_eq_false_iff_eq.mpr c2
  clear c2
  obtain rfl := Option.some.inj H
  go_enter Tryd.func20, Tryd.ntmps20
  go_wp2_with (first | ((with_reducible refine gate_dst (N := 1) rfl ?_); refine box_event ?hg (N := 1) ?hd (cs := #[.int .i64 a0_0, .int .i64 a0_1, .int .i64 a0_2, .int .i64 a0_3, .int .i64 a0_4, .int .i64 a0_5]) (t := 35) ?hr ?_; (case hd => rfl); (case hg => rfl); (case hr => first | (go_simp; done) | (go_simp; rfl)); intro gb281 hg w3 hbox hb; have BK281 := Goto.m0 (hbox); have GW281 := Goto.gs HB hg; have GE281 := Goto.gs HB hg; replace HB := Goto.hs HB hb; clear hb hbox hg; have hcz4_0 := Goto.bc0 BK281; have hcz4_1 := Goto.bc1 BK281; have hcz4_2 := Goto.bc2 BK281; have hcz4_3 := Goto.bc3 BK281; have hcz4_4 := Goto.bc4 BK281; have hcz4_5 := Goto.bc5 BK281; have hfz4_0 := Goto.bf BK281 0; have hfz4_1 := Goto.bf BK281 1; have hfz4_2 := Goto.bf BK281 2; have hfz4_3 := Goto.bf BK281 3; have hfz4_4 := Goto.bf BK281 4; have hfz4_5 := Goto.bf BK281 5))
  go_ret
  exact ⟨Goto.er, by repeat (first | (with_reducible first | exact HB.out | apply below_alloc | apply pw_below_drewN | apply below_drew1 | refine below_set ?_ GE281.out) | exact HB.out)⟩
 ·
  rw [if_neg c2] at H
  have c2b0 : (a0_1 == 2) = false := beq_eq_false_iff_ne.mpr c2
  have c2b1 : (a0_1 != 2) = true := bne_iff_ne.mpr c2
  by_cases c5 : a0_1 = 1
  ·
   rw [if_pos c5] at H
   have c5b0 : (a0_1 == 1) = true := beq_iff_eq.mpr c5
   have c5b1 : (a0_1 != 1) = false := bne_eq_false_iff_eq.mpr c5
   clear c5
   by_cases c6 : a0_3 = 0
   ·
    rw [if_pos c6] at H
    have c6b0 : (a0_3 == 0) = true := beq_iff_eq.mpr c6
    have c6b1 : (a0_3 != 0) = false := bne_eq_false_iff_eq.mpr c6
    clear c6
    by_cases c7 : a0_4 = 0
    ·
     rw [if_pos c7] at H
     have c7b0 : (a0_4 == 0) = true := beq_iff_eq.mpr c7
     have c7b1 : (a0_4 != 0) = false := bne_eq_false_iff_eq.mpr c7
     clear c7
     obtain rfl := Option.some.inj H
     go_enter Tryd.func20, Tryd.ntmps20
     go_wp2_with (first | ((with_reducible refine gate_dst (N := 1) rfl ?_); refine box_event ?hg (N := 1) ?hd (cs := #[.int .i64 a0_0, .int .i64 a0_1, .int .i64 a0_2, .int .i64 a0_3, .int .i64 a0_4, .int .i64 a0_5]) (t := 35) ?hr ?_; (case hd => rfl); (case hg => rfl); (case hr => first | (go_simp; done) | (go_simp; rfl)); intro gb281 hg w8 hbox hb; have BK281 := Goto.m0 (hbox); have GW281 := Goto.gs HB hg; have GE281 := Goto.gs HB hg; replace HB := Goto.hs HB hb; clear hb hbox hg; have hcz9_0 := Goto.bc0 BK281; have hcz9_1 := Goto.bc1 BK281; have hcz9_2 := Goto.bc2 BK281; have hcz9_3 := Goto.bc3 BK281; have hcz9_4 := Goto.bc4 BK281; have hcz9_5 := Goto.bc5 BK281; have hfz9_0 := Goto.bf BK281 0; have hfz9_1 := Goto.bf BK281 1; have hfz9_2 := Goto.bf BK281 2; have hfz9_3 := Goto.bf BK281 3; have hfz9_4 := Goto.bf BK281 4; have hfz9_5 := Goto.bf BK281 5))
     go_ret
     exact ⟨Goto.er, by repeat (first | (with_reducible first | exact HB.out | apply below_alloc | apply pw_below_drewN | apply below_drew1 | refine below_set ?_ GE281.out) | exact HB.out)⟩
    ·
     rw [if_neg c7] at H
     have c7b0 : (a0_4 == 0) = false := beq_eq_false_iff_ne.mpr c7
     have c7b1 : (a0_4 != 0) = true := bne_iff_ne.mpr c7
     obtain rfl := Option.some.inj H
     go_enter Tryd.func20, Tryd.ntmps20
     go_wp2_with (first | ((with_reducible refine gate_dst (N := 1) rfl ?_); refine box_event ?hg (N := 1) ?hd (cs := #[.int .i64 a0_0, .int .i64 a0_1, .int .i64 a0_2, .int .i64 a0_3, .int .i64 a0_4, .int .i64 a0_5]) (t := 35) ?hr ?_; (case hd => rfl); (case hg => rfl); (case hr => first | (go_simp; done) | (go_simp; rfl)); intro gb281 hg w10 hbox hb; have BK281 := Goto.m0 (hbox); have GW281 := Goto.gs HB hg; have GE281 := Goto.gs HB hg; replace HB := Goto.hs HB hb; clear hb hbox hg; have hcz11_0 := Goto.bc0 BK281; have hcz11_1 := Goto.bc1 BK281; have hcz11_2 := Goto.bc2 BK281; have hcz11_3 := Goto.bc3 BK281; have hcz11_4 := Goto.bc4 BK281; have hcz11_5 := Goto.bc5 BK281; have hfz11_0 := Goto.bf BK281 0; have hfz11_1 := Goto.bf BK281 1; have hfz11_2 := Goto.bf BK281 2; have hfz11_3 := Goto.bf BK281 3; have hfz11_4 := Goto.bf BK281 4; have hfz11_5 := Goto.bf BK281 5))
     go_ret
     exact ⟨Goto.er, by repeat (first | (with_reducible first | exact HB.out | apply below_alloc | apply pw_below_drewN | apply below_drew1 | refine below_set ?_ GE281.out) | exact HB.out)⟩
   ·
    rw [if_neg c6] at H
    have c6b0 : (a0_3 == 0) = false := beq_eq_false_iff_ne.mpr c6
    have c6b1 : (a0_3 != 0) = true := bne_iff_ne.mpr c6
    obtain rfl := Option.some.inj H
    go_enter Tryd.func20, Tryd.ntmps20
    go_wp2_with (first | ((with_reducible refine gate_dst (N := 1) rfl ?_); refine box_event ?hg (N := 1) ?hd (cs := #[.int .i64 a0_0, .int .i64 a0_1, .int .i64 a0_2, .int .i64 a0_3, .int .i64 a0_4, .int .i64 a0_5]) (t := 35) ?hr ?_; (case hd => rfl); (case hg => rfl); (case hr => first | (go_simp; done) | (go_simp; rfl)); intro gb281 hg w12 hbox hb; have BK281 := Goto.m0 (hbox); have GW281 := Goto.gs HB hg; have GE281 := Goto.gs HB hg; replace HB := Goto.hs HB hb; clear hb hbox hg; have hcz13_0 := Goto.bc0 BK281; have hcz13_1 := Goto.bc1 BK281; have hcz13_2 := Goto.bc2 BK281; have hcz13_3 := Goto.bc3 BK281; have hcz13_4 := Goto.bc4 BK281; have hcz13_5 := Goto.bc5 BK281; have hfz13_0 := Goto.bf BK281 0; have hfz13_1 := Goto.bf BK281 1; have hfz13_2 := Goto.bf BK281 2; have hfz13_3 := Goto.bf BK281 3; have hfz13_4 := Goto.bf BK281 4; have hfz13_5 := Goto.bf BK281 5))
    go_ret
    exact ⟨Goto.er, by repeat (first | (with_reducible first | exact HB.out | apply below_alloc | apply pw_below_drewN | apply below_drew1 | refine below_set ?_ GE281.out) | exact HB.out)⟩
  ·
   rw [if_neg c5] at H
   have c5b0 : (a0_1 == 1) = false := beq_eq_false_iff_ne.mpr c5
   have c5b1 : (a0_1 != 1) = true := bne_iff_ne.mpr c5
   obtain rfl := Option.some.inj H
   go_enter Tryd.func20, Tryd.ntmps20
   go_wp2_with (first | ((with_reducible refine gate_dst (N := 1) rfl ?_); refine box_event ?hg (N := 1) ?hd (cs := #[.int .i64 a0_0, .int .i64 a0_1, .int .i64 a0_2, .int .i64 a0_3, .int .i64 a0_4, .int .i64 a0_5]) (t := 35) ?hr ?_; (case hd => rfl); (case hg => rfl); (case hr => first | (go_simp; done) | (go_simp; rfl)); intro gb281 hg w14 hbox hb; have BK281 := Goto.m0 (hbox); have GW281 := Goto.gs HB hg; have GE281 := Goto.gs HB hg; replace HB := Goto.hs HB hb; clear hb hbox hg; have hcz15_0 := Goto.bc0 BK281; have hcz15_1 := Goto.bc1 BK281; have hcz15_2 := Goto.bc2 BK281; have hcz15_3 := Goto.bc3 BK281; have hcz15_4 := Goto.bc4 BK281; have hcz15_5 := Goto.bc5 BK281; have hfz15_0 := Goto.bf BK281 0; have hfz15_1 := Goto.bf BK281 1; have hfz15_2 := Goto.bf BK281 2; have hfz15_3 := Goto.bf BK281 3; have hfz15_4 := Goto.bf BK281 4; have hfz15_5 := Goto.bf BK281 5))
   go_ret
   exact ⟨Goto.er, by repeat (first | (with_reducible first | exact HB.out | apply below_alloc | apply pw_below_drewN | apply below_drew1 | refine below_set ?_ GE281.out) | exact HB.out)⟩

/-! ### tontineref1_Join: function 22 -/
def tontineref1_Join.f (a0_0 : Int) (a0_1 : Int) (a1_0 : Int) (a1_1 : Int) : Option (Int × Int) := some (mx a0_0 a1_0, Go.bits .or .u64 a0_1 a1_1)
set_option maxHeartbeats 8000000 in
set_option maxRecDepth 100000 in
theorem tontineref1_Join.calls (a0_0 : Int) (a0_1 : Int) (a1_0 : Int) (a1_1 : Int) (r1 : Int) (r2 : Int) (w : World) (h : tontineref1_Join.f a0_0 a0_1 a1_0 a1_1 = some (r1, r2)) :
    Calls Tryd.prog 22 #[.agg #[.int .i64 a0_0, .int .u64 a0_1], .agg #[.int .i64 a1_0, .int .u64 a1_1]] w fun e w' => e = .returned (.agg #[.int .i64 r1, .int .u64 r2]) ∧ Below w.heap.size w w' := by
 have hu30 := Tryd.underlying30
 have HB := Goto.m0 (Below.refl w.heap.size w)
 have H : (some (mx a0_0 a1_0, Go.bits .or .u64 a0_1 a1_1)) = some (r1, r2) := h
 clear h
 obtain ⟨ji3, hji3⟩ : ∃ j_ : Int, (mx a0_0 a1_0) = j_ := ⟨_, rfl⟩
 replace H : (some (ji3, Go.bits .or .u64 a0_1 a1_1)) = some (r1, r2) := by first | (rw [hji3] at H; exact H) | (simp only [hji3] at H ⊢; exact H)
 have hji3_ : (if a0_0 < a1_0 then a1_0 else a0_0) = ji3 := hji3
 simp only [Option.some.injEq, Prod.mk.injEq] at H
 obtain ⟨rfl, rfl⟩ := H
 go_enter Tryd.func22, Tryd.ntmps22
 go_wp2_with (first | ((with_reducible refine gate_dst (N := 2) rfl ?_); refine box_event ?hg (N := 2) ?hd (cs := #[.int .i64 a0_0, .int .u64 a0_1]) (t := 30) ?hr ?_; (case hd => rfl); (case hg => rfl); (case hr => first | (go_simp; done) | (go_simp; rfl)); intro gb282 hg w4 hbox hb; have BK282 := Goto.m0 (hbox); have GW282 := Goto.gs HB hg; have GE282 := Goto.gs HB hg; replace HB := Goto.hs HB hb; clear hb hbox hg) | ((with_reducible refine gate_dst (N := 3) rfl ?_); refine box_event ?hg (N := 3) ?hd (cs := #[.int .i64 a1_0, .int .u64 a1_1]) (t := 30) ?hr ?_; (case hd => rfl); (case hg => rfl); (case hr => first | (go_simp; done) | (go_simp; rfl)); intro gb283 hg w5 hbox hb; have BK283 := Goto.m0 (hbox); have GW283 := Goto.gs HB hg; have GE283 := Goto.gs HB hg; have NB282_283 := Goto.nl BK282 hg; have NB283_282 := Goto.nr BK282 hg; replace BK282 := Goto.bb BK282 hb; replace HB := Goto.hs HB hb; clear hb hbox hg) | ((with_reducible refine gate_dst (N := 4) rfl ?_); refine box_event ?hg (N := 4) ?hd (cs := #[.int .i64 0, .int .u64 0]) (t := 30) ?hr ?_; (case hd => rfl); (case hg => rfl); (case hr => first | (go_simp; done) | (go_simp; rfl)); intro gb284 hg w6 hbox hb; have BK284 := Goto.m0 (hbox); have GW284 := Goto.gs HB hg; have GE284 := Goto.gs HB hg; have NB282_284 := Goto.nl BK282 hg; have NB284_282 := Goto.nr BK282 hg; have NB283_284 := Goto.nl BK283 hg; have NB284_283 := Goto.nr BK283 hg; replace BK282 := Goto.bb BK282 hb; replace BK283 := Goto.bb BK283 hb; replace HB := Goto.hs HB hb; clear hb hbox hg; have hnb7 := NB282_283.out; have hnc7 := NB283_282.out; have hnb8 := NB282_284.out; have hnc8 := NB284_282.out; have hcz9_0 := Goto.bc0 BK282; have hcz9_1 := Goto.bc1 BK282; have hfz9_0 := Goto.bf BK282 0; have hfz9_1 := Goto.bf BK282 1; have hnb10 := NB283_284.out; have hnc10 := NB284_283.out; have hcz11_0 := Goto.bc0 BK283; have hcz11_1 := Goto.bc1 BK283; have hfz11_0 := Goto.bf BK283 0; have hfz11_1 := Goto.bf BK283 1; have hcz12_0 := Goto.bc0 BK284; have hcz12_1 := Goto.bc1 BK284; have hfz12_0 := Goto.bf BK284 0; have hfz12_1 := Goto.bf BK284 1))
 refine bodyPost_ret (results_cell_row rfl _ _ gb284 30 #[.int .i64 ji3, .int .u64 (Go.bits .or .u64 a0_1 a1_1)] (0, 0) _ rfl (Goto.bx BK284) Tryd.underlying30 rfl (by kernel_rfl)) rfl ?_
 exact ⟨by first | rfl | (simp [errW_none, errW_some] <;> rfl) | (simp only [← hji3]; first | rfl | (simp [errW_none, errW_some] <;> rfl)) | (simp [*, errW_none, errW_some] <;> rfl), by repeat (first | (with_reducible first | exact HB.out | apply below_alloc | apply pw_below_drewN | apply below_drew1 | refine below_set ?_ GE282.out | refine below_set ?_ GE283.out | refine below_set ?_ GE284.out) | exact HB.out)⟩

end Go.Proofs.YtlmllmbbdlkknaaDoor.P
