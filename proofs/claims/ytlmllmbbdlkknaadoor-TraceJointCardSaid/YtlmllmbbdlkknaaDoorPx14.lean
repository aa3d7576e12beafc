/- Printed by a program of this workplace (a turned copy of the kit's optional print), out of the translation; not trusted: Lean checks it. -/
import Derived.Test.YtlmllmbbdlkknaaDoorPx0
namespace Go.Proofs.YtlmllmbbdlkknaaDoor.P
open Go.RowKit Go.Proofs.YtlmllmbbdlkknaaDoorW.PrintWords Go.Proofs.YtlmllmbbdlkknaaDoorW.PrintLast Go.Proofs.YtlmllmbbdlkknaaDoorW.PrintMore
attribute [local go_sem] max2_int min2_int max_two min_two max_three min_three max_four min_four   -- for this text's walks alone
set_option linter.unusedVariables false
set_option linter.unusedSimpArgs false

/-! ### tontineref1_Meet: function 23 -/
def tontineref1_Meet.f (a0_0 : Int) (a0_1 : Int) (a1_0 : Int) (a1_1 : Int) : Option (Int × Int) := some (mn a0_0 a1_0, Go.bits .and .u64 a0_1 a1_1)
set_option maxHeartbeats 8000000 in
set_option maxRecDepth 100000 in
theorem tontineref1_Meet.calls (a0_0 : Int) (a0_1 : Int) (a1_0 : Int) (a1_1 : Int) (r1 : Int) (r2 : Int) (w : World) (h : tontineref1_Meet.f a0_0 a0_1 a1_0 a1_1 = some (r1, r2)) :
    Calls Tryd.prog 23 #[.agg #[.int .i64 a0_0, .int .u64 a0_1], .agg #[.int .i64 a1_0, .int .u64 a1_1]] w fun e w' => e = .returned (.agg #[.int .i64 r1, .int .u64 r2]) ∧ Below w.heap.size w w' := by
 have hu30 := Tryd.underlying30
 have HB := Goto.m0 (Below.refl w.heap.size w)
 have H : (some (mn a0_0 a1_0, Go.bits .and .u64 a0_1 a1_1)) = some (r1, r2) := h
 clear h
 obtain ⟨ji3, hji3⟩ : ∃ j_ : Int, (mn a0_0 a1_0) = j_ := ⟨_, rfl⟩
 replace H : (some (ji3, Go.bits .and .u64 a0_1 a1_1)) = some (r1, r2) := by first | (rw [hji3] at H; exact H) | (simp only [hji3] at H ⊢; exact H)
 have hji3_ : (if a1_0 < a0_0 then a1_0 else a0_0) = ji3 := hji3
 simp only [Option.some.injEq, Prod.mk.injEq] at H
 obtain ⟨rfl, rfl⟩ := H
 go_enter Tryd.func23, Tryd.ntmps23
 go_wp2_with (first | ((with_reducible refine gate_dst (N := 2) rfl ?_); refine box_event ?hg (N := 2) ?hd (cs := #[.int .i64 a0_0, .int .u64 a0_1]) (t := 30) ?hr ?_; (case hd => rfl); (case hg => rfl); (case hr => first | (go_simp; done) | (go_simp; rfl)); intro gb325 hg w4 hbox hb; have BK325 := Goto.m0 (hbox); have GW325 := Goto.gs HB hg; have GE325 := Goto.gs HB hg; replace HB := Goto.hs HB hb; clear hb hbox hg) | ((with_reducible refine gate_dst (N := 3) rfl ?_); refine box_event ?hg (N := 3) ?hd (cs := #[.int .i64 a1_0, .int .u64 a1_1]) (t := 30) ?hr ?_; (case hd => rfl); (case hg => rfl); (case hr => first | (go_simp; done) | (go_simp; rfl)); intro gb326 hg w5 hbox hb; have BK326 := Goto.m0 (hbox); have GW326 := Goto.gs HB hg; have GE326 := Goto.gs HB hg; have NB325_326 := Goto.nl BK325 hg; have NB326_325 := Goto.nr BK325 hg; replace BK325 := Goto.bb BK325 hb; replace HB := Goto.hs HB hb; clear hb hbox hg) | ((with_reducible refine gate_dst (N := 4) rfl ?_); refine box_event ?hg (N := 4) ?hd (cs := #[.int .i64 0, .int .u64 0]) (t := 30) ?hr ?_; (case hd => rfl); (case hg => rfl); (case hr => first | (go_simp; done) | (go_simp; rfl)); intro gb327 hg w6 hbox hb; have BK327 := Goto.m0 (hbox); have GW327 := Goto.gs HB hg; have GE327 := Goto.gs HB hg; have NB325_327 := Goto.nl BK325 hg; have NB327_325 := Goto.nr BK325 hg; have NB326_327 := Goto.nl BK326 hg; have NB327_326 := Goto.nr BK326 hg; replace BK325 := Goto.bb BK325 hb; replace BK326 := Goto.bb BK326 hb; replace HB := Goto.hs HB hb; clear hb hbox hg; have hnb7 := NB325_326.out; have hnc7 := NB326_325.out; have hnb8 := NB325_327.out; have hnc8 := NB327_325.out; have hcz9_0 := Goto.bc0 BK325; have hcz9_1 := Goto.bc1 BK325; have hfz9_0 := Goto.bf BK325 0; have hfz9_1 := Goto.bf BK325 1; have hnb10 := NB326_327.out; have hnc10 := NB327_326.out; have hcz11_0 := Goto.bc0 BK326; have hcz11_1 := Goto.bc1 BK326; have hfz11_0 := Goto.bf BK326 0; have hfz11_1 := Goto.bf BK326 1; have hcz12_0 := Goto.bc0 BK327; have hcz12_1 := Goto.bc1 BK327; have hfz12_0 := Goto.bf BK327 0; have hfz12_1 := Goto.bf BK327 1))
 refine bodyPost_ret (results_cell_row rfl _ _ gb327 30 #[.int .i64 ji3, .int .u64 (Go.bits .and .u64 a0_1 a1_1)] (0, 0) _ rfl (Goto.bx BK327) Tryd.underlying30 rfl (by kernel_rfl)) rfl ?_
 exact ⟨by first | rfl | (simp [errW_none, errW_some] <;> rfl) | (simp only [← hji3]; first | rfl | (simp [errW_none, errW_some] <;> rfl)) | (simp [*, errW_none, errW_some] <;> rfl), by repeat (first | (with_reducible first | exact HB.out | apply below_alloc | apply pw_below_drewN | apply below_drew1 | refine below_set ?_ GE325.out | refine below_set ?_ GE326.out | refine below_set ?_ GE327.out) | exact HB.out)⟩

end Go.Proofs.YtlmllmbbdlkknaaDoor.P
