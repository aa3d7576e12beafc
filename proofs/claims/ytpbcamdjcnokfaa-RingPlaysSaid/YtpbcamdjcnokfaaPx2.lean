/- Printed by a program of this workplace (a turned copy of the kit's optional print), out of the translation; not trusted: Lean checks it. -/
import Derived.Test.YtpbcamdjcnokfaaPx0
namespace Go.Proofs.Ytpbcamdjcnokfaa.P
open Go.RowKit Go.Proofs.YtpbcamdjcnokfaaW.PrintWords Go.Proofs.YtpbcamdjcnokfaaW.PrintLast Go.Proofs.YtpbcamdjcnokfaaW.PrintMore
attribute [local go_sem] max2_int min2_int max_two min_two max_three min_three max_four min_four   -- for this text's walks alone
set_option linter.unusedVariables false
set_option linter.unusedSimpArgs false

/-! ### ring_New: function 27 -/
def ring_New.f (a0 : Int) : Option ((List (S43)) × Int × Int) := some (([] : List (S43)), mn (mx a0 1) 16, 0)
set_option maxHeartbeats 8000000 in
set_option maxRecDepth 100000 in
theorem ring_New.calls (a0 : Int) (r1 : List (S43)) (r2 : Int) (r3 : Int) (w : World) (h : ring_New.f a0 = some (r1, r2, r3)) :
    Calls Try.prog 27 #[.int .i64 a0] w fun e w' => ∃ v0_ : Value, ∃ g_ : Nat, e = .returned (.pointer (some ⟨g_, 0, none⟩)) ∧ Kd.R k43 43 w' w.heap.size (fun _ => True) v0_ r1 ∧ w'.heap[g_]? = some (.cells #[v0_, .int .i64 r2, .int .i64 r3] 79 (0, 0)) ∧ w.heap.size ≤ g_ ∧ Below w.heap.size w w' := by
 have hu79 := Try.underlying79
 have HB := Goto.m0 (Below.refl w.heap.size w)
 have H : (some (([] : List (S43)), mn (mx a0 1) 16, 0)) = some (r1, r2, r3) := h
 clear h
 obtain ⟨ji2, hji2⟩ : ∃ j_ : Int, (mx a0 1) = j_ := ⟨_, rfl⟩
 replace H : (some (([] : List (S43)), mn (ji2) 16, 0)) = some (r1, r2, r3) := by first | (rw [hji2] at H; exact H) | (simp only [hji2] at H ⊢; exact H)
 (try (have hji2l : 1 ≤ ji2 := by (rw [← hji2]; unfold mx; (repeat' split) <;> omega)))
 (try (have hji2m : 0 ≤ ji2 := by omega))
 have hji2_ : (if a0 < 1 then 1 else a0) = ji2 := hji2
 obtain ⟨ji3, hji3⟩ : ∃ j_ : Int, (mn (ji2) 16) = j_ := ⟨_, rfl⟩
 (try rw [hji3] at hji2)
 (try rw [hji3] at hji2w)
 replace H : (some (([] : List (S43)), ji3, 0)) = some (r1, r2, r3) := by first | (rw [hji3] at H; exact H) | (simp only [hji3] at H ⊢; exact H)
 have hji3_ : (if 16 < (ji2) then 16 else (ji2)) = ji3 := hji3
 simp only [Option.some.injEq, Prod.mk.injEq] at H
 obtain ⟨rfl, rfl, rfl⟩ := H
 go_enter Try.func27, Try.ntmps27
 go_wp2_with (first | ((with_reducible refine gate_dst (N := 7) rfl ?_); refine box_event ?hg (N := 7) ?hd (cs := #[.slice none 0 0, .int .i64 ji3, .int .i64 0]) (t := 79) ?hr ?_; (case hd => rfl); (case hg => rfl); (case hr => first | (go_simp; done) | (go_simp; rfl)); intro gb101 hg w4 hbox hb; have BK101 := Goto.m0 (hbox); have GW101 := Goto.gs HB hg; have GE101 := Goto.gs HB hg; replace HB := Goto.hs HB hb; clear hb hbox hg))
 go_ret
 exact ⟨_, _, by first | rfl | (simp [errW_none, errW_some] <;> rfl) | (simp only [← hji2, ← hji3]; first | rfl | (simp [errW_none, errW_some] <;> rfl)) | (simp [*, errW_none, errW_some] <;> rfl), by first | exact Kd.R_nil _ _ _ _ _ | exact Kd.N_nil _ _ _ _ _ | exact Kd.V_nil _ _ _ _ _ | exact Kd.Q_nil _ _ _ _ _ | exact Kd.S_nil _ _ _ _ _, by (with_reducible repeat first | refine blk_drewN ?_ _ | refine blk_drew ?_ | refine blk_alloc ?_ _); exact BK101.out, GW101.out, by repeat (first | (with_reducible first | exact HB.out | apply below_alloc | apply pw_below_drewN | apply below_drew1 | refine below_set ?_ GE101.out) | exact HB.out)⟩

end Go.Proofs.Ytpbcamdjcnokfaa.P
