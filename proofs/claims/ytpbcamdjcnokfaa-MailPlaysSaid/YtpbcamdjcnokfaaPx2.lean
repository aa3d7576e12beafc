/- Printed by a program of this workplace (a turned copy of the kit's optional print), out of the translation; not trusted: Lean checks it. -/
import Derived.Test.YtpbcamdjcnokfaaPx0
namespace Go.Proofs.Ytpbcamdjcnokfaa.P
open Go.RowKit Go.Proofs.YtpbcamdjcnokfaaW.PrintWords Go.Proofs.YtpbcamdjcnokfaaW.PrintLast Go.Proofs.YtpbcamdjcnokfaaW.PrintMore
attribute [local go_sem] max2_int min2_int max_two min_two max_three min_three max_four min_four   -- for this text's walks alone
set_option linter.unusedVariables false
set_option linter.unusedSimpArgs false

/-! ### mail_New: function 38 -/
def mail_New.f (a0 : Int) : Option ((List (S63)) × Int) := some (([] : List (S63)), mn (mx a0 1) 8)
set_option maxHeartbeats 8000000 in
set_option maxRecDepth 100000 in
theorem mail_New.calls (a0 : Int) (r1 : List (S63)) (r2 : Int) (w : World) (h : mail_New.f a0 = some (r1, r2)) :
    Calls Try.prog 38 #[.int .i64 a0] w fun e w' => ∃ v0_ : Value, ∃ g_ : Nat, e = .returned (.pointer (some ⟨g_, 0, none⟩)) ∧ Kd.R k63 63 w' w.heap.size (fun _ => True) v0_ r1 ∧ w'.heap[g_]? = some (.cells #[v0_, .int .i64 r2] 83 (0, 0)) ∧ w.heap.size ≤ g_ ∧ Below w.heap.size w w' := by
 have hu83 := Try.underlying83
 have HB := Goto.m0 (Below.refl w.heap.size w)
 have H : (some (([] : List (S63)), mn (mx a0 1) 8)) = some (r1, r2) := h
 clear h
 obtain ⟨ji2, hji2⟩ : ∃ j_ : Int, (mx a0 1) = j_ := ⟨_, rfl⟩
 replace H : (some (([] : List (S63)), mn (ji2) 8)) = some (r1, r2) := by first | (rw [hji2] at H; exact H) | (simp only [hji2] at H ⊢; exact H)
 (try (have hji2l : 1 ≤ ji2 := by (rw [← hji2]; unfold mx; (repeat' split) <;> omega)))
 (try (have hji2m : 0 ≤ ji2 := by omega))
 have hji2_ : (if a0 < 1 then 1 else a0) = ji2 := hji2
 obtain ⟨ji3, hji3⟩ : ∃ j_ : Int, (mn (ji2) 8) = j_ := ⟨_, rfl⟩
 (try rw [hji3] at hji2)
 (try rw [hji3] at hji2w)
 replace H : (some (([] : List (S63)), ji3)) = some (r1, r2) := by first | (rw [hji3] at H; exact H) | (simp only [hji3] at H ⊢; exact H)
 have hji3_ : (if 8 < (ji2) then 8 else (ji2)) = ji3 := hji3
 simp only [Option.some.injEq, Prod.mk.injEq] at H
 obtain ⟨rfl, rfl⟩ := H
 go_enter Try.func38, Try.ntmps38
 go_wp2_with (first | ((with_reducible refine gate_dst (N := 7) rfl ?_); refine box_event ?hg (N := 7) ?hd (cs := #[.slice none 0 0, .int .i64 ji3]) (t := 83) ?hr ?_; (case hd => rfl); (case hg => rfl); (case hr => first | (go_simp; done) | (go_simp; rfl)); intro gb101 hg w4 hbox hb; have BK101 := Goto.m0 (hbox); have GW101 := Goto.gs HB hg; have GE101 := Goto.gs HB hg; replace HB := Goto.hs HB hb; clear hb hbox hg))
 go_ret
 exact ⟨_, _, by first | rfl | (simp [errW_none, errW_some] <;> rfl) | (simp only [← hji2, ← hji3]; first | rfl | (simp [errW_none, errW_some] <;> rfl)) | (simp [*, errW_none, errW_some] <;> rfl), by first | exact Kd.R_nil _ _ _ _ _ | exact Kd.N_nil _ _ _ _ _ | exact Kd.V_nil _ _ _ _ _ | exact Kd.Q_nil _ _ _ _ _ | exact Kd.S_nil _ _ _ _ _, by (with_reducible repeat first | refine blk_drewN ?_ _ | refine blk_drew ?_ | refine blk_alloc ?_ _); exact BK101.out, GW101.out, by repeat (first | (with_reducible first | exact HB.out | apply below_alloc | apply pw_below_drewN | apply below_drew1 | refine below_set ?_ GE101.out) | exact HB.out)⟩

/-! ### mail_Box_Waits: function 45 -/
def mail_Box_Waits.l0 : Nat → Int → Int → Int → List (S63) → Int → Option (Int × (List (S63)))
  | 0, _, _, _, _, _ => none
  | k + 1, x1, x5, x6, x1000, x1001 => if x6 = (x1000.length : Int) then (some (x5, x1000)) else (if 0 ≤ x6 then (if x6 < (x1000.length : Int) then (if ((rd_T63 x1000 x6).f0) = x1 then (mail_Box_Waits.l0 k x1 (wrap64 (x5 + 1)) (wrap64 (x6 + 1)) x1000 x1001) else (mail_Box_Waits.l0 k x1 x5 (wrap64 (x6 + 1)) x1000 x1001)) else (none)) else (none))
def mail_Box_Waits.f (k : Nat) (l0_0 : List (S63)) (a0_1 : Int) (a1 : Int) : Option (Int × (List (S63))) := mail_Box_Waits.l0 k a1 0 0 l0_0 a0_1
theorem mail_Box_Waits.mono_l : ∀ k, (∀ y0 y1 y2 y3 y4, LeO (mail_Box_Waits.l0 k y0 y1 y2 y3 y4) (mail_Box_Waits.l0 (k + 1) y0 y1 y2 y3 y4))
  | 0 => fun _ _ _ _ _ r h => by simp [mail_Box_Waits.l0] at h
  | k + 1 => by
    have ih0 := mail_Box_Waits.mono_l k
    · intro y0 y1 y2 y3 y4
      unfold mail_Box_Waits.l0
      repeat' first
      | (with_reducible exact ih0 _ _ _ _ _)
      | (with_reducible exact LeO.refl _)
      | (with_reducible exact LeO.none _)
      | (with_reducible refine LeO.ite ?_ ?_)
      | (with_reducible refine LeO.bind ?_ (fun _ => ?_))
      | exact ih0 _ _ _ _ _
      | exact LeO.none _
      | refine LeO.ite ?_ ?_
      | refine LeO.bind ?_ (fun _ => ?_)
theorem mail_Box_Waits.mono : ∀ a0 a1 a2 k, LeO (mail_Box_Waits.f k a0 a1 a2) (mail_Box_Waits.f (k + 1) a0 a1 a2) := by
 intro a0 a1 a2 k
 have ih0 := mail_Box_Waits.mono_l k
 unfold mail_Box_Waits.f
 repeat' first
   | (with_reducible exact ih0 _ _ _ _ _)
   | (with_reducible exact LeO.refl _)
   | (with_reducible exact LeO.none _)
   | (with_reducible refine LeO.ite ?_ ?_)
   | (with_reducible refine LeO.bind ?_ (fun _ => ?_))
   | exact ih0 _ _ _ _ _
   | exact LeO.none _
   | refine LeO.ite ?_ ?_
   | refine LeO.bind ?_ (fun _ => ?_)
set_option maxHeartbeats 8000000 in
set_option maxRecDepth 100000 in
theorem mail_Box_Waits.calls (k : Nat) (g : Nat) (P0_0_ : Nat → Prop) (u9000_ : Value) (l0_0 : List (S63)) (a0_1 : Int) (a1 : Int) (r1 : Int) (r2 : List (S63)) (w0 w : World) (hI : w.heap[g]? = some (.cells #[u9000_, .int .i64 a0_1] 83 (0, 0))) (hG : w0.heap.size ≤ g) (hB : Below w0.heap.size w0 w) (ho0_0 : Kd.R k63 63 w w0.heap.size P0_0_ u9000_ l0_0) (h : mail_Box_Waits.f k l0_0 a0_1 a1 = some (r1, r2)) :
    Calls Try.prog 45 #[.pointer (some ⟨g, 0, none⟩), .int .i64 a1] w fun e w' => e = .returned (.int .i64 r1) ∧ w'.heap[g]? = some (.cells #[u9000_, .int .i64 a0_1] 83 (0, 0)) ∧ Kd.R k63 63 w' w0.heap.size (fun k_ => (P0_0_ k_ ∨ w.heap.size ≤ k_)) u9000_ r2 ∧ Below w0.heap.size w0 w' ∧ Kept w w' (fun k_ => (P0_0_ k_) ∨ k_ = g) := by
 have HO0_0 := Goto.m0 (show Kd.R k63 63 w w0.heap.size (fun k_ => (P0_0_ k_ ∨ w.heap.size ≤ k_)) u9000_ l0_0 from Kd.R_mono ho0_0 (fun k_ hk => (.inl hk)))
 have BK0 := Goto.m0 hI
 have GE0 := Goto.m0 hG
 clear hI hG
 have HK := Goto.m0 (Kept.refl w (fun k_ => (P0_0_ k_) ∨ k_ = g))
 have HW0 := Goto.m0 hB.size
 have HB := Goto.m0 hB
 clear hB
 have H : (mail_Box_Waits.l0 k a1 0 0 l0_0 a0_1) = some (r1, r2) := h
 clear h
 have H' := Goto.m0 H
 clear H
 go_enter Try.func45, Try.ntmps45
 go_wp2_with (first | (with_reducible refine Goto.scope_enter ?_))
 rename_i K0_ hK0_
 refine Goto.label_ghost (l := 0) hK0_ (fun a0_ kq a_ w' => ∃ w4_ v5 v6 w7_ w8_ w9_ w10_ w11_ w12_ w13_ w14_ w15_ w16_ w17_ w18_ w19_ w20_ w21_ w22_ w23_ w24_ w25_ w26_ w27_ w28_ : Value, (∃ (x5_1 : Int) (x6_1 : Int), v5 = .int .i64 x5_1 ∧ v6 = .int .i64 x6_1 ∧ Aside0 (mail_Box_Waits.l0 kq a1 x5_1 x6_1 l0_0 a0_1 = some (r1, r2)) ∧ Aside0 (kq ≤ k) ∧ Aside0 (Kd.R k63 63 w' w0.heap.size (fun k_ => (P0_0_ k_ ∨ w.heap.size ≤ k_)) u9000_ l0_0) ∧ Aside0 (w'.heap[g]? = some (.cells #[u9000_, .int .i64 a0_1] 83 (0, 0))) ∧ Aside0 (Kept w w' (fun k_ => (P0_0_ k_) ∨ k_ = g)) ∧ Aside0 (Below w0.heap.size w0 w')) ∧ a_ = { tmps := #[Goto.slot a0_.tmps.toList 0, Goto.slot a0_.tmps.toList 1, Goto.slot a0_.tmps.toList 2, Goto.slot a0_.tmps.toList 3, w4_, v5, v6, w7_, w8_, w9_, w10_, w11_, w12_, w13_, w14_, w15_, w16_, w17_, w18_, w19_, w20_, w21_, w22_, w23_, w24_, w25_, w26_, w27_, w28_], defers := a0_.defers }) k ?hfl_ ?atStart ?round
 case hfl_ => rfl
 case atStart => ((repeat apply Exists.intro); refine ⟨?_, ?fr_⟩; (case fr_ => ((try simp only [Goto.slot_zero, Goto.slot_succ]); rfl)); exact ⟨(0), (0), (by first | rfl | (simp; done) | (simp [*]; done)), (by first | rfl | (simp; done) | (simp [*]; done)), H', ⟨Nat.le_refl _⟩, ⟨by (with_reducible repeat (first | apply Kd.R_alloc | apply Kd.R_drewN | apply Kd.R_drew)); exact HO0_0.out⟩, ⟨Goto.bx BK0⟩, ⟨by repeat (first | (with_reducible first | exact HK.out | apply Kept.alloc | apply Kept.drewN | apply Kept.drew | refine Kept.setCell ?_ (.inl (.inr rfl)) _) | exact HK.out)⟩, ⟨Goto.hx HB⟩⟩)
 case round =>
  clear hK0_ K0_
  clear H'
  try clear p2
  intro gk _ wr hinv_
  obtain ⟨w4_, v5, v6, w7_, w8_, w9_, w10_, w11_, w12_, w13_, w14_, w15_, w16_, w17_, w18_, w19_, w20_, w21_, w22_, w23_, w24_, w25_, w26_, w27_, w28_, hrel, ha_⟩ := hinv_
  subst ha_
  (try simp only [Goto.slot_zero, Goto.slot_succ])
  intro _ _ _ _
  obtain ⟨x5_1, x6_1, rfl, rfl, HA, HK1, HO_1000, BK0, HK, HB⟩ := hrel
  cases gk with
  | zero => exact absurd HA.out (by simp [mail_Box_Waits.l0])
  | succ k1 =>
   have H := HA.out; clear HA
   simp only [mail_Box_Waits.l0] at H
   by_cases c3 : x6_1 = (l0_0.length : Int)
   ·
    rw [if_pos c3] at H
    have c3b0 : (x6_1 == (l0_0.length : Int)) = true := beq_iff_eq.mpr c3
    have c3b1 : (x6_1 != (l0_0.length : Int)) = false := bne_eq_false_iff_eq.mpr c3
    clear c3
    simp only [Option.some.injEq, Prod.mk.injEq] at H
    obtain ⟨rfl, rfl⟩ := H
    have hcz4_0 : wr.cell? ⟨g, 0, none⟩ = some (u9000_) := (blk_cell BK0.out 0).trans rfl; have hcz4_1 : wr.cell? ⟨g, 1, none⟩ = some (.int .i64 a0_1) := (blk_cell BK0.out 1).trans rfl; have hfz4_0 := blk_frozen BK0.out 0; have hfz4_1 := blk_frozen BK0.out 1
    obtain ⟨Ao5, co5, eo5⟩ := Kd.R_slice HO_1000.out
    subst eo5
    go_wp2_with (first | (with_reducible refine Goto.scope_enter ?_))
    (try simp only [Exit.inBlock, Exit.then])
    (try refine Goto.ret_hit ?_)
    (try refine (fun {G : Nat → Act → World → Prop} {Q : Exit → Act → World → Prop} {a : Act} {w : World} (h : Q .normal a w) => (show Goto.Gotos G Q .normal a w from h)) ?_)
    go_ret
    (try simp only [← exists_and_left])
    exact ⟨by first | rfl | (simp [errW_none, errW_some] <;> rfl) | (simp [*, errW_none, errW_some] <;> rfl), by (with_reducible repeat first | refine blk_drewN ?_ _ | refine blk_drew ?_ | refine blk_alloc ?_ _); exact BK0.out, by (with_reducible repeat (first | apply Kd.R_alloc | apply Kd.R_drewN | apply Kd.R_drew)); exact HO_1000.out, by repeat (first | (with_reducible first | exact HB.out | apply below_alloc | apply pw_below_drewN | apply below_drew1 | refine below_set ?_ GE0.out) | exact HB.out), by repeat (first | (with_reducible first | exact HK.out | apply Kept.alloc | apply Kept.drewN | apply Kept.drew | refine Kept.setCell ?_ (.inl (.inr rfl)) _) | exact HK.out)⟩
   ·
    rw [if_neg c3] at H
    have c3b0 : (x6_1 == (l0_0.length : Int)) = false := beq_eq_false_iff_ne.mpr c3
    have c3b1 : (x6_1 != (l0_0.length : Int)) = true := bne_iff_ne.mpr c3
    by_cases c6 : 0 ≤ x6_1
    ·
     rw [if_pos c6] at H
     have c6b0 : decide (0 ≤ x6_1) = true := decide_eq_true c6
     clear c6
     by_cases c7 : x6_1 < (l0_0.length : Int)
     ·
      rw [if_pos c7] at H
      have c7b0 : decide (x6_1 < (l0_0.length : Int)) = true := decide_eq_true c7
      clear c7
      by_cases c8 : ((rd_T63 l0_0 x6_1).f0) = a1
      ·
       rw [if_pos c8] at H
       have c8b0 : (((rd_T63 l0_0 x6_1).f0) == a1) = true := beq_iff_eq.mpr c8
       have c8b1 : (((rd_T63 l0_0 x6_1).f0) != a1) = false := bne_eq_false_iff_eq.mpr c8
       clear c8
       have H' := Goto.m0 H
       clear H; have hcz9_0 : wr.cell? ⟨g, 0, none⟩ = some (u9000_) := (blk_cell BK0.out 0).trans rfl; have hcz9_1 : wr.cell? ⟨g, 1, none⟩ = some (.int .i64 a0_1) := (blk_cell BK0.out 1).trans rfl; have hfz9_0 := blk_frozen BK0.out 0; have hfz9_1 := blk_frozen BK0.out 1
       obtain ⟨Ao10, co10, eo10⟩ := Kd.R_slice HO_1000.out
       subst eo10
       have p102 : 0 ≤ (x6_1 : Int) := of_decide_eq_true (by first | (with_reducible assumption) | assumption)
       have q102 : x6_1 < (l0_0.length : Int) := of_decide_eq_true (by first | (with_reducible assumption) | assumption)
       obtain ⟨ad102, e102, hx102_0, hx102_1⟩ := at_T63 (Kd.R_reads' HO_1000.out).2.2 x6_1 p102 q102
       cases e102
       replace p102 := eq_true p102; replace q102 := eq_true q102
       go_wp2_with (first | (with_reducible refine Goto.scope_enter ?_))
       refine wp_goto ?_
       (try simp only [Exit.then, Exit.inBlock])
       refine Goto.jump_hit ?_
       go_step
       go_roundg k1
       case measure => have := HK1.out; omega
       case rel => exact ⟨(wrap64 (x5_1 + 1)), (wrap64 (x6_1 + 1)), (by first | rfl | (simp; done) | (simp [*]; done)), (by first | rfl | (simp; done) | (simp [*]; done)), H', ⟨by have := HK1.out; omega⟩, ⟨by (with_reducible repeat (first | apply Kd.R_alloc | apply Kd.R_drewN | apply Kd.R_drew)); exact HO_1000.out⟩, ⟨Goto.bx BK0⟩, ⟨by repeat (first | (with_reducible first | exact HK.out | apply Kept.alloc | apply Kept.drewN | apply Kept.drew | refine Kept.setCell ?_ (.inl (.inr rfl)) _) | exact HK.out)⟩, ⟨Goto.hx HB⟩⟩
      ·
       rw [if_neg c8] at H
       have c8b0 : (((rd_T63 l0_0 x6_1).f0) == a1) = false := beq_eq_false_iff_ne.mpr c8
       have c8b1 : (((rd_T63 l0_0 x6_1).f0) != a1) = true := bne_iff_ne.mpr c8
       have H' := Goto.m0 H
       clear H; have hcz11_0 : wr.cell? ⟨g, 0, none⟩ = some (u9000_) := (blk_cell BK0.out 0).trans rfl; have hcz11_1 : wr.cell? ⟨g, 1, none⟩ = some (.int .i64 a0_1) := (blk_cell BK0.out 1).trans rfl; have hfz11_0 := blk_frozen BK0.out 0; have hfz11_1 := blk_frozen BK0.out 1
       obtain ⟨Ao12, co12, eo12⟩ := Kd.R_slice HO_1000.out
       subst eo12
       have p102 : 0 ≤ (x6_1 : Int) := of_decide_eq_true (by first | (with_reducible assumption) | assumption)
       have q102 : x6_1 < (l0_0.length : Int) := of_decide_eq_true (by first | (with_reducible assumption) | assumption)
       obtain ⟨ad102, e102, hx102_0, hx102_1⟩ := at_T63 (Kd.R_reads' HO_1000.out).2.2 x6_1 p102 q102
       cases e102
       replace p102 := eq_true p102; replace q102 := eq_true q102
       go_wp2_with (first | (with_reducible refine Goto.scope_enter ?_))
       refine wp_goto ?_
       (try simp only [Exit.then, Exit.inBlock])
       refine Goto.jump_hit ?_
       go_step
       go_roundg k1
       case measure => have := HK1.out; omega
       case rel => exact ⟨(x5_1), (wrap64 (x6_1 + 1)), (by first | rfl | (simp; done) | (simp [*]; done)), (by first | rfl | (simp; done) | (simp [*]; done)), H', ⟨by have := HK1.out; omega⟩, ⟨by (with_reducible repeat (first | apply Kd.R_alloc | apply Kd.R_drewN | apply Kd.R_drew)); exact HO_1000.out⟩, ⟨Goto.bx BK0⟩, ⟨by repeat (first | (with_reducible first | exact HK.out | apply Kept.alloc | apply Kept.drewN | apply Kept.drew | refine Kept.setCell ?_ (.inl (.inr rfl)) _) | exact HK.out)⟩, ⟨Goto.hx HB⟩⟩
     ·
      rw [if_neg c7] at H
      exact absurd H (by simp)
    ·
     rw [if_neg c6] at H
     exact absurd H (by simp)

end Go.Proofs.Ytpbcamdjcnokfaa.P
