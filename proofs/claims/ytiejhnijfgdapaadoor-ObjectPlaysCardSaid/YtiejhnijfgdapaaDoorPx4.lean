/- Printed by a program of this workplace (a turned copy of the kit's optional print), out of the translation; not trusted: Lean checks it. -/
import Derived.Test.YtiejhnijfgdapaaDoorPx0
import Derived.Test.YtiejhnijfgdapaaDoorPx1
namespace Go.Proofs.YtiejhnijfgdapaaDoor.P
open Go.RowKit Go.Proofs.YtiejhnijfgdapaaDoorW.PrintWords Go.Proofs.YtiejhnijfgdapaaDoorW.PrintLast Go.Proofs.YtiejhnijfgdapaaDoorW.PrintMore
attribute [local go_sem] max2_int min2_int max_two min_two max_three min_three max_four min_four   -- for this text's walks alone
set_option linter.unusedVariables false
set_option linter.unusedSimpArgs false

/-! ### object_Objects_Count: function 29 -/
def object_Objects_Count.f (a0_0 : Int) (l0_1 : List Int) (a0_2 : Int) (l0_3 : List Int) (a0_4 : Int) (l0_5 : List Int) (a0_6 : Int) (l0_7 : List Int) (a1 : Int) : Option (Int × Int × List Int × Int × List Int × Int × List Int × Int × List Int) := (object_is.f a1).bind fun t155 => (if t155 = true then (if 0 ≤ a1 then (if a1 < 4 then (if a1 = 0 then (some (a0_0, a0_0, l0_1, a0_2, l0_3, a0_4, l0_5, a0_6, l0_7)) else (if a1 = 1 then (some (a0_2, a0_0, l0_1, a0_2, l0_3, a0_4, l0_5, a0_6, l0_7)) else (if a1 = 2 then (some (a0_4, a0_0, l0_1, a0_2, l0_3, a0_4, l0_5, a0_6, l0_7)) else (if a1 = 3 then (some (a0_6, a0_0, l0_1, a0_2, l0_3, a0_4, l0_5, a0_6, l0_7)) else (none))))) else (none)) else (none)) else (some (0, a0_0, l0_1, a0_2, l0_3, a0_4, l0_5, a0_6, l0_7)))
set_option maxHeartbeats 8000000 in
set_option maxRecDepth 100000 in
theorem object_Objects_Count.calls (g : Nat) (a0_0 : Int) (P0_1_ : Nat → Prop) (u9000_ : Value) (l0_1 : List Int) (a0_2 : Int) (P0_3_ : Nat → Prop) (u9001_ : Value) (l0_3 : List Int) (a0_4 : Int) (P0_5_ : Nat → Prop) (u9002_ : Value) (l0_5 : List Int) (a0_6 : Int) (P0_7_ : Nat → Prop) (u9003_ : Value) (l0_7 : List Int) (a1 : Int) (r1 : Int) (r2 : Int) (r3 : List Int) (r4 : Int) (r5 : List Int) (r6 : Int) (r7 : List Int) (r8 : Int) (r9 : List Int) (w0 w : World) (hI : w.heap[g]? = some (.cells #[.int .i64 a0_0, u9000_, .int .i64 a0_2, u9001_, .int .i64 a0_4, u9002_, .int .i64 a0_6, u9003_] 86 (0, 0))) (hG : w0.heap.size ≤ g) (hB : Below w0.heap.size w0 w) (ho0_1 : Kd.R (Kd.int .i64) 3 w w0.heap.size P0_1_ u9000_ l0_1) (hp0_1_0_3 : ∀ k_, P0_1_ k_ → ¬ P0_3_ k_) (hp0_1_0_5 : ∀ k_, P0_1_ k_ → ¬ P0_5_ k_) (hp0_1_0_7 : ∀ k_, P0_1_ k_ → ¬ P0_7_ k_) (ho0_3 : Kd.R (Kd.int .i64) 3 w w0.heap.size P0_3_ u9001_ l0_3) (hp0_3_0_1 : ∀ k_, P0_3_ k_ → ¬ P0_1_ k_) (hp0_3_0_5 : ∀ k_, P0_3_ k_ → ¬ P0_5_ k_) (hp0_3_0_7 : ∀ k_, P0_3_ k_ → ¬ P0_7_ k_) (ho0_5 : Kd.R (Kd.int .i64) 3 w w0.heap.size P0_5_ u9002_ l0_5) (hp0_5_0_1 : ∀ k_, P0_5_ k_ → ¬ P0_1_ k_) (hp0_5_0_3 : ∀ k_, P0_5_ k_ → ¬ P0_3_ k_) (hp0_5_0_7 : ∀ k_, P0_5_ k_ → ¬ P0_7_ k_) (ho0_7 : Kd.R (Kd.int .i64) 3 w w0.heap.size P0_7_ u9003_ l0_7) (hp0_7_0_1 : ∀ k_, P0_7_ k_ → ¬ P0_1_ k_) (hp0_7_0_3 : ∀ k_, P0_7_ k_ → ¬ P0_3_ k_) (hp0_7_0_5 : ∀ k_, P0_7_ k_ → ¬ P0_5_ k_) (h : object_Objects_Count.f a0_0 l0_1 a0_2 l0_3 a0_4 l0_5 a0_6 l0_7 a1 = some (r1, r2, r3, r4, r5, r6, r7, r8, r9)) :
    Calls Tryd.prog 29 #[.pointer (some ⟨g, 0, none⟩), .int .i64 a1] w fun e w' => ∃ v2_ v4_ v6_ v8_ : Value, e = .returned (.int .i64 r1) ∧ Kd.R (Kd.int .i64) 3 w' w0.heap.size (fun k_ => ((P0_1_ k_ ∨ P0_3_ k_ ∨ P0_5_ k_ ∨ P0_7_ k_) ∨ w.heap.size ≤ k_) ∧ some k_ ≠ (v4_ : Value).ownBlock ∧ some k_ ≠ (v6_ : Value).ownBlock ∧ some k_ ≠ (v8_ : Value).ownBlock) v2_ r3 ∧ Kd.R (Kd.int .i64) 3 w' w0.heap.size (fun k_ => ((P0_1_ k_ ∨ P0_3_ k_ ∨ P0_5_ k_ ∨ P0_7_ k_) ∨ w.heap.size ≤ k_) ∧ some k_ ≠ (v2_ : Value).ownBlock ∧ some k_ ≠ (v6_ : Value).ownBlock ∧ some k_ ≠ (v8_ : Value).ownBlock) v4_ r5 ∧ Kd.R (Kd.int .i64) 3 w' w0.heap.size (fun k_ => ((P0_1_ k_ ∨ P0_3_ k_ ∨ P0_5_ k_ ∨ P0_7_ k_) ∨ w.heap.size ≤ k_) ∧ some k_ ≠ (v2_ : Value).ownBlock ∧ some k_ ≠ (v4_ : Value).ownBlock ∧ some k_ ≠ (v8_ : Value).ownBlock) v6_ r7 ∧ Kd.R (Kd.int .i64) 3 w' w0.heap.size (fun k_ => ((P0_1_ k_ ∨ P0_3_ k_ ∨ P0_5_ k_ ∨ P0_7_ k_) ∨ w.heap.size ≤ k_) ∧ some k_ ≠ (v2_ : Value).ownBlock ∧ some k_ ≠ (v4_ : Value).ownBlock ∧ some k_ ≠ (v6_ : Value).ownBlock) v8_ r9 ∧ w'.heap[g]? = some (.cells #[.int .i64 r2, v2_, .int .i64 r4, v4_, .int .i64 r6, v6_, .int .i64 r8, v8_] 86 (0, 0)) ∧ Below w0.heap.size w0 w' ∧ Kept w w' (fun k_ => (P0_1_ k_ ∨ P0_3_ k_ ∨ P0_5_ k_ ∨ P0_7_ k_) ∨ k_ = g) := by
 have HO0_1 := Goto.m0 (show Kd.R (Kd.int .i64) 3 w w0.heap.size (fun k_ => ((P0_1_ k_ ∨ P0_3_ k_ ∨ P0_5_ k_ ∨ P0_7_ k_) ∨ w.heap.size ≤ k_) ∧ some k_ ≠ (u9001_ : Value).ownBlock ∧ some k_ ≠ (u9002_ : Value).ownBlock ∧ some k_ ≠ (u9003_ : Value).ownBlock) u9000_ l0_1 from Kd.R_mono ho0_1 (fun k_ hk => ⟨(.inl (.inl hk)), fun e_ => hp0_1_0_3 k_ hk (ho0_3.1 k_ e_.symm), fun e_ => hp0_1_0_5 k_ hk (ho0_5.1 k_ e_.symm), fun e_ => hp0_1_0_7 k_ hk (ho0_7.1 k_ e_.symm)⟩))
 have HO0_3 := Goto.m0 (show Kd.R (Kd.int .i64) 3 w w0.heap.size (fun k_ => ((P0_1_ k_ ∨ P0_3_ k_ ∨ P0_5_ k_ ∨ P0_7_ k_) ∨ w.heap.size ≤ k_) ∧ some k_ ≠ (u9000_ : Value).ownBlock ∧ some k_ ≠ (u9002_ : Value).ownBlock ∧ some k_ ≠ (u9003_ : Value).ownBlock) u9001_ l0_3 from Kd.R_mono ho0_3 (fun k_ hk => ⟨(.inl (.inr (.inl hk))), fun e_ => hp0_3_0_1 k_ hk (ho0_1.1 k_ e_.symm), fun e_ => hp0_3_0_5 k_ hk (ho0_5.1 k_ e_.symm), fun e_ => hp0_3_0_7 k_ hk (ho0_7.1 k_ e_.symm)⟩))
 have HO0_5 := Goto.m0 (show Kd.R (Kd.int .i64) 3 w w0.heap.size (fun k_ => ((P0_1_ k_ ∨ P0_3_ k_ ∨ P0_5_ k_ ∨ P0_7_ k_) ∨ w.heap.size ≤ k_) ∧ some k_ ≠ (u9000_ : Value).ownBlock ∧ some k_ ≠ (u9001_ : Value).ownBlock ∧ some k_ ≠ (u9003_ : Value).ownBlock) u9002_ l0_5 from Kd.R_mono ho0_5 (fun k_ hk => ⟨(.inl (.inr (.inr (.inl hk)))), fun e_ => hp0_5_0_1 k_ hk (ho0_1.1 k_ e_.symm), fun e_ => hp0_5_0_3 k_ hk (ho0_3.1 k_ e_.symm), fun e_ => hp0_5_0_7 k_ hk (ho0_7.1 k_ e_.symm)⟩))
 have HO0_7 := Goto.m0 (show Kd.R (Kd.int .i64) 3 w w0.heap.size (fun k_ => ((P0_1_ k_ ∨ P0_3_ k_ ∨ P0_5_ k_ ∨ P0_7_ k_) ∨ w.heap.size ≤ k_) ∧ some k_ ≠ (u9000_ : Value).ownBlock ∧ some k_ ≠ (u9001_ : Value).ownBlock ∧ some k_ ≠ (u9002_ : Value).ownBlock) u9003_ l0_7 from Kd.R_mono ho0_7 (fun k_ hk => ⟨(.inl (.inr (.inr (.inr hk)))), fun e_ => hp0_7_0_1 k_ hk (ho0_1.1 k_ e_.symm), fun e_ => hp0_7_0_3 k_ hk (ho0_3.1 k_ e_.symm), fun e_ => hp0_7_0_5 k_ hk (ho0_5.1 k_ e_.symm)⟩))
 have BK0 := Goto.m0 hI
 have GE0 := Goto.m0 hG
 clear hI hG
 have HK := Goto.m0 (Kept.refl w (fun k_ => (P0_1_ k_ ∨ P0_3_ k_ ∨ P0_5_ k_ ∨ P0_7_ k_) ∨ k_ = g))
 have HW0 := Goto.m0 hB.size
 have HB := Goto.m0 hB
 clear hB
 have H : ((object_is.f a1).bind fun t155 => (if t155 = true then (if 0 ≤ a1 then (if a1 < 4 then (if a1 = 0 then (some (a0_0, a0_0, l0_1, a0_2, l0_3, a0_4, l0_5, a0_6, l0_7)) else (if a1 = 1 then (some (a0_2, a0_0, l0_1, a0_2, l0_3, a0_4, l0_5, a0_6, l0_7)) else (if a1 = 2 then (some (a0_4, a0_0, l0_1, a0_2, l0_3, a0_4, l0_5, a0_6, l0_7)) else (if a1 = 3 then (some (a0_6, a0_0, l0_1, a0_2, l0_3, a0_4, l0_5, a0_6, l0_7)) else (none))))) else (none)) else (none)) else (some (0, a0_0, l0_1, a0_2, l0_3, a0_4, l0_5, a0_6, l0_7)))) = some (r1, r2, r3, r4, r5, r6, r7, r8, r9) := h
 clear h
 replace H := Option.bind_eq_some_iff.mp H
 obtain ⟨t155, A30, H⟩ := H
 have A3 := Goto.m0 A30
 clear A30
 by_cases c4 : t155 = true
 ·
  subst c4
  rw [if_pos rfl] at H
  by_cases c5 : 0 ≤ a1
  ·
   rw [if_pos c5] at H
   have c5b0 : decide (0 ≤ a1) = true := decide_eq_true c5
   clear c5
   by_cases c6 : a1 < 4
   ·
    rw [if_pos c6] at H
    have c6b0 : decide (a1 < 4) = true := decide_eq_true c6
    clear c6
    by_cases c7 : a1 = 0
    ·
     rw [if_pos c7] at H
     have c7b0 : (a1 == 0) = true := beq_iff_eq.mpr c7
     have c7b1 : (a1 != 0) = false := bne_eq_false_iff_eq.mpr c7
     clear c7
     have hix8e : a1 = 0 := eq_of_beq (by first | (with_reducible assumption) | assumption)
     have hix8 : (a1).toNat = 0 := by rw [hix8e]; rfl
     have hix8c : (0 ≤ a1 ∧ a1 < (4 : Int)) = True := eq_true (by rw [hix8e]; decide)
     clear hix8e
     simp only [Option.some.injEq, Prod.mk.injEq] at H
     obtain ⟨rfl, rfl, rfl, rfl, rfl, rfl, rfl, rfl, rfl⟩ := H
     go_enter Tryd.func29, Tryd.ntmps29
     go_wp2_with (first | ((with_reducible refine gate_callee (f := 36) rfl ?_); refine goesL_ (some 6) rfl rfl Tryd.func36 (by kernel_rfl) rfl #[.int .i64 a1] rfl (by (try simp only [List.map_toArray, List.map_cons, List.map_nil]); first | done | rfl | (simp only [List.length_drop, List.length_take]; rfl)) ?_; (with_reducible refine (object_is.calls a1 true _ A3.out).mono ?_); rintro e w' ⟨rfl, ⟨nd, rfl⟩⟩; refine ⟨_, rfl, ?_⟩; have hcz9_0 := Goto.bc0 BK0; have hcz9_1 := Goto.bc1 BK0; have hcz9_2 := Goto.bc2 BK0; have hcz9_3 := Goto.bc3 BK0; have hcz9_4 := Goto.bc4 BK0; have hcz9_5 := Goto.bc5 BK0; have hcz9_6 := Goto.bc6 BK0; have hcz9_7 := Goto.bc7 BK0; have hfz9_0 := Goto.bf BK0 0; have hfz9_1 := Goto.bf BK0 1; have hfz9_2 := Goto.bf BK0 2; have hfz9_3 := Goto.bf BK0 3; have hfz9_4 := Goto.bf BK0 4; have hfz9_5 := Goto.bf BK0 5; have hfz9_6 := Goto.bf BK0 6; have hfz9_7 := Goto.bf BK0 7))
     go_ret
     (try simp only [← exists_and_left])
     exact ⟨_, _, _, _, Goto.er, Goto.rk HO0_1, Goto.rk HO0_3, Goto.rk HO0_5, Goto.rk HO0_7, by (with_reducible repeat first | refine blk_drewN ?_ _ | refine blk_drew ?_ | refine blk_alloc ?_ _); exact BK0.out, by repeat (first | (with_reducible first | exact HB.out | apply below_alloc | apply pw_below_drewN | apply below_drew1 | refine below_set ?_ GE0.out) | exact HB.out), by repeat (first | (with_reducible first | exact HK.out | apply Kept.alloc | apply Kept.drewN | apply Kept.drew | refine Kept.setCell ?_ (.inl (.inr rfl)) _) | exact HK.out)⟩
    ·
     rw [if_neg c7] at H
     have c7b0 : (a1 == 0) = false := beq_eq_false_iff_ne.mpr c7
     have c7b1 : (a1 != 0) = true := bne_iff_ne.mpr c7
     by_cases c10 : a1 = 1
     ·
      rw [if_pos c10] at H
      have c10b0 : (a1 == 1) = true := beq_iff_eq.mpr c10
      have c10b1 : (a1 != 1) = false := bne_eq_false_iff_eq.mpr c10
      clear c10
      have hix11e : a1 = 1 := eq_of_beq (by first | (with_reducible assumption) | assumption)
      have hix11 : (a1).toNat = 1 := by rw [hix11e]; rfl
      have hix11c : (0 ≤ a1 ∧ a1 < (4 : Int)) = True := eq_true (by rw [hix11e]; decide)
      clear hix11e
      simp only [Option.some.injEq, Prod.mk.injEq] at H
      obtain ⟨rfl, rfl, rfl, rfl, rfl, rfl, rfl, rfl, rfl⟩ := H
      go_enter Tryd.func29, Tryd.ntmps29
      go_wp2_with (first | ((with_reducible refine gate_callee (f := 36) rfl ?_); refine goesL_ (some 6) rfl rfl Tryd.func36 (by kernel_rfl) rfl #[.int .i64 a1] rfl (by (try simp only [List.map_toArray, List.map_cons, List.map_nil]); first | done | rfl | (simp only [List.length_drop, List.length_take]; rfl)) ?_; (with_reducible refine (object_is.calls a1 true _ A3.out).mono ?_); rintro e w' ⟨rfl, ⟨nd, rfl⟩⟩; refine ⟨_, rfl, ?_⟩; have hcz12_0 := Goto.bc0 BK0; have hcz12_1 := Goto.bc1 BK0; have hcz12_2 := Goto.bc2 BK0; have hcz12_3 := Goto.bc3 BK0; have hcz12_4 := Goto.bc4 BK0; have hcz12_5 := Goto.bc5 BK0; have hcz12_6 := Goto.bc6 BK0; have hcz12_7 := Goto.bc7 BK0; have hfz12_0 := Goto.bf BK0 0; have hfz12_1 := Goto.bf BK0 1; have hfz12_2 := Goto.bf BK0 2; have hfz12_3 := Goto.bf BK0 3; have hfz12_4 := Goto.bf BK0 4; have hfz12_5 := Goto.bf BK0 5; have hfz12_6 := Goto.bf BK0 6; have hfz12_7 := Goto.bf BK0 7))
      go_ret
      (try simp only [← exists_and_left])
      exact ⟨_, _, _, _, Goto.er, Goto.rk HO0_1, Goto.rk HO0_3, Goto.rk HO0_5, Goto.rk HO0_7, by (with_reducible repeat first | refine blk_drewN ?_ _ | refine blk_drew ?_ | refine blk_alloc ?_ _); exact BK0.out, by repeat (first | (with_reducible first | exact HB.out | apply below_alloc | apply pw_below_drewN | apply below_drew1 | refine below_set ?_ GE0.out) | exact HB.out), by repeat (first | (with_reducible first | exact HK.out | apply Kept.alloc | apply Kept.drewN | apply Kept.drew | refine Kept.setCell ?_ (.inl (.inr rfl)) _) | exact HK.out)⟩
     ·
      rw [if_neg c10] at H
      have c10b0 : (a1 == 1) = false := beq_eq_false_iff_ne.mpr c10
      have c10b1 : (a1 != 1) = true := bne_iff_ne.mpr c10
      by_cases c13 : a1 = 2
      ·
       rw [if_pos c13] at H
       have c13b0 : (a1 == 2) = true := beq_iff_eq.mpr c13
       have c13b1 : (a1 != 2) = false := bne_eq_false_iff_eq.mpr c13
       clear c13
       have hix14e : a1 = 2 := eq_of_beq (by first | (with_reducible assumption) | assumption)
       have hix14 : (a1).toNat = 2 := by rw [hix14e]; rfl
       have hix14c : (0 ≤ a1 ∧ a1 < (4 : Int)) = True := eq_true (by rw [hix14e]; decide)
       clear hix14e
       simp only [Option.some.injEq, Prod.mk.injEq] at H
       obtain ⟨rfl, rfl, rfl, rfl, rfl, rfl, rfl, rfl, rfl⟩ := H
       go_enter Tryd.func29, Tryd.ntmps29
       go_wp2_with (first | ((with_reducible refine gate_callee (f := 36) rfl ?_); refine goesL_ (some 6) rfl rfl Tryd.func36 (by kernel_rfl) rfl #[.int .i64 a1] rfl (by (try simp only [List.map_toArray, List.map_cons, List.map_nil]); first | done | rfl | (simp only [List.length_drop, List.length_take]; rfl)) ?_; (with_reducible refine (object_is.calls a1 true _ A3.out).mono ?_); rintro e w' ⟨rfl, ⟨nd, rfl⟩⟩; refine ⟨_, rfl, ?_⟩; have hcz15_0 := Goto.bc0 BK0; have hcz15_1 := Goto.bc1 BK0; have hcz15_2 := Goto.bc2 BK0; have hcz15_3 := Goto.bc3 BK0; have hcz15_4 := Goto.bc4 BK0; have hcz15_5 := Goto.bc5 BK0; have hcz15_6 := Goto.bc6 BK0; have hcz15_7 := Goto.bc7 BK0; have hfz15_0 := Goto.bf BK0 0; have hfz15_1 := Goto.bf BK0 1; have hfz15_2 := Goto.bf BK0 2; have hfz15_3 := Goto.bf BK0 3; have hfz15_4 := Goto.bf BK0 4; have hfz15_5 := Goto.bf BK0 5; have hfz15_6 := Goto.bf BK0 6; have hfz15_7 := Goto.bf BK0 7))
       go_ret
       (try simp only [← exists_and_left])
       exact ⟨_, _, _, _, Goto.er, Goto.rk HO0_1, Goto.rk HO0_3, Goto.rk HO0_5, Goto.rk HO0_7, by (with_reducible repeat first | refine blk_drewN ?_ _ | refine blk_drew ?_ | refine blk_alloc ?_ _); exact BK0.out, by repeat (first | (with_reducible first | exact HB.out | apply below_alloc | apply pw_below_drewN | apply below_drew1 | refine below_set ?_ GE0.out) | exact HB.out), by repeat (first | (with_reducible first | exact HK.out | apply Kept.alloc | apply Kept.drewN | apply Kept.drew | refine Kept.setCell ?_ (.inl (.inr rfl)) _) | exact HK.out)⟩
      ·
       rw [if_neg c13] at H
       have c13b0 : (a1 == 2) = false := beq_eq_false_iff_ne.mpr c13
       have c13b1 : (a1 != 2) = true := bne_iff_ne.mpr c13
       by_cases c16 : a1 = 3
       ·
        rw [if_pos c16] at H
        have c16b0 : (a1 == 3) = true := beq_iff_eq.mpr c16
        have c16b1 : (a1 != 3) = false := bne_eq_false_iff_eq.mpr c16
        clear c16
        have hix17e : a1 = 3 := eq_of_beq (by first | (with_reducible assumption) | assumption)
        have hix17 : (a1).toNat = 3 := by rw [hix17e]; rfl
        have hix17c : (0 ≤ a1 ∧ a1 < (4 : Int)) = True := eq_true (by rw [hix17e]; decide)
        clear hix17e
        simp only [Option.some.injEq, Prod.mk.injEq] at H
        obtain ⟨rfl, rfl, rfl, rfl, rfl, rfl, rfl, rfl, rfl⟩ := H
        go_enter Tryd.func29, Tryd.ntmps29
        go_wp2_with (first | ((with_reducible refine gate_callee (f := 36) rfl ?_); refine goesL_ (some 6) rfl rfl Tryd.func36 (by kernel_rfl) rfl #[.int .i64 a1] rfl (by (try simp only [List.map_toArray, List.map_cons, List.map_nil]); first | done | rfl | (simp only [List.length_drop, List.length_take]; rfl)) ?_; (with_reducible refine (object_is.calls a1 true _ A3.out).mono ?_); rintro e w' ⟨rfl, ⟨nd, rfl⟩⟩; refine ⟨_, rfl, ?_⟩; have hcz18_0 := Goto.bc0 BK0; have hcz18_1 := Goto.bc1 BK0; have hcz18_2 := Goto.bc2 BK0; have hcz18_3 := Goto.bc3 BK0; have hcz18_4 := Goto.bc4 BK0; have hcz18_5 := Goto.bc5 BK0; have hcz18_6 := Goto.bc6 BK0; have hcz18_7 := Goto.bc7 BK0; have hfz18_0 := Goto.bf BK0 0; have hfz18_1 := Goto.bf BK0 1; have hfz18_2 := Goto.bf BK0 2; have hfz18_3 := Goto.bf BK0 3; have hfz18_4 := Goto.bf BK0 4; have hfz18_5 := Goto.bf BK0 5; have hfz18_6 := Goto.bf BK0 6; have hfz18_7 := Goto.bf BK0 7))
        go_ret
        (try simp only [← exists_and_left])
        exact ⟨_, _, _, _, Goto.er, Goto.rk HO0_1, Goto.rk HO0_3, Goto.rk HO0_5, Goto.rk HO0_7, by (with_reducible repeat first | refine blk_drewN ?_ _ | refine blk_drew ?_ | refine blk_alloc ?_ _); exact BK0.out, by repeat (first | (with_reducible first | exact HB.out | apply below_alloc | apply pw_below_drewN | apply below_drew1 | refine below_set ?_ GE0.out) | exact HB.out), by repeat (first | (with_reducible first | exact HK.out | apply Kept.alloc | apply Kept.drewN | apply Kept.drew | refine Kept.setCell ?_ (.inl (.inr rfl)) _) | exact HK.out)⟩
       ·
        rw [if_neg c16] at H
        exact absurd H (by simp)
   ·
    rw [if_neg c6] at H
    exact absurd H (by simp)
  ·
   rw [if_neg c5] at H
   exact absurd H (by simp)
 ·
  replace c4 := Bool.eq_false_iff.mpr c4
  subst c4
  rw [if_neg (show ¬ (false = true) by decide)] at H
  simp only [Option.some.injEq, Prod.mk.injEq] at H
  obtain ⟨rfl, rfl, rfl, rfl, rfl, rfl, rfl, rfl, rfl⟩ := H
  go_enter Tryd.func29, Tryd.ntmps29
  go_wp2_with (first | ((with_reducible refine gate_callee (f := 36) rfl ?_); refine goesL_ (some 6) rfl rfl Tryd.func36 (by kernel_rfl) rfl #[.int .i64 a1] rfl (by (try simp only [List.map_toArray, List.map_cons, List.map_nil]); first | done | rfl | (simp only [List.length_drop, List.length_take]; rfl)) ?_; (with_reducible refine (object_is.calls a1 false _ A3.out).mono ?_); rintro e w' ⟨rfl, ⟨nd, rfl⟩⟩; refine ⟨_, rfl, ?_⟩))
  go_ret
  (try simp only [← exists_and_left])
  exact ⟨_, _, _, _, Goto.er, Goto.rk HO0_1, Goto.rk HO0_3, Goto.rk HO0_5, Goto.rk HO0_7, by (with_reducible repeat first | refine blk_drewN ?_ _ | refine blk_drew ?_ | refine blk_alloc ?_ _); exact BK0.out, by repeat (first | (with_reducible first | exact HB.out | apply below_alloc | apply pw_below_drewN | apply below_drew1 | refine below_set ?_ GE0.out) | exact HB.out), by repeat (first | (with_reducible first | exact HK.out | apply Kept.alloc | apply Kept.drewN | apply Kept.drew | refine Kept.setCell ?_ (.inl (.inr rfl)) _) | exact HK.out)⟩

end Go.Proofs.YtiejhnijfgdapaaDoor.P
