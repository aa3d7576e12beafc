/- Printed by a program of this workplace (a turned copy of the kit's optional print), out of the translation; not trusted: Lean checks it. -/
import Derived.Test.YtiejhnijfgdapaaDoorPx0
import Derived.Test.YtiejhnijfgdapaaDoorPx1
import Derived.Test.YtiejhnijfgdapaaDoorExt
namespace Go.Proofs.YtiejhnijfgdapaaDoor.P
open Go.RowKit Go.Proofs.YtiejhnijfgdapaaDoorW.PrintWords Go.Proofs.YtiejhnijfgdapaaDoorW.PrintLast Go.Proofs.YtiejhnijfgdapaaDoorW.PrintMore
attribute [local go_sem] max2_int min2_int max_two min_two max_three min_three max_four min_four   -- for this text's walks alone
set_option linter.unusedVariables false
set_option linter.unusedSimpArgs false

/-! ### object_Objects_Row: function 30 -/
def object_Objects_Row.f (a0_0 : Int) (l0_1 : List Int) (a0_2 : Int) (l0_3 : List Int) (a0_4 : Int) (l0_5 : List Int) (a0_6 : Int) (l0_7 : List Int) (a1 : Int) : Option (List Int × Int × List Int × Int × List Int × Int × List Int × Int × List Int) := (object_is.f a1).bind fun t156 => (if t156 = true then (if 0 ≤ a1 then (if a1 < 4 then (if a1 = 0 then ((ext_43.f l0_1).bind fun t157 => (some (t157, a0_0, l0_1, a0_2, l0_3, a0_4, l0_5, a0_6, l0_7))) else (if a1 = 1 then ((ext_43.f l0_3).bind fun t160 => (some (t160, a0_0, l0_1, a0_2, l0_3, a0_4, l0_5, a0_6, l0_7))) else (if a1 = 2 then ((ext_43.f l0_5).bind fun t163 => (some (t163, a0_0, l0_1, a0_2, l0_3, a0_4, l0_5, a0_6, l0_7))) else (if a1 = 3 then ((ext_43.f l0_7).bind fun t166 => (some (t166, a0_0, l0_1, a0_2, l0_3, a0_4, l0_5, a0_6, l0_7))) else (none))))) else (none)) else (none)) else (some (([] : List Int), a0_0, l0_1, a0_2, l0_3, a0_4, l0_5, a0_6, l0_7)))
set_option maxHeartbeats 8000000 in
set_option maxRecDepth 100000 in
theorem object_Objects_Row.calls (g : Nat) (a0_0 : Int) (P0_1_ : Nat → Prop) (u9000_ : Value) (l0_1 : List Int) (a0_2 : Int) (P0_3_ : Nat → Prop) (u9001_ : Value) (l0_3 : List Int) (a0_4 : Int) (P0_5_ : Nat → Prop) (u9002_ : Value) (l0_5 : List Int) (a0_6 : Int) (P0_7_ : Nat → Prop) (u9003_ : Value) (l0_7 : List Int) (a1 : Int) (r1 : List Int) (r2 : Int) (r3 : List Int) (r4 : Int) (r5 : List Int) (r6 : Int) (r7 : List Int) (r8 : Int) (r9 : List Int) (w0 w : World) (hI : w.heap[g]? = some (.cells #[.int .i64 a0_0, u9000_, .int .i64 a0_2, u9001_, .int .i64 a0_4, u9002_, .int .i64 a0_6, u9003_] 86 (0, 0))) (hG : w0.heap.size ≤ g) (hB : Below w0.heap.size w0 w) (ho0_1 : Kd.R (Kd.int .i64) 3 w w0.heap.size P0_1_ u9000_ l0_1) (hp0_1_0_3 : ∀ k_, P0_1_ k_ → ¬ P0_3_ k_) (hp0_1_0_5 : ∀ k_, P0_1_ k_ → ¬ P0_5_ k_) (hp0_1_0_7 : ∀ k_, P0_1_ k_ → ¬ P0_7_ k_) (ho0_3 : Kd.R (Kd.int .i64) 3 w w0.heap.size P0_3_ u9001_ l0_3) (hp0_3_0_1 : ∀ k_, P0_3_ k_ → ¬ P0_1_ k_) (hp0_3_0_5 : ∀ k_, P0_3_ k_ → ¬ P0_5_ k_) (hp0_3_0_7 : ∀ k_, P0_3_ k_ → ¬ P0_7_ k_) (ho0_5 : Kd.R (Kd.int .i64) 3 w w0.heap.size P0_5_ u9002_ l0_5) (hp0_5_0_1 : ∀ k_, P0_5_ k_ → ¬ P0_1_ k_) (hp0_5_0_3 : ∀ k_, P0_5_ k_ → ¬ P0_3_ k_) (hp0_5_0_7 : ∀ k_, P0_5_ k_ → ¬ P0_7_ k_) (ho0_7 : Kd.R (Kd.int .i64) 3 w w0.heap.size P0_7_ u9003_ l0_7) (hp0_7_0_1 : ∀ k_, P0_7_ k_ → ¬ P0_1_ k_) (hp0_7_0_3 : ∀ k_, P0_7_ k_ → ¬ P0_3_ k_) (hp0_7_0_5 : ∀ k_, P0_7_ k_ → ¬ P0_5_ k_) (h : object_Objects_Row.f a0_0 l0_1 a0_2 l0_3 a0_4 l0_5 a0_6 l0_7 a1 = some (r1, r2, r3, r4, r5, r6, r7, r8, r9)) :
    Calls Tryd.prog 30 #[.pointer (some ⟨g, 0, none⟩), .int .i64 a1] w fun e w' => ∃ v0_ v2_ v4_ v6_ v8_ : Value, e = .returned (v0_) ∧ Kd.R (Kd.int .i64) 3 w' w0.heap.size (fun k_ => ((P0_1_ k_ ∨ P0_3_ k_ ∨ P0_5_ k_ ∨ P0_7_ k_) ∨ w.heap.size ≤ k_) ∧ some k_ ≠ (v2_ : Value).ownBlock ∧ some k_ ≠ (v4_ : Value).ownBlock ∧ some k_ ≠ (v6_ : Value).ownBlock ∧ some k_ ≠ (v8_ : Value).ownBlock) v0_ r1 ∧ Kd.R (Kd.int .i64) 3 w' w0.heap.size (fun k_ => ((P0_1_ k_ ∨ P0_3_ k_ ∨ P0_5_ k_ ∨ P0_7_ k_) ∨ w.heap.size ≤ k_) ∧ some k_ ≠ (v0_ : Value).ownBlock ∧ some k_ ≠ (v4_ : Value).ownBlock ∧ some k_ ≠ (v6_ : Value).ownBlock ∧ some k_ ≠ (v8_ : Value).ownBlock) v2_ r3 ∧ Kd.R (Kd.int .i64) 3 w' w0.heap.size (fun k_ => ((P0_1_ k_ ∨ P0_3_ k_ ∨ P0_5_ k_ ∨ P0_7_ k_) ∨ w.heap.size ≤ k_) ∧ some k_ ≠ (v0_ : Value).ownBlock ∧ some k_ ≠ (v2_ : Value).ownBlock ∧ some k_ ≠ (v6_ : Value).ownBlock ∧ some k_ ≠ (v8_ : Value).ownBlock) v4_ r5 ∧ Kd.R (Kd.int .i64) 3 w' w0.heap.size (fun k_ => ((P0_1_ k_ ∨ P0_3_ k_ ∨ P0_5_ k_ ∨ P0_7_ k_) ∨ w.heap.size ≤ k_) ∧ some k_ ≠ (v0_ : Value).ownBlock ∧ some k_ ≠ (v2_ : Value).ownBlock ∧ some k_ ≠ (v4_ : Value).ownBlock ∧ some k_ ≠ (v8_ : Value).ownBlock) v6_ r7 ∧ Kd.R (Kd.int .i64) 3 w' w0.heap.size (fun k_ => ((P0_1_ k_ ∨ P0_3_ k_ ∨ P0_5_ k_ ∨ P0_7_ k_) ∨ w.heap.size ≤ k_) ∧ some k_ ≠ (v0_ : Value).ownBlock ∧ some k_ ≠ (v2_ : Value).ownBlock ∧ some k_ ≠ (v4_ : Value).ownBlock ∧ some k_ ≠ (v6_ : Value).ownBlock) v8_ r9 ∧ w'.heap[g]? = some (.cells #[.int .i64 r2, v2_, .int .i64 r4, v4_, .int .i64 r6, v6_, .int .i64 r8, v8_] 86 (0, 0)) ∧ Below w0.heap.size w0 w' ∧ Kept w w' (fun k_ => (P0_1_ k_ ∨ P0_3_ k_ ∨ P0_5_ k_ ∨ P0_7_ k_) ∨ k_ = g) := by
 have HO0_1 := Goto.m0 (show Kd.R (Kd.int .i64) 3 w w0.heap.size (fun k_ => ((P0_1_ k_ ∨ P0_3_ k_ ∨ P0_5_ k_ ∨ P0_7_ k_) ∨ w.heap.size ≤ k_) ∧ some k_ ≠ (u9001_ : Value).ownBlock ∧ some k_ ≠ (u9002_ : Value).ownBlock ∧ some k_ ≠ (u9003_ : Value).ownBlock) u9000_ l0_1 from Kd.R_mono ho0_1 (fun k_ hk => ⟨(.inl (.inl hk)), fun e_ => hp0_1_0_3 k_ hk (ho0_3.1 k_ e_.symm), fun e_ => hp0_1_0_5 k_ hk (ho0_5.1 k_ e_.symm), fun e_ => hp0_1_0_7 k_ hk (ho0_7.1 k_ e_.symm)⟩))
 have HO0_3 := Goto.m0 (show Kd.R (Kd.int .i64) 3 w w0.heap.size (fun k_ => ((P0_1_ k_ ∨ P0_3_ k_ ∨ P0_5_ k_ ∨ P0_7_ k_) ∨ w.heap.size ≤ k_) ∧ some k_ ≠ (u9000_ : Value).ownBlock ∧ some k_ ≠ (u9002_ : Value).ownBlock ∧ some k_ ≠ (u9003_ : Value).ownBlock) u9001_ l0_3 from Kd.R_mono ho0_3 (fun k_ hk => ⟨(.inl (.inr (.inl hk))), fun e_ => hp0_3_0_1 k_ hk (ho0_1.1 k_ e_.symm), fun e_ => hp0_3_0_5 k_ hk (ho0_5.1 k_ e_.symm), fun e_ => hp0_3_0_7 k_ hk (ho0_7.1 k_ e_.symm)⟩))
 have HO0_5 := Goto.m0 (show Kd.R (Kd.int .i64) 3 w w0.heap.size (fun k_ => ((P0_1_ k_ ∨ P0_3_ k_ ∨ P0_5_ k_ ∨ P0_7_ k_) ∨ w.heap.size ≤ k_) ∧ some k_ ≠ (u9000_ : Value).ownBlock ∧ some k_ ≠ (u9001_ : Value).ownBlock ∧ some k_ ≠ (u9003_ : Value).ownBlock) u9002_ l0_5 from Kd.R_mono ho0_5 (fun k_ hk => ⟨(.inl (.inr (.inr (.inl hk)))), fun e_ => hp0_5_0_1 k_ hk (ho0_1.1 k_ e_.symm), fun e_ => hp0_5_0_3 k_ hk (ho0_3.1 k_ e_.symm), fun e_ => hp0_5_0_7 k_ hk (ho0_7.1 k_ e_.symm)⟩))
 have HO0_7 := Goto.m0 (show Kd.R (Kd.int .i64) 3 w w0.heap.size (fun k_ => ((P0_1_ k_ ∨ P0_3_ k_ ∨ P0_5_ k_ ∨ P0_7_ k_) ∨ w.heap.size ≤ k_) ∧ some k_ ≠ (u9000_ : Value).ownBlock ∧ some k_ ≠ (u9001_ : Value).ownBlock ∧ some k_ ≠ (u9002_ : Value).ownBlock) u9003_ l0_7 from Kd.R_mono ho0_7 (fun k_ hk => ⟨(.inl (.inr (.inr (.inr hk)))), fun e_ => hp0_7_0_1 k_ hk (ho0_1.1 k_ e_.symm), fun e_ => hp0_7_0_3 k_ hk (ho0_3.1 k_ e_.symm), fun e_ => hp0_7_0_5 k_ hk (ho0_5.1 k_ e_.symm)⟩))
 have BK0 := Goto.m0 hI
 have GE0 := Goto.m0 hG
 clear hI hG
 have HK := Goto.m0 (Kept.refl w (fun k_ => (P0_1_ k_ ∨ P0_3_ k_ ∨ P0_5_ k_ ∨ P0_7_ k_) ∨ k_ = g))
 have HW0 := Goto.m0 hB.size
 have HB := Goto.m0 hB
 clear hB
 have H : ((object_is.f a1).bind fun t156 => (if t156 = true then (if 0 ≤ a1 then (if a1 < 4 then (if a1 = 0 then ((ext_43.f l0_1).bind fun t157 => (some (t157, a0_0, l0_1, a0_2, l0_3, a0_4, l0_5, a0_6, l0_7))) else (if a1 = 1 then ((ext_43.f l0_3).bind fun t160 => (some (t160, a0_0, l0_1, a0_2, l0_3, a0_4, l0_5, a0_6, l0_7))) else (if a1 = 2 then ((ext_43.f l0_5).bind fun t163 => (some (t163, a0_0, l0_1, a0_2, l0_3, a0_4, l0_5, a0_6, l0_7))) else (if a1 = 3 then ((ext_43.f l0_7).bind fun t166 => (some (t166, a0_0, l0_1, a0_2, l0_3, a0_4, l0_5, a0_6, l0_7))) else (none))))) else (none)) else (none)) else (some (([] : List Int), a0_0, l0_1, a0_2, l0_3, a0_4, l0_5, a0_6, l0_7)))) = some (r1, r2, r3, r4, r5, r6, r7, r8, r9) := h
 clear h
 replace H := Option.bind_eq_some_iff.mp H
 obtain ⟨t156, A30, H⟩ := H
 have A3 := Goto.m0 A30
 clear A30
 by_cases c4 : t156 = true
 ·
  subst c4
  rw [if_pos rfl] at H
  by_cases c5 : 0 ≤ a1
  ·
   rw [if_pos c5] at H
   have c5b0 : decide (0 ≤ a1) = true := decide_eq_true c5
   clear c5
   by_cases c6 : a1 < 4
   ·
    rw [if_pos c6] at H
    have c6b0 : decide (a1 < 4) = true := decide_eq_true c6
    clear c6
    by_cases c7 : a1 = 0
    ·
     rw [if_pos c7] at H
     have c7b0 : (a1 == 0) = true := beq_iff_eq.mpr c7
     have c7b1 : (a1 != 0) = false := bne_eq_false_iff_eq.mpr c7
     clear c7
     have hix8e : a1 = 0 := eq_of_beq (by first | (with_reducible assumption) | assumption)
     have hix8 : (a1).toNat = 0 := by rw [hix8e]; rfl
     have hix8c : (0 ≤ a1 ∧ a1 < (4 : Int)) = True := eq_true (by rw [hix8e]; decide)
     clear hix8e
     replace H := Option.bind_eq_some_iff.mp H
     obtain ⟨t157, A90, H⟩ := H
     have A9 := Goto.m0 A90
     clear A90
     simp only [Option.some.injEq, Prod.mk.injEq] at H
     obtain ⟨rfl, rfl, rfl, rfl, rfl, rfl, rfl, rfl, rfl⟩ := H
     go_enter Tryd.func30, Tryd.ntmps30
     go_wp2_with (first | ((with_reducible refine gate_callee (f := 36) rfl ?_); refine goesL_ (some 6) rfl rfl Tryd.func36 (by kernel_rfl) rfl #[.int .i64 a1] rfl (by (try simp only [List.map_toArray, List.map_cons, List.map_nil]); first | done | rfl | (simp only [List.length_drop, List.length_take]; rfl)) ?_; (with_reducible refine (object_is.calls a1 true _ A3.out).mono ?_); rintro e w' ⟨rfl, ⟨nd, rfl⟩⟩; refine ⟨_, rfl, ?_⟩; have hcz10_0 := Goto.bc0 BK0; have hcz10_1 := Goto.bc1 BK0; have hcz10_2 := Goto.bc2 BK0; have hcz10_3 := Goto.bc3 BK0; have hcz10_4 := Goto.bc4 BK0; have hcz10_5 := Goto.bc5 BK0; have hcz10_6 := Goto.bc6 BK0; have hcz10_7 := Goto.bc7 BK0; have hfz10_0 := Goto.bf BK0 0; have hfz10_1 := Goto.bf BK0 1; have hfz10_2 := Goto.bf BK0 2; have hfz10_3 := Goto.bf BK0 3; have hfz10_4 := Goto.bf BK0 4; have hfz10_5 := Goto.bf BK0 5; have hfz10_6 := Goto.bf BK0 6; have hfz10_7 := Goto.bf BK0 7; obtain ⟨Ao11, co11, eo11⟩ := Kd.R_slice HO0_1.out; subst eo11) | ((with_reducible refine gate_callee (f := 43) rfl ?_); refine goesL_ (some 15) rfl rfl Tryd.func43 (by kernel_rfl) rfl #[.slice Ao11 l0_1.length co11] rfl (by (try simp only [List.map_toArray, List.map_cons, List.map_nil]); first | done | rfl | (simp only [List.length_drop, List.length_take]; rfl)) ?_; (with_reducible refine (ext_43.calls _ _ l0_1 t157 _ ?side1 ?side2 A9.out).mono ?_); (case side1 => repeat (first | exact (Kd.R_reads' HO0_1.out).2.2 | (with_reducible refine Kd.C_alloc ?_ _) | (with_reducible refine Kd.C_drewN ?_ _) | (with_reducible refine Kd.C_drew ?_))); (case side2 => exact (Kd.R_reads' HO0_1.out).2.1); rintro e w12 ⟨v158, rfl, ho0, hb⟩; refine ⟨_, rfl, ?_⟩; have HO159 := Goto.m0 (Kd.R_lower (Kd.R_new' (Kd.R_new' (Kd.R_new' (Kd.R_new' (Kd.R_newM (M := fun k_ => ((P0_1_ k_ ∨ P0_3_ k_ ∨ P0_5_ k_ ∨ P0_7_ k_) ∨ w.heap.size ≤ k_)) ho0 (by first | exact HK.out.1 | exact (show Kept w _ (fun k_ => (P0_1_ k_ ∨ P0_3_ k_ ∨ P0_5_ k_ ∨ P0_7_ k_) ∨ k_ = g) from by repeat (first | (with_reducible first | exact HK.out | apply Kept.alloc | apply Kept.drewN | apply Kept.drew | refine Kept.setCell ?_ (.inl (.inr rfl)) _) | exact HK.out)).1) (fun k_ h_ => .inr h_)) (Kd.R_lt (Goto.rk HO0_1))) (Kd.R_lt (Goto.rk HO0_3))) (Kd.R_lt (Goto.rk HO0_5))) (Kd.R_lt (Goto.rk HO0_7))) (below_size (Goto.hx HB))); replace HO0_1 := Goto.m0 (Kd.R_elder' (Goto.rk HO0_1) (Kd.R_base ho0) hb); replace HO0_3 := Goto.m0 (Kd.R_elder' (Goto.rk HO0_3) (Kd.R_base ho0) hb); replace HO0_5 := Goto.m0 (Kd.R_elder' (Goto.rk HO0_5) (Kd.R_base ho0) hb); replace HO0_7 := Goto.m0 (Kd.R_elder' (Goto.rk HO0_7) (Kd.R_base ho0) hb); replace BK0 := Goto.bb BK0 hb; replace HK := Goto.m0 (Kept.below (S := (fun k_ => (P0_1_ k_ ∨ P0_3_ k_ ∨ P0_5_ k_ ∨ P0_7_ k_) ∨ k_ = g)) (by repeat (first | (with_reducible first | exact HK.out | apply Kept.alloc | apply Kept.drewN | apply Kept.drew | refine Kept.setCell ?_ (.inl (.inr rfl)) _) | exact HK.out)) hb); replace HB := Goto.hs HB hb; (try clear hb); (try clear hb2); (try clear hk); (try clear hi); (try clear ho0)))
     go_ret
     (try simp only [← exists_and_left])
     exact ⟨_, _, _, _, _, Goto.er, by (with_reducible repeat (first | apply Kd.R_alloc | apply Kd.R_drewN | apply Kd.R_drew)); exact Kd.R_mono HO159.out (fun _ hk => ⟨hk.1.1.1.1.1, ⟨hk.1.1.1.2, ⟨hk.1.1.2, ⟨hk.1.2, hk.2⟩⟩⟩⟩), by (with_reducible repeat (first | apply Kd.R_alloc | apply Kd.R_drewN | apply Kd.R_drew)); exact Kd.R_mono HO0_1.out (fun _ hk => ⟨hk.1.1, ⟨hk.2, ⟨hk.1.2.1, ⟨hk.1.2.2.1, hk.1.2.2.2⟩⟩⟩⟩), by (with_reducible repeat (first | apply Kd.R_alloc | apply Kd.R_drewN | apply Kd.R_drew)); exact Kd.R_mono HO0_3.out (fun _ hk => ⟨hk.1.1, ⟨hk.2, ⟨hk.1.2.1, ⟨hk.1.2.2.1, hk.1.2.2.2⟩⟩⟩⟩), by (with_reducible repeat (first | apply Kd.R_alloc | apply Kd.R_drewN | apply Kd.R_drew)); exact Kd.R_mono HO0_5.out (fun _ hk => ⟨hk.1.1, ⟨hk.2, ⟨hk.1.2.1, ⟨hk.1.2.2.1, hk.1.2.2.2⟩⟩⟩⟩), by (with_reducible repeat (first | apply Kd.R_alloc | apply Kd.R_drewN | apply Kd.R_drew)); exact Kd.R_mono HO0_7.out (fun _ hk => ⟨hk.1.1, ⟨hk.2, ⟨hk.1.2.1, ⟨hk.1.2.2.1, hk.1.2.2.2⟩⟩⟩⟩), by (with_reducible repeat first | refine blk_drewN ?_ _ | refine blk_drew ?_ | refine blk_alloc ?_ _); exact BK0.out, by repeat (first | (with_reducible first | exact HB.out | apply below_alloc | apply pw_below_drewN | apply below_drew1 | refine below_set ?_ GE0.out) | exact HB.out), by repeat (first | (with_reducible first | exact HK.out | apply Kept.alloc | apply Kept.drewN | apply Kept.drew | refine Kept.setCell ?_ (.inl (.inr rfl)) _) | exact HK.out)⟩
    ·
     rw [if_neg c7] at H
     have c7b0 : (a1 == 0) = false := beq_eq_false_iff_ne.mpr c7
     have c7b1 : (a1 != 0) = true := bne_iff_ne.mpr c7
     by_cases c13 : a1 = 1
     ·
      rw [if_pos c13] at H
      have c13b0 : (a1 == 1) = true := beq_iff_eq.mpr c13
      have c13b1 : (a1 != 1) = false := bne_eq_false_iff_eq.mpr c13
      clear c13
      have hix14e : a1 = 1 := eq_of_beq (by first | (with_reducible assumption) | assumption)
      have hix14 : (a1).toNat = 1 := by rw [hix14e]; rfl
      have hix14c : (0 ≤ a1 ∧ a1 < (4 : Int)) = True := eq_true (by rw [hix14e]; decide)
      clear hix14e
      replace H := Option.bind_eq_some_iff.mp H
      obtain ⟨t160, A150, H⟩ := H
      have A15 := Goto.m0 A150
      clear A150
      simp only [Option.some.injEq, Prod.mk.injEq] at H
      obtain ⟨rfl, rfl, rfl, rfl, rfl, rfl, rfl, rfl, rfl⟩ := H
      go_enter Tryd.func30, Tryd.ntmps30
      go_wp2_with (first | ((with_reducible refine gate_callee (f := 36) rfl ?_); refine goesL_ (some 6) rfl rfl Tryd.func36 (by kernel_rfl) rfl #[.int .i64 a1] rfl (by (try simp only [List.map_toArray, List.map_cons, List.map_nil]); first | done | rfl | (simp only [List.length_drop, List.length_take]; rfl)) ?_; (with_reducible refine (object_is.calls a1 true _ A3.out).mono ?_); rintro e w' ⟨rfl, ⟨nd, rfl⟩⟩; refine ⟨_, rfl, ?_⟩; have hcz16_0 := Goto.bc0 BK0; have hcz16_1 := Goto.bc1 BK0; have hcz16_2 := Goto.bc2 BK0; have hcz16_3 := Goto.bc3 BK0; have hcz16_4 := Goto.bc4 BK0; have hcz16_5 := Goto.bc5 BK0; have hcz16_6 := Goto.bc6 BK0; have hcz16_7 := Goto.bc7 BK0; have hfz16_0 := Goto.bf BK0 0; have hfz16_1 := Goto.bf BK0 1; have hfz16_2 := Goto.bf BK0 2; have hfz16_3 := Goto.bf BK0 3; have hfz16_4 := Goto.bf BK0 4; have hfz16_5 := Goto.bf BK0 5; have hfz16_6 := Goto.bf BK0 6; have hfz16_7 := Goto.bf BK0 7; obtain ⟨Ao17, co17, eo17⟩ := Kd.R_slice HO0_3.out; subst eo17) | ((with_reducible refine gate_callee (f := 43) rfl ?_); refine goesL_ (some 15) rfl rfl Tryd.func43 (by kernel_rfl) rfl #[.slice Ao17 l0_3.length co17] rfl (by (try simp only [List.map_toArray, List.map_cons, List.map_nil]); first | done | rfl | (simp only [List.length_drop, List.length_take]; rfl)) ?_; (with_reducible refine (ext_43.calls _ _ l0_3 t160 _ ?side1 ?side2 A15.out).mono ?_); (case side1 => repeat (first | exact (Kd.R_reads' HO0_3.out).2.2 | (with_reducible refine Kd.C_alloc ?_ _) | (with_reducible refine Kd.C_drewN ?_ _) | (with_reducible refine Kd.C_drew ?_))); (case side2 => exact (Kd.R_reads' HO0_3.out).2.1); rintro e w18 ⟨v161, rfl, ho0, hb⟩; refine ⟨_, rfl, ?_⟩; have HO162 := Goto.m0 (Kd.R_lower (Kd.R_new' (Kd.R_new' (Kd.R_new' (Kd.R_new' (Kd.R_newM (M := fun k_ => ((P0_1_ k_ ∨ P0_3_ k_ ∨ P0_5_ k_ ∨ P0_7_ k_) ∨ w.heap.size ≤ k_)) ho0 (by first | exact HK.out.1 | exact (show Kept w _ (fun k_ => (P0_1_ k_ ∨ P0_3_ k_ ∨ P0_5_ k_ ∨ P0_7_ k_) ∨ k_ = g) from by repeat (first | (with_reducible first | exact HK.out | apply Kept.alloc | apply Kept.drewN | apply Kept.drew | refine Kept.setCell ?_ (.inl (.inr rfl)) _) | exact HK.out)).1) (fun k_ h_ => .inr h_)) (Kd.R_lt (Goto.rk HO0_1))) (Kd.R_lt (Goto.rk HO0_3))) (Kd.R_lt (Goto.rk HO0_5))) (Kd.R_lt (Goto.rk HO0_7))) (below_size (Goto.hx HB))); replace HO0_1 := Goto.m0 (Kd.R_elder' (Goto.rk HO0_1) (Kd.R_base ho0) hb); replace HO0_3 := Goto.m0 (Kd.R_elder' (Goto.rk HO0_3) (Kd.R_base ho0) hb); replace HO0_5 := Goto.m0 (Kd.R_elder' (Goto.rk HO0_5) (Kd.R_base ho0) hb); replace HO0_7 := Goto.m0 (Kd.R_elder' (Goto.rk HO0_7) (Kd.R_base ho0) hb); replace BK0 := Goto.bb BK0 hb; replace HK := Goto.m0 (Kept.below (S := (fun k_ => (P0_1_ k_ ∨ P0_3_ k_ ∨ P0_5_ k_ ∨ P0_7_ k_) ∨ k_ = g)) (by repeat (first | (with_reducible first | exact HK.out | apply Kept.alloc | apply Kept.drewN | apply Kept.drew | refine Kept.setCell ?_ (.inl (.inr rfl)) _) | exact HK.out)) hb); replace HB := Goto.hs HB hb; (try clear hb); (try clear hb2); (try clear hk); (try clear hi); (try clear ho0)))
      go_ret
      (try simp only [← exists_and_left])
      exact ⟨_, _, _, _, _, Goto.er, by (with_reducible repeat (first | apply Kd.R_alloc | apply Kd.R_drewN | apply Kd.R_drew)); exact Kd.R_mono HO162.out (fun _ hk => ⟨hk.1.1.1.1.1, ⟨hk.1.1.1.2, ⟨hk.1.1.2, ⟨hk.1.2, hk.2⟩⟩⟩⟩), by (with_reducible repeat (first | apply Kd.R_alloc | apply Kd.R_drewN | apply Kd.R_drew)); exact Kd.R_mono HO0_1.out (fun _ hk => ⟨hk.1.1, ⟨hk.2, ⟨hk.1.2.1, ⟨hk.1.2.2.1, hk.1.2.2.2⟩⟩⟩⟩), by (with_reducible repeat (first | apply Kd.R_alloc | apply Kd.R_drewN | apply Kd.R_drew)); exact Kd.R_mono HO0_3.out (fun _ hk => ⟨hk.1.1, ⟨hk.2, ⟨hk.1.2.1, ⟨hk.1.2.2.1, hk.1.2.2.2⟩⟩⟩⟩), by (with_reducible repeat (first | apply Kd.R_alloc | apply Kd.R_drewN | apply Kd.R_drew)); exact Kd.R_mono HO0_5.out (fun _ hk => ⟨hk.1.1, ⟨hk.2, ⟨hk.1.2.1, ⟨hk.1.2.2.1, hk.1.2.2.2⟩⟩⟩⟩), by (with_reducible repeat (first | apply Kd.R_alloc | apply Kd.R_drewN | apply Kd.R_drew)); exact Kd.R_mono HO0_7.out (fun _ hk => ⟨hk.1.1, ⟨hk.2, ⟨hk.1.2.1, ⟨hk.1.2.2.1, hk.1.2.2.2⟩⟩⟩⟩), by (with_reducible repeat first | refine blk_drewN ?_ _ | refine blk_drew ?_ | refine blk_alloc ?_ _); exact BK0.out, by repeat (first | (with_reducible first | exact HB.out | apply below_alloc | apply pw_below_drewN | apply below_drew1 | refine below_set ?_ GE0.out) | exact HB.out), by repeat (first | (with_reducible first | exact HK.out | apply Kept.alloc | apply Kept.drewN | apply Kept.drew | refine Kept.setCell ?_ (.inl (.inr rfl)) _) | exact HK.out)⟩
     ·
      rw [if_neg c13] at H
      have c13b0 : (a1 == 1) = false := beq_eq_false_iff_ne.mpr c13
      have c13b1 : (a1 != 1) = true := bne_iff_ne.mpr c13
      by_cases c19 : a1 = 2
      ·
       rw [if_pos c19] at H
       have c19b0 : (a1 == 2) = true := beq_iff_eq.mpr c19
       have c19b1 : (a1 != 2) = false := bne_eq_false_iff_eq.mpr c19
       clear c19
       have hix20e : a1 = 2 := eq_of_beq (by first | (with_reducible assumption) | assumption)
       have hix20 : (a1).toNat = 2 := by rw [hix20e]; rfl
       have hix20c : (0 ≤ a1 ∧ a1 < (4 : Int)) = True := eq_true (by rw [hix20e]; decide)
       clear hix20e
       replace H := Option.bind_eq_some_iff.mp H
       obtain ⟨t163, A210, H⟩ := H
       have A21 := Goto.m0 A210
       clear A210
       simp only [Option.some.injEq, Prod.mk.injEq] at H
       obtain ⟨rfl, rfl, rfl, rfl, rfl, rfl, rfl, rfl, rfl⟩ := H
       go_enter Tryd.func30, Tryd.ntmps30
       go_wp2_with (first | ((with_reducible refine gate_callee (f := 36) rfl ?_); refine goesL_ (some 6) rfl rfl Tryd.func36 (by kernel_rfl) rfl #[.int .i64 a1] rfl (by (try simp only [List.map_toArray, List.map_cons, List.map_nil]); first | done | rfl | (simp only [List.length_drop, List.length_take]; rfl)) ?_; (with_reducible refine (object_is.calls a1 true _ A3.out).mono ?_); rintro e w' ⟨rfl, ⟨nd, rfl⟩⟩; refine ⟨_, rfl, ?_⟩; have hcz22_0 := Goto.bc0 BK0; have hcz22_1 := Goto.bc1 BK0; have hcz22_2 := Goto.bc2 BK0; have hcz22_3 := Goto.bc3 BK0; have hcz22_4 := Goto.bc4 BK0; have hcz22_5 := Goto.bc5 BK0; have hcz22_6 := Goto.bc6 BK0; have hcz22_7 := Goto.bc7 BK0; have hfz22_0 := Goto.bf BK0 0; have hfz22_1 := Goto.bf BK0 1; have hfz22_2 := Goto.bf BK0 2; have hfz22_3 := Goto.bf BK0 3; have hfz22_4 := Goto.bf BK0 4; have hfz22_5 := Goto.bf BK0 5; have hfz22_6 := Goto.bf BK0 6; have hfz22_7 := Goto.bf BK0 7; obtain ⟨Ao23, co23, eo23⟩ := Kd.R_slice HO0_5.out; subst eo23) | ((with_reducible refine gate_callee (f := 43) rfl ?_); refine goesL_ (some 15) rfl rfl Tryd.func43 (by kernel_rfl) rfl #[.slice Ao23 l0_5.length co23] rfl (by (try simp only [List.map_toArray, List.map_cons, List.map_nil]); first | done | rfl | (simp only [List.length_drop, List.length_take]; rfl)) ?_; (with_reducible refine (ext_43.calls _ _ l0_5 t163 _ ?side1 ?side2 A21.out).mono ?_); (case side1 => repeat (first | exact (Kd.R_reads' HO0_5.out).2.2 | (with_reducible refine Kd.C_alloc ?_ _) | (with_reducible refine Kd.C_drewN ?_ _) | (with_reducible refine Kd.C_drew ?_))); (case side2 => exact (Kd.R_reads' HO0_5.out).2.1); rintro e w24 ⟨v164, rfl, ho0, hb⟩; refine ⟨_, rfl, ?_⟩; have HO165 := Goto.m0 (Kd.R_lower (Kd.R_new' (Kd.R_new' (Kd.R_new' (Kd.R_new' (Kd.R_newM (M := fun k_ => ((P0_1_ k_ ∨ P0_3_ k_ ∨ P0_5_ k_ ∨ P0_7_ k_) ∨ w.heap.size ≤ k_)) ho0 (by first | exact HK.out.1 | exact (show Kept w _ (fun k_ => (P0_1_ k_ ∨ P0_3_ k_ ∨ P0_5_ k_ ∨ P0_7_ k_) ∨ k_ = g) from by repeat (first | (with_reducible first | exact HK.out | apply Kept.alloc | apply Kept.drewN | apply Kept.drew | refine Kept.setCell ?_ (.inl (.inr rfl)) _) | exact HK.out)).1) (fun k_ h_ => .inr h_)) (Kd.R_lt (Goto.rk HO0_1))) (Kd.R_lt (Goto.rk HO0_3))) (Kd.R_lt (Goto.rk HO0_5))) (Kd.R_lt (Goto.rk HO0_7))) (below_size (Goto.hx HB))); replace HO0_1 := Goto.m0 (Kd.R_elder' (Goto.rk HO0_1) (Kd.R_base ho0) hb); replace HO0_3 := Goto.m0 (Kd.R_elder' (Goto.rk HO0_3) (Kd.R_base ho0) hb); replace HO0_5 := Goto.m0 (Kd.R_elder' (Goto.rk HO0_5) (Kd.R_base ho0) hb); replace HO0_7 := Goto.m0 (Kd.R_elder' (Goto.rk HO0_7) (Kd.R_base ho0) hb); replace BK0 := Goto.bb BK0 hb; replace HK := Goto.m0 (Kept.below (S := (fun k_ => (P0_1_ k_ ∨ P0_3_ k_ ∨ P0_5_ k_ ∨ P0_7_ k_) ∨ k_ = g)) (by repeat (first | (with_reducible first | exact HK.out | apply Kept.alloc | apply Kept.drewN | apply Kept.drew | refine Kept.setCell ?_ (.inl (.inr rfl)) _) | exact HK.out)) hb); replace HB := Goto.hs HB hb; (try clear hb); (try clear hb2); (try clear hk); (try clear hi); (try clear ho0)))
       go_ret
       (try simp only [← exists_and_left])
       exact ⟨_, _, _, _, _, Goto.er, by (with_reducible repeat (first | apply Kd.R_alloc | apply Kd.R_drewN | apply Kd.R_drew)); exact Kd.R_mono HO165.out (fun _ hk => ⟨hk.1.1.1.1.1, ⟨hk.1.1.1.2, ⟨hk.1.1.2, ⟨hk.1.2, hk.2⟩⟩⟩⟩), by (with_reducible repeat (first | apply Kd.R_alloc | apply Kd.R_drewN | apply Kd.R_drew)); exact Kd.R_mono HO0_1.out (fun _ hk => ⟨hk.1.1, ⟨hk.2, ⟨hk.1.2.1, ⟨hk.1.2.2.1, hk.1.2.2.2⟩⟩⟩⟩), by (with_reducible repeat (first | apply Kd.R_alloc | apply Kd.R_drewN | apply Kd.R_drew)); exact Kd.R_mono HO0_3.out (fun _ hk => ⟨hk.1.1, ⟨hk.2, ⟨hk.1.2.1, ⟨hk.1.2.2.1, hk.1.2.2.2⟩⟩⟩⟩), by (with_reducible repeat (first | apply Kd.R_alloc | apply Kd.R_drewN | apply Kd.R_drew)); exact Kd.R_mono HO0_5.out (fun _ hk => ⟨hk.1.1, ⟨hk.2, ⟨hk.1.2.1, ⟨hk.1.2.2.1, hk.1.2.2.2⟩⟩⟩⟩), by (with_reducible repeat (first | apply Kd.R_alloc | apply Kd.R_drewN | apply Kd.R_drew)); exact Kd.R_mono HO0_7.out (fun _ hk => ⟨hk.1.1, ⟨hk.2, ⟨hk.1.2.1, ⟨hk.1.2.2.1, hk.1.2.2.2⟩⟩⟩⟩), by (with_reducible repeat first | refine blk_drewN ?_ _ | refine blk_drew ?_ | refine blk_alloc ?_ _); exact BK0.out, by repeat (first | (with_reducible first | exact HB.out | apply below_alloc | apply pw_below_drewN | apply below_drew1 | refine below_set ?_ GE0.out) | exact HB.out), by repeat (first | (with_reducible first | exact HK.out | apply Kept.alloc | apply Kept.drewN | apply Kept.drew | refine Kept.setCell ?_ (.inl (.inr rfl)) _) | exact HK.out)⟩
      ·
       rw [if_neg c19] at H
       have c19b0 : (a1 == 2) = false := beq_eq_false_iff_ne.mpr c19
       have c19b1 : (a1 != 2) = true := bne_iff_ne.mpr c19
       by_cases c25 : a1 = 3
       ·
        rw [if_pos c25] at H
        have c25b0 : (a1 == 3) = true := beq_iff_eq.mpr c25
        have c25b1 : (a1 != 3) = false := bne_eq_false_iff_eq.mpr c25
        clear c25
        have hix26e : a1 = 3 := eq_of_beq (by first | (with_reducible assumption) | assumption)
        have hix26 : (a1).toNat = 3 := by rw [hix26e]; rfl
        have hix26c : (0 ≤ a1 ∧ a1 < (4 : Int)) = True := eq_true (by rw [hix26e]; decide)
        clear hix26e
        replace H := Option.bind_eq_some_iff.mp H
        obtain ⟨t166, A270, H⟩ := H
        have A27 := Goto.m0 A270
        clear A270
        simp only [Option.some.injEq, Prod.mk.injEq] at H
        obtain ⟨rfl, rfl, rfl, rfl, rfl, rfl, rfl, rfl, rfl⟩ := H
        go_enter Tryd.func30, Tryd.ntmps30
        go_wp2_with (first | ((with_reducible refine gate_callee (f := 36) rfl ?_); refine goesL_ (some 6) rfl rfl Tryd.func36 (by kernel_rfl) rfl #[.int .i64 a1] rfl (by (try simp only [List.map_toArray, List.map_cons, List.map_nil]); first | done | rfl | (simp only [List.length_drop, List.length_take]; rfl)) ?_; (with_reducible refine (object_is.calls a1 true _ A3.out).mono ?_); rintro e w' ⟨rfl, ⟨nd, rfl⟩⟩; refine ⟨_, rfl, ?_⟩; have hcz28_0 := Goto.bc0 BK0; have hcz28_1 := Goto.bc1 BK0; have hcz28_2 := Goto.bc2 BK0; have hcz28_3 := Goto.bc3 BK0; have hcz28_4 := Goto.bc4 BK0; have hcz28_5 := Goto.bc5 BK0; have hcz28_6 := Goto.bc6 BK0; have hcz28_7 := Goto.bc7 BK0; have hfz28_0 := Goto.bf BK0 0; have hfz28_1 := Goto.bf BK0 1; have hfz28_2 := Goto.bf BK0 2; have hfz28_3 := Goto.bf BK0 3; have hfz28_4 := Goto.bf BK0 4; have hfz28_5 := Goto.bf BK0 5; have hfz28_6 := Goto.bf BK0 6; have hfz28_7 := Goto.bf BK0 7; obtain ⟨Ao29, co29, eo29⟩ := Kd.R_slice HO0_7.out; subst eo29) | ((with_reducible refine gate_callee (f := 43) rfl ?_); refine goesL_ (some 15) rfl rfl Tryd.func43 (by kernel_rfl) rfl #[.slice Ao29 l0_7.length co29] rfl (by (try simp only [List.map_toArray, List.map_cons, List.map_nil]); first | done | rfl | (simp only [List.length_drop, List.length_take]; rfl)) ?_; (with_reducible refine (ext_43.calls _ _ l0_7 t166 _ ?side1 ?side2 A27.out).mono ?_); (case side1 => repeat (first | exact (Kd.R_reads' HO0_7.out).2.2 | (with_reducible refine Kd.C_alloc ?_ _) | (with_reducible refine Kd.C_drewN ?_ _) | (with_reducible refine Kd.C_drew ?_))); (case side2 => exact (Kd.R_reads' HO0_7.out).2.1); rintro e w30 ⟨v167, rfl, ho0, hb⟩; refine ⟨_, rfl, ?_⟩; have HO168 := Goto.m0 (Kd.R_lower (Kd.R_new' (Kd.R_new' (Kd.R_new' (Kd.R_new' (Kd.R_newM (M := fun k_ => ((P0_1_ k_ ∨ P0_3_ k_ ∨ P0_5_ k_ ∨ P0_7_ k_) ∨ w.heap.size ≤ k_)) ho0 (by first | exact HK.out.1 | exact (show Kept w _ (fun k_ => (P0_1_ k_ ∨ P0_3_ k_ ∨ P0_5_ k_ ∨ P0_7_ k_) ∨ k_ = g) from by repeat (first | (with_reducible first | exact HK.out | apply Kept.alloc | apply Kept.drewN | apply Kept.drew | refine Kept.setCell ?_ (.inl (.inr rfl)) _) | exact HK.out)).1) (fun k_ h_ => .inr h_)) (Kd.R_lt (Goto.rk HO0_1))) (Kd.R_lt (Goto.rk HO0_3))) (Kd.R_lt (Goto.rk HO0_5))) (Kd.R_lt (Goto.rk HO0_7))) (below_size (Goto.hx HB))); replace HO0_1 := Goto.m0 (Kd.R_elder' (Goto.rk HO0_1) (Kd.R_base ho0) hb); replace HO0_3 := Goto.m0 (Kd.R_elder' (Goto.rk HO0_3) (Kd.R_base ho0) hb); replace HO0_5 := Goto.m0 (Kd.R_elder' (Goto.rk HO0_5) (Kd.R_base ho0) hb); replace HO0_7 := Goto.m0 (Kd.R_elder' (Goto.rk HO0_7) (Kd.R_base ho0) hb); replace BK0 := Goto.bb BK0 hb; replace HK := Goto.m0 (Kept.below (S := (fun k_ => (P0_1_ k_ ∨ P0_3_ k_ ∨ P0_5_ k_ ∨ P0_7_ k_) ∨ k_ = g)) (by repeat (first | (with_reducible first | exact HK.out | apply Kept.alloc | apply Kept.drewN | apply Kept.drew | refine Kept.setCell ?_ (.inl (.inr rfl)) _) | exact HK.out)) hb); replace HB := Goto.hs HB hb; (try clear hb); (try clear hb2); (try clear hk); (try clear hi); (try clear ho0)))
        go_ret
        (try simp only [← exists_and_left])
        exact ⟨_, _, _, _, _, Goto.er, by (with_reducible repeat (first | apply Kd.R_alloc | apply Kd.R_drewN | apply Kd.R_drew)); exact Kd.R_mono HO168.out (fun _ hk => ⟨hk.1.1.1.1.1, ⟨hk.1.1.1.2, ⟨hk.1.1.2, ⟨hk.1.2, hk.2⟩⟩⟩⟩), by (with_reducible repeat (first | apply Kd.R_alloc | apply Kd.R_drewN | apply Kd.R_drew)); exact Kd.R_mono HO0_1.out (fun _ hk => ⟨hk.1.1, ⟨hk.2, ⟨hk.1.2.1, ⟨hk.1.2.2.1, hk.1.2.2.2⟩⟩⟩⟩), by (with_reducible repeat (first | apply Kd.R_alloc | apply Kd.R_drewN | apply Kd.R_drew)); exact Kd.R_mono HO0_3.out (fun _ hk => ⟨hk.1.1, ⟨hk.2, ⟨hk.1.2.1, ⟨hk.1.2.2.1, hk.1.2.2.2⟩⟩⟩⟩), by (with_reducible repeat (first | apply Kd.R_alloc | apply Kd.R_drewN | apply Kd.R_drew)); exact Kd.R_mono HO0_5.out (fun _ hk => ⟨hk.1.1, ⟨hk.2, ⟨hk.1.2.1, ⟨hk.1.2.2.1, hk.1.2.2.2⟩⟩⟩⟩), by (with_reducible repeat (first | apply Kd.R_alloc | apply Kd.R_drewN | apply Kd.R_drew)); exact Kd.R_mono HO0_7.out (fun _ hk => ⟨hk.1.1, ⟨hk.2, ⟨hk.1.2.1, ⟨hk.1.2.2.1, hk.1.2.2.2⟩⟩⟩⟩), by (with_reducible repeat first | refine blk_drewN ?_ _ | refine blk_drew ?_ | refine blk_alloc ?_ _); exact BK0.out, by repeat (first | (with_reducible first | exact HB.out | apply below_alloc | apply pw_below_drewN | apply below_drew1 | refine below_set ?_ GE0.out) | exact HB.out), by repeat (first | (with_reducible first | exact HK.out | apply Kept.alloc | apply Kept.drewN | apply Kept.drew | refine Kept.setCell ?_ (.inl (.inr rfl)) _) | exact HK.out)⟩
       ·
        rw [if_neg c25] at H
        exact absurd H (by simp)
   ·
    rw [if_neg c6] at H
    exact absurd H (by simp)
  ·
   rw [if_neg c5] at H
   exact absurd H (by simp)
 ·
  replace c4 := Bool.eq_false_iff.mpr c4
  subst c4
  rw [if_neg (show ¬ (false = true) by decide)] at H
  simp only [Option.some.injEq, Prod.mk.injEq] at H
  obtain ⟨rfl, rfl, rfl, rfl, rfl, rfl, rfl, rfl, rfl⟩ := H
  go_enter Tryd.func30, Tryd.ntmps30
  go_wp2_with (first | ((with_reducible refine gate_callee (f := 36) rfl ?_); refine goesL_ (some 6) rfl rfl Tryd.func36 (by kernel_rfl) rfl #[.int .i64 a1] rfl (by (try simp only [List.map_toArray, List.map_cons, List.map_nil]); first | done | rfl | (simp only [List.length_drop, List.length_take]; rfl)) ?_; (with_reducible refine (object_is.calls a1 false _ A3.out).mono ?_); rintro e w' ⟨rfl, ⟨nd, rfl⟩⟩; refine ⟨_, rfl, ?_⟩))
  go_ret
  (try simp only [← exists_and_left])
  exact ⟨_, _, _, _, _, Goto.er, by first | exact Kd.R_nil _ _ _ _ _ | exact Kd.N_nil _ _ _ _ _ | exact Kd.V_nil _ _ _ _ _ | exact Kd.Q_nil _ _ _ _ _ | exact Kd.S_nil _ _ _ _ _, by (with_reducible repeat (first | apply Kd.R_alloc | apply Kd.R_drewN | apply Kd.R_drew)); exact Kd.R_mono HO0_1.out (fun _ hk => ⟨hk.1, ⟨(by simp [Value.ownBlock]), ⟨hk.2.1, ⟨hk.2.2.1, hk.2.2.2⟩⟩⟩⟩), by (with_reducible repeat (first | apply Kd.R_alloc | apply Kd.R_drewN | apply Kd.R_drew)); exact Kd.R_mono HO0_3.out (fun _ hk => ⟨hk.1, ⟨(by simp [Value.ownBlock]), ⟨hk.2.1, ⟨hk.2.2.1, hk.2.2.2⟩⟩⟩⟩), by (with_reducible repeat (first | apply Kd.R_alloc | apply Kd.R_drewN | apply Kd.R_drew)); exact Kd.R_mono HO0_5.out (fun _ hk => ⟨hk.1, ⟨(by simp [Value.ownBlock]), ⟨hk.2.1, ⟨hk.2.2.1, hk.2.2.2⟩⟩⟩⟩), by (with_reducible repeat (first | apply Kd.R_alloc | apply Kd.R_drewN | apply Kd.R_drew)); exact Kd.R_mono HO0_7.out (fun _ hk => ⟨hk.1, ⟨(by simp [Value.ownBlock]), ⟨hk.2.1, ⟨hk.2.2.1, hk.2.2.2⟩⟩⟩⟩), by (with_reducible repeat first | refine blk_drewN ?_ _ | refine blk_drew ?_ | refine blk_alloc ?_ _); exact BK0.out, by repeat (first | (with_reducible first | exact HB.out | apply below_alloc | apply pw_below_drewN | apply below_drew1 | refine below_set ?_ GE0.out) | exact HB.out), by repeat (first | (with_reducible first | exact HK.out | apply Kept.alloc | apply Kept.drewN | apply Kept.drew | refine Kept.setCell ?_ (.inl (.inr rfl)) _) | exact HK.out)⟩

-- NOT PRINTED: function 44 (reflectlite_TypeOf)

-- NOT PRINTED: function 45 (errors_is)

end Go.Proofs.YtiejhnijfgdapaaDoor.P
