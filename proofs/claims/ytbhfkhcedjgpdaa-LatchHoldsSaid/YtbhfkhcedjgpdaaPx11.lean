/- Printed by a program of this workplace (a turned copy of the kit's optional print), out of the translation; not trusted: Lean checks it. -/
import Derived.Test.YtbhfkhcedjgpdaaPx0
import Derived.Test.YtbhfkhcedjgpdaaExt
namespace Go.Proofs.Ytbhfkhcedjgpdaa.P
open Go.RowKit Go.Proofs.YtbhfkhcedjgpdaaW.PrintWords Go.Proofs.YtbhfkhcedjgpdaaW.PrintLast Go.Proofs.YtbhfkhcedjgpdaaW.PrintMore
attribute [local go_sem] max2_int min2_int max_two min_two max_three min_three max_four min_four   -- for this text's walks alone
set_option linter.unusedVariables false
set_option linter.unusedSimpArgs false

/-! ### latch_Latch_Levels: function 36 -/
def latch_Latch_Levels.f (a0_0 : Int) (a0_1 : Int) (l0_2 : List (List Int)) (l0_3 : List (S44)) (a0_4 : Int) (l0_5 : List Int) (a0_6 : Int) (l0_7 : List Int) : Option (List Int × Int × List Int × Int × List Int) := (ext_46.f l0_5).bind fun t211 => (some (t211, a0_4, l0_5, a0_6, l0_7))
set_option maxHeartbeats 8000000 in
set_option maxRecDepth 100000 in
theorem latch_Latch_Levels.calls (g : Nat) (a0_0 : Int) (a0_1 : Int) (A0_2 : Option Addr) (c0_2 : Nat) (l0_2 : List (List Int)) (A0_3 : Option Addr) (c0_3 : Nat) (l0_3 : List (S44)) (a0_4 : Int) (P0_5_ : Nat → Prop) (u9000_ : Value) (l0_5 : List Int) (a0_6 : Int) (P0_7_ : Nat → Prop) (u9001_ : Value) (l0_7 : List Int) (r1 : List Int) (r2 : Int) (r3 : List Int) (r4 : Int) (r5 : List Int) (w0 w : World) (hI : w.heap[g]? = some (.cells #[.int .i64 a0_0, .int .i64 a0_1, .slice A0_2 l0_2.length c0_2, .slice A0_3 l0_3.length c0_3, .int .i64 a0_4, u9000_, .int .i64 a0_6, u9001_] 86 (0, 0))) (hG : w0.heap.size ≤ g) (hB : Below w0.heap.size w0 w) (hr0_2 : ∀ W_, Kept w W_ (fun k_ => (P0_5_ k_ ∨ P0_7_ k_) ∨ k_ = g) → Kd.C (Kd.slice 3 (Kd.int .i64)) W_ A0_2 l0_2.length l0_2) (hc0_2 : l0_2.length ≤ c0_2) (hr0_3 : ∀ W_, Kept w W_ (fun k_ => (P0_5_ k_ ∨ P0_7_ k_) ∨ k_ = g) → Kd.C k44 W_ A0_3 l0_3.length l0_3) (hc0_3 : l0_3.length ≤ c0_3) (ho0_5 : Kd.R (Kd.int .i64) 3 w w0.heap.size P0_5_ u9000_ l0_5) (hp0_5_0_7 : ∀ k_, P0_5_ k_ → ¬ P0_7_ k_) (ho0_7 : Kd.R (Kd.int .i64) 3 w w0.heap.size P0_7_ u9001_ l0_7) (hp0_7_0_5 : ∀ k_, P0_7_ k_ → ¬ P0_5_ k_) (h : latch_Latch_Levels.f a0_0 a0_1 l0_2 l0_3 a0_4 l0_5 a0_6 l0_7 = some (r1, r2, r3, r4, r5)) :
    Calls Try.prog 36 #[.pointer (some ⟨g, 0, none⟩)] w fun e w' => ∃ v0_ v2_ v4_ : Value, e = .returned (v0_) ∧ Kd.R (Kd.int .i64) 3 w' w0.heap.size (fun k_ => ((P0_5_ k_ ∨ P0_7_ k_) ∨ w.heap.size ≤ k_) ∧ some k_ ≠ (v2_ : Value).ownBlock ∧ some k_ ≠ (v4_ : Value).ownBlock) v0_ r1 ∧ Kd.R (Kd.int .i64) 3 w' w0.heap.size (fun k_ => ((P0_5_ k_ ∨ P0_7_ k_) ∨ w.heap.size ≤ k_) ∧ some k_ ≠ (v0_ : Value).ownBlock ∧ some k_ ≠ (v4_ : Value).ownBlock) v2_ r3 ∧ Kd.R (Kd.int .i64) 3 w' w0.heap.size (fun k_ => ((P0_5_ k_ ∨ P0_7_ k_) ∨ w.heap.size ≤ k_) ∧ some k_ ≠ (v0_ : Value).ownBlock ∧ some k_ ≠ (v2_ : Value).ownBlock) v4_ r5 ∧ w'.heap[g]? = some (.cells #[.int .i64 a0_0, .int .i64 a0_1, .slice A0_2 l0_2.length c0_2, .slice A0_3 l0_3.length c0_3, .int .i64 r2, v2_, .int .i64 r4, v4_] 86 (0, 0)) ∧ Below w0.heap.size w0 w' ∧ Kept w w' (fun k_ => (P0_5_ k_ ∨ P0_7_ k_) ∨ k_ = g) := by
 have HR0_2 := Goto.m0 hr0_2
 have HC0_2 := Goto.m0 hc0_2
 clear hr0_2 hc0_2
 have HR0_3 := Goto.m0 hr0_3
 have HC0_3 := Goto.m0 hc0_3
 clear hr0_3 hc0_3
 have HO0_5 := Goto.m0 (show Kd.R (Kd.int .i64) 3 w w0.heap.size (fun k_ => ((P0_5_ k_ ∨ P0_7_ k_) ∨ w.heap.size ≤ k_) ∧ some k_ ≠ (u9001_ : Value).ownBlock) u9000_ l0_5 from Kd.R_mono ho0_5 (fun k_ hk => ⟨(.inl (.inl hk)), fun e_ => hp0_5_0_7 k_ hk (ho0_7.1 k_ e_.symm)⟩))
 have HO0_7 := Goto.m0 (show Kd.R (Kd.int .i64) 3 w w0.heap.size (fun k_ => ((P0_5_ k_ ∨ P0_7_ k_) ∨ w.heap.size ≤ k_) ∧ some k_ ≠ (u9000_ : Value).ownBlock) u9001_ l0_7 from Kd.R_mono ho0_7 (fun k_ hk => ⟨(.inl (.inr hk)), fun e_ => hp0_7_0_5 k_ hk (ho0_5.1 k_ e_.symm)⟩))
 have BK0 := Goto.m0 hI
 have GE0 := Goto.m0 hG
 clear hI hG
 have HK := Goto.m0 (Kept.refl w (fun k_ => (P0_5_ k_ ∨ P0_7_ k_) ∨ k_ = g))
 have HW0 := Goto.m0 hB.size
 have HB := Goto.m0 hB
 clear hB
 have H : ((ext_46.f l0_5).bind fun t211 => (some (t211, a0_4, l0_5, a0_6, l0_7))) = some (r1, r2, r3, r4, r5) := h
 clear h
 replace H := Option.bind_eq_some_iff.mp H
 obtain ⟨t211, A20, H⟩ := H
 have A2 := Goto.m0 A20
 clear A20
 simp only [Option.some.injEq, Prod.mk.injEq] at H
 obtain ⟨rfl, rfl, rfl, rfl, rfl⟩ := H
 have hcz3_0 := Goto.bc0 BK0; have hcz3_1 := Goto.bc1 BK0; have hcz3_2 := Goto.bc2 BK0; have hcz3_3 := Goto.bc3 BK0; have hcz3_4 := Goto.bc4 BK0; have hcz3_5 := Goto.bc5 BK0; have hcz3_6 := Goto.bc6 BK0; have hcz3_7 := Goto.bc7 BK0; have hfz3_0 := blk_frozen BK0.out 0; have hfz3_1 := blk_frozen BK0.out 1; have hfz3_2 := blk_frozen BK0.out 2; have hfz3_3 := blk_frozen BK0.out 3; have hfz3_4 := blk_frozen BK0.out 4; have hfz3_5 := blk_frozen BK0.out 5; have hfz3_6 := blk_frozen BK0.out 6; have hfz3_7 := blk_frozen BK0.out 7
 obtain ⟨Ao4, co4, eo4⟩ := Kd.R_slice HO0_5.out
 subst eo4
 go_enter Try.func36, Try.ntmps36
 go_wp2_with (first | ((with_reducible refine gate_callee (f := 46) rfl ?_); refine goesL_ (some 8) rfl rfl Try.func46 (by kernel_rfl) rfl #[.slice Ao4 l0_5.length co4] rfl (by (try simp only [List.map_toArray, List.map_cons, List.map_nil]); first | done | rfl | (simp only [List.length_drop, List.length_take]; rfl)) ?_; (with_reducible refine (ext_46.calls _ _ l0_5 t211 _ ?side1 ?side2 A2.out).mono ?_); (case side1 => repeat (first | exact (Kd.R_reads' HO0_5.out).2.2 | (with_reducible refine Kd.C_alloc ?_ _) | (with_reducible refine Kd.C_drewN ?_ _) | (with_reducible refine Kd.C_drew ?_))); (case side2 => exact (Kd.R_reads' HO0_5.out).2.1); rintro e w5 ⟨v212, rfl, ho0, hb⟩; refine ⟨_, rfl, ?_⟩; have HO213 := Goto.m0 (Kd.R_lower (Kd.R_new' (Kd.R_new' (Kd.R_newM (M := fun k_ => ((P0_5_ k_ ∨ P0_7_ k_) ∨ w.heap.size ≤ k_)) ho0 (by first | exact HK.out.1 | exact (show Kept w _ (fun k_ => (P0_5_ k_ ∨ P0_7_ k_) ∨ k_ = g) from by repeat (first | (with_reducible first | exact HK.out | apply Kept.alloc | apply Kept.drewN | apply Kept.drew | refine Kept.setCell ?_ (.inl (.inr rfl)) _) | exact HK.out)).1) (fun k_ h_ => .inr h_)) (Kd.R_lt (by (with_reducible repeat (first | apply Kd.R_alloc | apply Kd.R_drewN | apply Kd.R_drew)); exact HO0_5.out))) (Kd.R_lt (by (with_reducible repeat (first | apply Kd.R_alloc | apply Kd.R_drewN | apply Kd.R_drew)); exact HO0_7.out))) (below_size (Goto.hx HB))); replace HO0_5 := Goto.m0 (Kd.R_elder' (by (with_reducible repeat (first | apply Kd.R_alloc | apply Kd.R_drewN | apply Kd.R_drew)); exact HO0_5.out) (Kd.R_base ho0) hb); replace HO0_7 := Goto.m0 (Kd.R_elder' (by (with_reducible repeat (first | apply Kd.R_alloc | apply Kd.R_drewN | apply Kd.R_drew)); exact HO0_7.out) (Kd.R_base ho0) hb); replace BK0 := Goto.bb BK0 hb; replace HK := Goto.m0 (Kept.below (S := (fun k_ => (P0_5_ k_ ∨ P0_7_ k_) ∨ k_ = g)) (by repeat (first | (with_reducible first | exact HK.out | apply Kept.alloc | apply Kept.drewN | apply Kept.drew | refine Kept.setCell ?_ (.inl (.inr rfl)) _) | exact HK.out)) hb); replace HB := Goto.hs HB hb; (try clear hb); (try clear hb2); (try clear hk); (try clear hi); (try clear ho0)))
 go_ret
 (try simp only [← exists_and_left])
 exact ⟨_, _, _, by first | rfl | (simp [errW_none, errW_some] <;> rfl) | (simp [*, errW_none, errW_some] <;> rfl), by (with_reducible repeat (first | apply Kd.R_alloc | apply Kd.R_drewN | apply Kd.R_drew)); exact Kd.R_mono HO213.out (fun _ hk => ⟨hk.1.1.1, ⟨hk.1.2, hk.2⟩⟩), by (with_reducible repeat (first | apply Kd.R_alloc | apply Kd.R_drewN | apply Kd.R_drew)); exact Kd.R_mono HO0_5.out (fun _ hk => ⟨hk.1.1, ⟨hk.2, hk.1.2⟩⟩), by (with_reducible repeat (first | apply Kd.R_alloc | apply Kd.R_drewN | apply Kd.R_drew)); exact Kd.R_mono HO0_7.out (fun _ hk => ⟨hk.1.1, ⟨hk.2, hk.1.2⟩⟩), by (with_reducible repeat first | refine blk_drewN ?_ _ | refine blk_drew ?_ | refine blk_alloc ?_ _); exact BK0.out, by repeat (first | (with_reducible first | exact HB.out | apply below_alloc | apply pw_below_drewN | apply below_drew1 | refine below_set ?_ GE0.out) | exact HB.out), by repeat (first | (with_reducible first | exact HK.out | apply Kept.alloc | apply Kept.drewN | apply Kept.drew | refine Kept.setCell ?_ (.inl (.inr rfl)) _) | exact HK.out)⟩

/-! ### latch_Latch_Plan: function 37 -/
def latch_Latch_Plan.f (a0_0 : Int) (a0_1 : Int) (l0_2 : List (List Int)) (l0_3 : List (S44)) (a0_4 : Int) (l0_5 : List Int) (a0_6 : Int) (l0_7 : List Int) : Option (Int × Int × List Int × Int × List Int) := some (a0_4, a0_4, l0_5, a0_6, l0_7)
set_option maxHeartbeats 8000000 in
set_option maxRecDepth 100000 in
theorem latch_Latch_Plan.calls (g : Nat) (a0_0 : Int) (a0_1 : Int) (A0_2 : Option Addr) (c0_2 : Nat) (l0_2 : List (List Int)) (A0_3 : Option Addr) (c0_3 : Nat) (l0_3 : List (S44)) (a0_4 : Int) (P0_5_ : Nat → Prop) (u9000_ : Value) (l0_5 : List Int) (a0_6 : Int) (P0_7_ : Nat → Prop) (u9001_ : Value) (l0_7 : List Int) (r1 : Int) (r2 : Int) (r3 : List Int) (r4 : Int) (r5 : List Int) (w0 w : World) (hI : w.heap[g]? = some (.cells #[.int .i64 a0_0, .int .i64 a0_1, .slice A0_2 l0_2.length c0_2, .slice A0_3 l0_3.length c0_3, .int .i64 a0_4, u9000_, .int .i64 a0_6, u9001_] 86 (0, 0))) (hG : w0.heap.size ≤ g) (hB : Below w0.heap.size w0 w) (hr0_2 : ∀ W_, Kept w W_ (fun k_ => (P0_5_ k_ ∨ P0_7_ k_) ∨ k_ = g) → Kd.C (Kd.slice 3 (Kd.int .i64)) W_ A0_2 l0_2.length l0_2) (hc0_2 : l0_2.length ≤ c0_2) (hr0_3 : ∀ W_, Kept w W_ (fun k_ => (P0_5_ k_ ∨ P0_7_ k_) ∨ k_ = g) → Kd.C k44 W_ A0_3 l0_3.length l0_3) (hc0_3 : l0_3.length ≤ c0_3) (ho0_5 : Kd.R (Kd.int .i64) 3 w w0.heap.size P0_5_ u9000_ l0_5) (hp0_5_0_7 : ∀ k_, P0_5_ k_ → ¬ P0_7_ k_) (ho0_7 : Kd.R (Kd.int .i64) 3 w w0.heap.size P0_7_ u9001_ l0_7) (hp0_7_0_5 : ∀ k_, P0_7_ k_ → ¬ P0_5_ k_) (h : latch_Latch_Plan.f a0_0 a0_1 l0_2 l0_3 a0_4 l0_5 a0_6 l0_7 = some (r1, r2, r3, r4, r5)) :
    Calls Try.prog 37 #[.pointer (some ⟨g, 0, none⟩)] w fun e w' => ∃ v2_ v4_ : Value, e = .returned (.int .i64 r1) ∧ Kd.R (Kd.int .i64) 3 w' w0.heap.size (fun k_ => ((P0_5_ k_ ∨ P0_7_ k_) ∨ w.heap.size ≤ k_) ∧ some k_ ≠ (v4_ : Value).ownBlock) v2_ r3 ∧ Kd.R (Kd.int .i64) 3 w' w0.heap.size (fun k_ => ((P0_5_ k_ ∨ P0_7_ k_) ∨ w.heap.size ≤ k_) ∧ some k_ ≠ (v2_ : Value).ownBlock) v4_ r5 ∧ w'.heap[g]? = some (.cells #[.int .i64 a0_0, .int .i64 a0_1, .slice A0_2 l0_2.length c0_2, .slice A0_3 l0_3.length c0_3, .int .i64 r2, v2_, .int .i64 r4, v4_] 86 (0, 0)) ∧ Below w0.heap.size w0 w' ∧ Kept w w' (fun k_ => (P0_5_ k_ ∨ P0_7_ k_) ∨ k_ = g) := by
 have HR0_2 := Goto.m0 hr0_2
 have HC0_2 := Goto.m0 hc0_2
 clear hr0_2 hc0_2
 have HR0_3 := Goto.m0 hr0_3
 have HC0_3 := Goto.m0 hc0_3
 clear hr0_3 hc0_3
 have HO0_5 := Goto.m0 (show Kd.R (Kd.int .i64) 3 w w0.heap.size (fun k_ => ((P0_5_ k_ ∨ P0_7_ k_) ∨ w.heap.size ≤ k_) ∧ some k_ ≠ (u9001_ : Value).ownBlock) u9000_ l0_5 from Kd.R_mono ho0_5 (fun k_ hk => ⟨(.inl (.inl hk)), fun e_ => hp0_5_0_7 k_ hk (ho0_7.1 k_ e_.symm)⟩))
 have HO0_7 := Goto.m0 (show Kd.R (Kd.int .i64) 3 w w0.heap.size (fun k_ => ((P0_5_ k_ ∨ P0_7_ k_) ∨ w.heap.size ≤ k_) ∧ some k_ ≠ (u9000_ : Value).ownBlock) u9001_ l0_7 from Kd.R_mono ho0_7 (fun k_ hk => ⟨(.inl (.inr hk)), fun e_ => hp0_7_0_5 k_ hk (ho0_5.1 k_ e_.symm)⟩))
 have BK0 := Goto.m0 hI
 have GE0 := Goto.m0 hG
 clear hI hG
 have HK := Goto.m0 (Kept.refl w (fun k_ => (P0_5_ k_ ∨ P0_7_ k_) ∨ k_ = g))
 have HW0 := Goto.m0 hB.size
 have HB := Goto.m0 hB
 clear hB
 have H : (some (a0_4, a0_4, l0_5, a0_6, l0_7)) = some (r1, r2, r3, r4, r5) := h
 clear h
 simp only [Option.some.injEq, Prod.mk.injEq] at H
 obtain ⟨rfl, rfl, rfl, rfl, rfl⟩ := H
 have hcz2_0 := Goto.bc0 BK0; have hcz2_1 := Goto.bc1 BK0; have hcz2_2 := Goto.bc2 BK0; have hcz2_3 := Goto.bc3 BK0; have hcz2_4 := Goto.bc4 BK0; have hcz2_5 := Goto.bc5 BK0; have hcz2_6 := Goto.bc6 BK0; have hcz2_7 := Goto.bc7 BK0; have hfz2_0 := blk_frozen BK0.out 0; have hfz2_1 := blk_frozen BK0.out 1; have hfz2_2 := blk_frozen BK0.out 2; have hfz2_3 := blk_frozen BK0.out 3; have hfz2_4 := blk_frozen BK0.out 4; have hfz2_5 := blk_frozen BK0.out 5; have hfz2_6 := blk_frozen BK0.out 6; have hfz2_7 := blk_frozen BK0.out 7
 go_enter Try.func37, Try.ntmps37
 go_wp2
 go_ret
 (try simp only [← exists_and_left])
 exact ⟨_, _, by first | rfl | (simp [errW_none, errW_some] <;> rfl) | (simp [*, errW_none, errW_some] <;> rfl), by (with_reducible repeat (first | apply Kd.R_alloc | apply Kd.R_drewN | apply Kd.R_drew)); exact HO0_5.out, by (with_reducible repeat (first | apply Kd.R_alloc | apply Kd.R_drewN | apply Kd.R_drew)); exact HO0_7.out, by (with_reducible repeat first | refine blk_drewN ?_ _ | refine blk_drew ?_ | refine blk_alloc ?_ _); exact BK0.out, by repeat (first | (with_reducible first | exact HB.out | apply below_alloc | apply pw_below_drewN | apply below_drew1 | refine below_set ?_ GE0.out) | exact HB.out), by repeat (first | (with_reducible first | exact HK.out | apply Kept.alloc | apply Kept.drewN | apply Kept.drew | refine Kept.setCell ?_ (.inl (.inr rfl)) _) | exact HK.out)⟩

/-! ### latch_Latch_AskPlan: function 38 -/
def latch_Latch_AskPlan.f (a0_0 : Int) (a0_1 : Int) (l0_2 : List (List Int)) (l0_3 : List (S44)) (a0_4 : Int) (l0_5 : List Int) (a0_6 : Int) (l0_7 : List Int) (a1 : Int) : Option (Option Int × Int × List Int × Int × List Int) := if a1 < 0 then (some (some 10, a0_4, l0_5, a0_6, l0_7)) else (if a1 ≥ (l0_2.length : Int) then (some (some 10, a0_4, l0_5, a0_6, l0_7)) else (some (none, a0_4, l0_5, a1, l0_7)))
set_option maxHeartbeats 8000000 in
set_option maxRecDepth 100000 in
theorem latch_Latch_AskPlan.calls (g : Nat) (a0_0 : Int) (a0_1 : Int) (A0_2 : Option Addr) (c0_2 : Nat) (l0_2 : List (List Int)) (A0_3 : Option Addr) (c0_3 : Nat) (l0_3 : List (S44)) (a0_4 : Int) (P0_5_ : Nat → Prop) (u9000_ : Value) (l0_5 : List Int) (a0_6 : Int) (P0_7_ : Nat → Prop) (u9001_ : Value) (l0_7 : List Int) (a1 : Int) (r1 : Option Int) (r2 : Int) (r3 : List Int) (r4 : Int) (r5 : List Int) (w0 w : World) (hI : w.heap[g]? = some (.cells #[.int .i64 a0_0, .int .i64 a0_1, .slice A0_2 l0_2.length c0_2, .slice A0_3 l0_3.length c0_3, .int .i64 a0_4, u9000_, .int .i64 a0_6, u9001_] 86 (0, 0))) (hG : w0.heap.size ≤ g) (hB : Below w0.heap.size w0 w) (hr0_2 : ∀ W_, Kept w W_ (fun k_ => (P0_5_ k_ ∨ P0_7_ k_) ∨ k_ = g) → Kd.C (Kd.slice 3 (Kd.int .i64)) W_ A0_2 l0_2.length l0_2) (hc0_2 : l0_2.length ≤ c0_2) (hr0_3 : ∀ W_, Kept w W_ (fun k_ => (P0_5_ k_ ∨ P0_7_ k_) ∨ k_ = g) → Kd.C k44 W_ A0_3 l0_3.length l0_3) (hc0_3 : l0_3.length ≤ c0_3) (ho0_5 : Kd.R (Kd.int .i64) 3 w w0.heap.size P0_5_ u9000_ l0_5) (hp0_5_0_7 : ∀ k_, P0_5_ k_ → ¬ P0_7_ k_) (ho0_7 : Kd.R (Kd.int .i64) 3 w w0.heap.size P0_7_ u9001_ l0_7) (hp0_7_0_5 : ∀ k_, P0_7_ k_ → ¬ P0_5_ k_) (h : latch_Latch_AskPlan.f a0_0 a0_1 l0_2 l0_3 a0_4 l0_5 a0_6 l0_7 a1 = some (r1, r2, r3, r4, r5)) :
    Calls Try.prog 38 #[.pointer (some ⟨g, 0, none⟩), .int .i64 a1] w fun e w' => ∃ v2_ v4_ : Value, e = .returned (errW r1) ∧ Kd.R (Kd.int .i64) 3 w' w0.heap.size (fun k_ => ((P0_5_ k_ ∨ P0_7_ k_) ∨ w.heap.size ≤ k_) ∧ some k_ ≠ (v4_ : Value).ownBlock) v2_ r3 ∧ Kd.R (Kd.int .i64) 3 w' w0.heap.size (fun k_ => ((P0_5_ k_ ∨ P0_7_ k_) ∨ w.heap.size ≤ k_) ∧ some k_ ≠ (v2_ : Value).ownBlock) v4_ r5 ∧ w'.heap[g]? = some (.cells #[.int .i64 a0_0, .int .i64 a0_1, .slice A0_2 l0_2.length c0_2, .slice A0_3 l0_3.length c0_3, .int .i64 r2, v2_, .int .i64 r4, v4_] 86 (0, 0)) ∧ Below w0.heap.size w0 w' ∧ Kept w w' (fun k_ => (P0_5_ k_ ∨ P0_7_ k_) ∨ k_ = g) := by
 have hu50 := Try.underlying50; have hu54 := Try.underlying54
 have HR0_2 := Goto.m0 hr0_2
 have HC0_2 := Goto.m0 hc0_2
 clear hr0_2 hc0_2
 have HR0_3 := Goto.m0 hr0_3
 have HC0_3 := Goto.m0 hc0_3
 clear hr0_3 hc0_3
 have HO0_5 := Goto.m0 (show Kd.R (Kd.int .i64) 3 w w0.heap.size (fun k_ => ((P0_5_ k_ ∨ P0_7_ k_) ∨ w.heap.size ≤ k_) ∧ some k_ ≠ (u9001_ : Value).ownBlock) u9000_ l0_5 from Kd.R_mono ho0_5 (fun k_ hk => ⟨(.inl (.inl hk)), fun e_ => hp0_5_0_7 k_ hk (ho0_7.1 k_ e_.symm)⟩))
 have HO0_7 := Goto.m0 (show Kd.R (Kd.int .i64) 3 w w0.heap.size (fun k_ => ((P0_5_ k_ ∨ P0_7_ k_) ∨ w.heap.size ≤ k_) ∧ some k_ ≠ (u9000_ : Value).ownBlock) u9001_ l0_7 from Kd.R_mono ho0_7 (fun k_ hk => ⟨(.inl (.inr hk)), fun e_ => hp0_7_0_5 k_ hk (ho0_5.1 k_ e_.symm)⟩))
 have BK0 := Goto.m0 hI
 have GE0 := Goto.m0 hG
 clear hI hG
 have HK := Goto.m0 (Kept.refl w (fun k_ => (P0_5_ k_ ∨ P0_7_ k_) ∨ k_ = g))
 have HW0 := Goto.m0 hB.size
 have HB := Goto.m0 hB
 clear hB
 have H : (if a1 < 0 then (some (some 10, a0_4, l0_5, a0_6, l0_7)) else (if a1 ≥ (l0_2.length : Int) then (some (some 10, a0_4, l0_5, a0_6, l0_7)) else (some (none, a0_4, l0_5, a1, l0_7)))) = some (r1, r2, r3, r4, r5) := h
 clear h
 by_cases c3 : a1 < 0
 ·
  rw [if_pos c3] at H
  have c3b0 : decide (a1 < 0) = true := decide_eq_true c3
  clear c3
  simp only [Option.some.injEq, Prod.mk.injEq] at H
  obtain ⟨rfl, rfl, rfl, rfl, rfl⟩ := H
  go_enter Try.func38, Try.ntmps38
  go_wp2
  go_ret
  (try simp only [← exists_and_left])
  exact ⟨_, _, by first | rfl | (simp [errW_none, errW_some] <;> rfl) | (simp [*, errW_none, errW_some] <;> rfl), by (with_reducible repeat (first | apply Kd.R_alloc | apply Kd.R_drewN | apply Kd.R_drew)); exact HO0_5.out, by (with_reducible repeat (first | apply Kd.R_alloc | apply Kd.R_drewN | apply Kd.R_drew)); exact HO0_7.out, by (with_reducible repeat first | refine blk_drewN ?_ _ | refine blk_drew ?_ | refine blk_alloc ?_ _); exact BK0.out, by repeat (first | (with_reducible first | exact HB.out | apply below_alloc | apply pw_below_drewN | apply below_drew1 | refine below_set ?_ GE0.out) | exact HB.out), by repeat (first | (with_reducible first | exact HK.out | apply Kept.alloc | apply Kept.drewN | apply Kept.drew | refine Kept.setCell ?_ (.inl (.inr rfl)) _) | exact HK.out)⟩
 ·
  rw [if_neg c3] at H
  have c3b0 : decide (a1 < 0) = false := decide_eq_false c3
  clear c3
  by_cases c4 : a1 ≥ (l0_2.length : Int)
  ·
   rw [if_pos c4] at H
   have c4b0 : decide ((l0_2.length : Int) ≤ a1) = true := decide_eq_true c4
   clear c4
   simp only [Option.some.injEq, Prod.mk.injEq] at H
   obtain ⟨rfl, rfl, rfl, rfl, rfl⟩ := H
   have hcz5_0 := Goto.bc0 BK0; have hcz5_1 := Goto.bc1 BK0; have hcz5_2 := Goto.bc2 BK0; have hcz5_3 := Goto.bc3 BK0; have hcz5_4 := Goto.bc4 BK0; have hcz5_5 := Goto.bc5 BK0; have hcz5_6 := Goto.bc6 BK0; have hcz5_7 := Goto.bc7 BK0; have hfz5_0 := blk_frozen BK0.out 0; have hfz5_1 := blk_frozen BK0.out 1; have hfz5_2 := blk_frozen BK0.out 2; have hfz5_3 := blk_frozen BK0.out 3; have hfz5_4 := blk_frozen BK0.out 4; have hfz5_5 := blk_frozen BK0.out 5; have hfz5_6 := blk_frozen BK0.out 6; have hfz5_7 := blk_frozen BK0.out 7
   go_enter Try.func38, Try.ntmps38
   go_wp2
   go_ret
   (try simp only [← exists_and_left])
   exact ⟨_, _, by first | rfl | (simp [errW_none, errW_some] <;> rfl) | (simp [*, errW_none, errW_some] <;> rfl), by (with_reducible repeat (first | apply Kd.R_alloc | apply Kd.R_drewN | apply Kd.R_drew)); exact HO0_5.out, by (with_reducible repeat (first | apply Kd.R_alloc | apply Kd.R_drewN | apply Kd.R_drew)); exact HO0_7.out, by (with_reducible repeat first | refine blk_drewN ?_ _ | refine blk_drew ?_ | refine blk_alloc ?_ _); exact BK0.out, by repeat (first | (with_reducible first | exact HB.out | apply below_alloc | apply pw_below_drewN | apply below_drew1 | refine below_set ?_ GE0.out) | exact HB.out), by repeat (first | (with_reducible first | exact HK.out | apply Kept.alloc | apply Kept.drewN | apply Kept.drew | refine Kept.setCell ?_ (.inl (.inr rfl)) _) | exact HK.out)⟩
  ·
   rw [if_neg c4] at H
   have c4b0 : decide ((l0_2.length : Int) ≤ a1) = false := decide_eq_false c4
   clear c4
   simp only [Option.some.injEq, Prod.mk.injEq] at H
   obtain ⟨rfl, rfl, rfl, rfl, rfl⟩ := H
   have hcz6_0 := Goto.bc0 BK0; have hcz6_1 := Goto.bc1 BK0; have hcz6_2 := Goto.bc2 BK0; have hcz6_3 := Goto.bc3 BK0; have hcz6_4 := Goto.bc4 BK0; have hcz6_5 := Goto.bc5 BK0; have hcz6_6 := Goto.bc6 BK0; have hcz6_7 := Goto.bc7 BK0; have hfz6_0 := blk_frozen BK0.out 0; have hfz6_1 := blk_frozen BK0.out 1; have hfz6_2 := blk_frozen BK0.out 2; have hfz6_3 := blk_frozen BK0.out 3; have hfz6_4 := blk_frozen BK0.out 4; have hfz6_5 := blk_frozen BK0.out 5; have hfz6_6 := blk_frozen BK0.out 6; have hfz6_7 := blk_frozen BK0.out 7
   go_enter Try.func38, Try.ntmps38
   go_wp2_with (first | ((with_reducible refine gate_store (t := 3) (p := 22) rfl ?_); refine store_event (t := 3) (p := 22) (v := ?vo_w7) (w1 := (w.setCell ⟨g, 6, none⟩ (.int .i64 a1))) ?hg ?ho ?hn ?hr ?_; (case ho => rfl); (case hg => rfl); (case hn => rfl); (case hr => first | (go_simp; done) | (go_simp; rfl)); intro w7 hw; have n0_ : Aside0 (Kd.R (Kd.int .i64) 3 w7 w0.heap.size (fun k_ => ((P0_5_ k_ ∨ P0_7_ k_) ∨ w.heap.size ≤ k_) ∧ some k_ ≠ (u9001_ : Value).ownBlock) u9000_ l0_5) := ⟨(by rw [hw]; exact (by (with_reducible repeat (first | apply Kd.R_alloc | apply Kd.R_drewN | apply Kd.R_drew)); exact Kd.R_mono (Kd.R_far (p := ⟨g, 6, none⟩) (Kd.R_types HO0_5.out BK0.out (by decide)) (fun _ hk => hk.2) (.int .i64 a1)) (fun _ hk => ⟨hk.1.1, hk.1.2⟩)))⟩; have n1_ : Aside0 (Kd.R (Kd.int .i64) 3 w7 w0.heap.size (fun k_ => ((P0_5_ k_ ∨ P0_7_ k_) ∨ w.heap.size ≤ k_) ∧ some k_ ≠ (u9000_ : Value).ownBlock) u9001_ l0_7) := ⟨(by rw [hw]; exact (by (with_reducible repeat (first | apply Kd.R_alloc | apply Kd.R_drewN | apply Kd.R_drew)); exact Kd.R_mono (Kd.R_far (p := ⟨g, 6, none⟩) (Kd.R_types HO0_7.out BK0.out (by decide)) (fun _ hk => hk.2) (.int .i64 a1)) (fun _ hk => ⟨hk.1.1, hk.1.2⟩)))⟩; have n2_ : Aside0 (w7.heap[g]? = some (.cells #[.int .i64 a0_0, .int .i64 a0_1, .slice A0_2 l0_2.length c0_2, .slice A0_3 l0_3.length c0_3, .int .i64 a0_4, u9000_, .int .i64 a1, u9001_] 86 (0, 0))) := ⟨(by rw [hw]; exact (Goto.bx BK0))⟩; have n3_ : Aside0 (Kept w w7 (fun k_ => (P0_5_ k_ ∨ P0_7_ k_) ∨ k_ = g)) := ⟨(by rw [hw]; exact (by repeat (first | (with_reducible first | exact HK.out | apply Kept.alloc | apply Kept.drewN | apply Kept.drew | refine Kept.setCell ?_ (.inl (.inr rfl)) _) | exact HK.out)))⟩; have n4_ : Aside0 (Below w0.heap.size w0 w7) := ⟨(by rw [hw]; exact (Goto.hx HB))⟩; clear hw; clear HO0_5; clear HO0_7; clear BK0; clear HK; clear HB; have HO0_5 := n0_; have HO0_7 := n1_; have BK0 := n2_; have HK := n3_; have HB := n4_; clear n0_ n1_ n2_ n3_ n4_))
   go_ret
   (try simp only [← exists_and_left])
   exact ⟨_, _, by first | rfl | (simp [errW_none, errW_some] <;> rfl) | (simp [*, errW_none, errW_some] <;> rfl), by (with_reducible repeat (first | apply Kd.R_alloc | apply Kd.R_drewN | apply Kd.R_drew)); exact HO0_5.out, by (with_reducible repeat (first | apply Kd.R_alloc | apply Kd.R_drewN | apply Kd.R_drew)); exact HO0_7.out, by (with_reducible repeat first | refine blk_drewN ?_ _ | refine blk_drew ?_ | refine blk_alloc ?_ _); exact BK0.out, by repeat (first | (with_reducible first | exact HB.out | apply below_alloc | apply pw_below_drewN | apply below_drew1 | refine below_set ?_ GE0.out) | exact HB.out), by repeat (first | (with_reducible first | exact HK.out | apply Kept.alloc | apply Kept.drewN | apply Kept.drew | refine Kept.setCell ?_ (.inl (.inr rfl)) _) | exact HK.out)⟩

/-! ### latch_Latch_AskLevel: function 39 -/
def latch_Latch_AskLevel.j0 : Nat → Int → Int → Bool → Int → Int → List (List Int) → List (S44) → Int → List Int → Int → List Int → Option (Option Int × Int × List Int × Int × List Int)
  | 0, _, _, _, _, _, _, _, _, _, _, _ => none
  | k + 1, x1, x2, x7, x1000, x1001, x1002, x1003, x1004, x1005, x1006, x1007 => if x7 = true then (some (some 13, x1004, x1005, x1006, x1007)) else (if x2 < 0 then (some (some 10, x1004, x1005, x1006, x1007)) else (if 0 ≤ x1 then (if x1 < (x1003.length : Int) then (if x2 ≥ (((rd_T44 x1003 x1).f2).length : Int) then (some (some 10, x1004, x1005, x1006, x1007)) else (if x1 < (x1007.length : Int) then (some (none, x1004, x1005, x1006, (x1007.set (x1 : Int).toNat x2))) else (none))) else (none)) else (none)))
def latch_Latch_AskLevel.f (k : Nat) (a0_0 : Int) (a0_1 : Int) (l0_2 : List (List Int)) (l0_3 : List (S44)) (a0_4 : Int) (l0_5 : List Int) (a0_6 : Int) (l0_7 : List Int) (a1 : Int) (a2 : Int) : Option (Option Int × Int × List Int × Int × List Int) := if a1 < 0 then (latch_Latch_AskLevel.j0 k a1 a2 true a0_0 a0_1 l0_2 l0_3 a0_4 l0_5 a0_6 l0_7) else (latch_Latch_AskLevel.j0 k a1 a2 (decide (a1 ≥ (l0_3.length : Int))) a0_0 a0_1 l0_2 l0_3 a0_4 l0_5 a0_6 l0_7)
theorem latch_Latch_AskLevel.mono_l : ∀ k, (∀ y0 y1 y2 y3 y4 y5 y6 y7 y8 y9 y10, LeO (latch_Latch_AskLevel.j0 k y0 y1 y2 y3 y4 y5 y6 y7 y8 y9 y10) (latch_Latch_AskLevel.j0 (k + 1) y0 y1 y2 y3 y4 y5 y6 y7 y8 y9 y10))
  | 0 => fun _ _ _ _ _ _ _ _ _ _ _ r h => by simp [latch_Latch_AskLevel.j0] at h
  | k + 1 => by
    have ih0 := latch_Latch_AskLevel.mono_l k
    · intro y0 y1 y2 y3 y4 y5 y6 y7 y8 y9 y10
      unfold latch_Latch_AskLevel.j0
      repeat' first
      | (with_reducible exact ih0 _ _ _ _ _ _ _ _ _ _ _)
      | (with_reducible exact LeO.refl _)
      | (with_reducible exact LeO.none _)
      | (with_reducible refine LeO.ite ?_ ?_)
      | (with_reducible refine LeO.bind ?_ (fun _ => ?_))
      | exact ih0 _ _ _ _ _ _ _ _ _ _ _
      | exact LeO.none _
      | refine LeO.ite ?_ ?_
      | refine LeO.bind ?_ (fun _ => ?_)
theorem latch_Latch_AskLevel.mono : ∀ a0 a1 a2 a3 a4 a5 a6 a7 a8 a9 k, LeO (latch_Latch_AskLevel.f k a0 a1 a2 a3 a4 a5 a6 a7 a8 a9) (latch_Latch_AskLevel.f (k + 1) a0 a1 a2 a3 a4 a5 a6 a7 a8 a9) := by
 intro a0 a1 a2 a3 a4 a5 a6 a7 a8 a9 k
 have ih0 := latch_Latch_AskLevel.mono_l k
 unfold latch_Latch_AskLevel.f
 repeat' first
   | (with_reducible exact ih0 _ _ _ _ _ _ _ _ _ _ _)
   | (with_reducible exact LeO.refl _)
   | (with_reducible exact LeO.none _)
   | (with_reducible refine LeO.ite ?_ ?_)
   | (with_reducible refine LeO.bind ?_ (fun _ => ?_))
   | exact ih0 _ _ _ _ _ _ _ _ _ _ _
   | exact LeO.none _
   | refine LeO.ite ?_ ?_
   | refine LeO.bind ?_ (fun _ => ?_)
set_option maxHeartbeats 8000000 in
set_option maxRecDepth 100000 in
theorem latch_Latch_AskLevel.calls (k : Nat) (g : Nat) (a0_0 : Int) (a0_1 : Int) (A0_2 : Option Addr) (c0_2 : Nat) (l0_2 : List (List Int)) (A0_3 : Option Addr) (c0_3 : Nat) (l0_3 : List (S44)) (a0_4 : Int) (P0_5_ : Nat → Prop) (u9000_ : Value) (l0_5 : List Int) (a0_6 : Int) (P0_7_ : Nat → Prop) (u9001_ : Value) (l0_7 : List Int) (a1 : Int) (a2 : Int) (r1 : Option Int) (r2 : Int) (r3 : List Int) (r4 : Int) (r5 : List Int) (w0 w : World) (hI : w.heap[g]? = some (.cells #[.int .i64 a0_0, .int .i64 a0_1, .slice A0_2 l0_2.length c0_2, .slice A0_3 l0_3.length c0_3, .int .i64 a0_4, u9000_, .int .i64 a0_6, u9001_] 86 (0, 0))) (hG : w0.heap.size ≤ g) (hB : Below w0.heap.size w0 w) (hr0_2 : ∀ W_, Kept w W_ (fun k_ => (P0_5_ k_ ∨ P0_7_ k_) ∨ k_ = g) → Kd.C (Kd.slice 3 (Kd.int .i64)) W_ A0_2 l0_2.length l0_2) (hc0_2 : l0_2.length ≤ c0_2) (hr0_3 : ∀ W_, Kept w W_ (fun k_ => (P0_5_ k_ ∨ P0_7_ k_) ∨ k_ = g) → Kd.C k44 W_ A0_3 l0_3.length l0_3) (hc0_3 : l0_3.length ≤ c0_3) (ho0_5 : Kd.R (Kd.int .i64) 3 w w0.heap.size P0_5_ u9000_ l0_5) (hp0_5_0_7 : ∀ k_, P0_5_ k_ → ¬ P0_7_ k_) (ho0_7 : Kd.R (Kd.int .i64) 3 w w0.heap.size P0_7_ u9001_ l0_7) (hp0_7_0_5 : ∀ k_, P0_7_ k_ → ¬ P0_5_ k_) (h : latch_Latch_AskLevel.f k a0_0 a0_1 l0_2 l0_3 a0_4 l0_5 a0_6 l0_7 a1 a2 = some (r1, r2, r3, r4, r5)) :
    Calls Try.prog 39 #[.pointer (some ⟨g, 0, none⟩), .int .i64 a1, .int .i64 a2] w fun e w' => ∃ v2_ v4_ : Value, e = .returned (errW r1) ∧ Kd.R (Kd.int .i64) 3 w' w0.heap.size (fun k_ => ((P0_5_ k_ ∨ P0_7_ k_) ∨ w.heap.size ≤ k_) ∧ some k_ ≠ (v4_ : Value).ownBlock) v2_ r3 ∧ Kd.R (Kd.int .i64) 3 w' w0.heap.size (fun k_ => ((P0_5_ k_ ∨ P0_7_ k_) ∨ w.heap.size ≤ k_) ∧ some k_ ≠ (v2_ : Value).ownBlock) v4_ r5 ∧ w'.heap[g]? = some (.cells #[.int .i64 a0_0, .int .i64 a0_1, .slice A0_2 l0_2.length c0_2, .slice A0_3 l0_3.length c0_3, .int .i64 r2, v2_, .int .i64 r4, v4_] 86 (0, 0)) ∧ Below w0.heap.size w0 w' ∧ Kept w w' (fun k_ => (P0_5_ k_ ∨ P0_7_ k_) ∨ k_ = g) := by
 have hu50 := Try.underlying50; have hu54 := Try.underlying54
 have HR0_2 := Goto.m0 hr0_2
 have HC0_2 := Goto.m0 hc0_2
 clear hr0_2 hc0_2
 have HR0_3 := Goto.m0 hr0_3
 have HC0_3 := Goto.m0 hc0_3
 clear hr0_3 hc0_3
 have HO0_5 := Goto.m0 (show Kd.R (Kd.int .i64) 3 w w0.heap.size (fun k_ => ((P0_5_ k_ ∨ P0_7_ k_) ∨ w.heap.size ≤ k_) ∧ some k_ ≠ (u9001_ : Value).ownBlock) u9000_ l0_5 from Kd.R_mono ho0_5 (fun k_ hk => ⟨(.inl (.inl hk)), fun e_ => hp0_5_0_7 k_ hk (ho0_7.1 k_ e_.symm)⟩))
 have HO0_7 := Goto.m0 (show Kd.R (Kd.int .i64) 3 w w0.heap.size (fun k_ => ((P0_5_ k_ ∨ P0_7_ k_) ∨ w.heap.size ≤ k_) ∧ some k_ ≠ (u9000_ : Value).ownBlock) u9001_ l0_7 from Kd.R_mono ho0_7 (fun k_ hk => ⟨(.inl (.inr hk)), fun e_ => hp0_7_0_5 k_ hk (ho0_5.1 k_ e_.symm)⟩))
 have BK0 := Goto.m0 hI
 have GE0 := Goto.m0 hG
 clear hI hG
 have HK := Goto.m0 (Kept.refl w (fun k_ => (P0_5_ k_ ∨ P0_7_ k_) ∨ k_ = g))
 have HW0 := Goto.m0 hB.size
 have HB := Goto.m0 hB
 clear hB
 have H : (if a1 < 0 then (latch_Latch_AskLevel.j0 k a1 a2 true a0_0 a0_1 l0_2 l0_3 a0_4 l0_5 a0_6 l0_7) else (latch_Latch_AskLevel.j0 k a1 a2 (decide (a1 ≥ (l0_3.length : Int))) a0_0 a0_1 l0_2 l0_3 a0_4 l0_5 a0_6 l0_7)) = some (r1, r2, r3, r4, r5) := h
 clear h
 have HC4 := Goto.m0 H
 clear H
 go_enter Try.func39, Try.ntmps39
 go_upto_region 1 with (fail)
 go_cut [7] (fun v7 wc => ∃ (kq : Nat) (x7_3 : Bool), v7 = .bool x7_3 ∧ Aside0 (latch_Latch_AskLevel.j0 kq a1 a2 x7_3 a0_0 a0_1 l0_2 l0_3 a0_4 l0_5 a0_6 l0_7 = some (r1, r2, r3, r4, r5)) ∧ Aside0 (kq ≤ k) ∧ Aside0 (Kd.R (Kd.int .i64) 3 wc w0.heap.size (fun k_ => ((P0_5_ k_ ∨ P0_7_ k_) ∨ w.heap.size ≤ k_) ∧ some k_ ≠ (u9001_ : Value).ownBlock) u9000_ l0_5) ∧ Aside0 (Kd.R (Kd.int .i64) 3 wc w0.heap.size (fun k_ => ((P0_5_ k_ ∨ P0_7_ k_) ∨ w.heap.size ≤ k_) ∧ some k_ ≠ (u9000_ : Value).ownBlock) u9001_ l0_7) ∧ Aside0 (wc.heap[g]? = some (.cells #[.int .i64 a0_0, .int .i64 a0_1, (.slice A0_2 l0_2.length c0_2), (.slice A0_3 l0_3.length c0_3), .int .i64 a0_4, u9000_, .int .i64 a0_6, u9001_] 86 (0, 0))) ∧ Aside0 (Kept w wc (fun k_ => (P0_5_ k_ ∨ P0_7_ k_) ∨ k_ = g)) ∧ Aside0 (Below w0.heap.size w0 wc))
 case first =>
  have H := HC4.out; clear HC4
  by_cases c5 : a1 < 0
  ·
   rw [if_pos c5] at H
   have c5b0 : decide (a1 < 0) = true := decide_eq_true c5
   clear c5
   (first | rw [c5b0] | (simp only [i64_w, i32_w]; rw [c5b0]) | skip)
   have H' := Goto.m0 H
   clear H
   go_wp2
   go_meet
   case rel => exact ⟨_, (true), (by first | rfl | (simp; done) | (simp [*]; done)), H', ⟨by first | omega | exact Nat.le_refl _⟩, ⟨by (with_reducible repeat (first | apply Kd.R_alloc | apply Kd.R_drewN | apply Kd.R_drew)); exact HO0_5.out⟩, ⟨by (with_reducible repeat (first | apply Kd.R_alloc | apply Kd.R_drewN | apply Kd.R_drew)); exact HO0_7.out⟩, ⟨Goto.bx BK0⟩, ⟨by repeat (first | (with_reducible first | exact HK.out | apply Kept.alloc | apply Kept.drewN | apply Kept.drew | refine Kept.setCell ?_ (.inl (.inr rfl)) _) | exact HK.out)⟩, ⟨Goto.hx HB⟩⟩
  ·
   rw [if_neg c5] at H
   have c5b0 : decide (a1 < 0) = false := decide_eq_false c5
   clear c5
   (first | rw [c5b0] | (simp only [i64_w, i32_w]; rw [c5b0]) | skip)
   have H' := Goto.m0 H
   clear H; have hcz6_0 := Goto.bc0 BK0; have hcz6_1 := Goto.bc1 BK0; have hcz6_2 := Goto.bc2 BK0; have hcz6_3 := Goto.bc3 BK0; have hcz6_4 := Goto.bc4 BK0; have hcz6_5 := Goto.bc5 BK0; have hcz6_6 := Goto.bc6 BK0; have hcz6_7 := Goto.bc7 BK0; have hfz6_0 := blk_frozen BK0.out 0; have hfz6_1 := blk_frozen BK0.out 1; have hfz6_2 := blk_frozen BK0.out 2; have hfz6_3 := blk_frozen BK0.out 3; have hfz6_4 := blk_frozen BK0.out 4; have hfz6_5 := blk_frozen BK0.out 5; have hfz6_6 := blk_frozen BK0.out 6; have hfz6_7 := blk_frozen BK0.out 7
   go_wp2
   go_meet
   case rel => exact ⟨_, (decide (a1 ≥ (l0_3.length : Int))), (by first | rfl | (simp; done) | (simp [*]; done)), H', ⟨by first | omega | exact Nat.le_refl _⟩, ⟨by (with_reducible repeat (first | apply Kd.R_alloc | apply Kd.R_drewN | apply Kd.R_drew)); exact HO0_5.out⟩, ⟨by (with_reducible repeat (first | apply Kd.R_alloc | apply Kd.R_drewN | apply Kd.R_drew)); exact HO0_7.out⟩, ⟨Goto.bx BK0⟩, ⟨by repeat (first | (with_reducible first | exact HK.out | apply Kept.alloc | apply Kept.drewN | apply Kept.drew | refine Kept.setCell ?_ (.inl (.inr rfl)) _) | exact HK.out)⟩, ⟨Goto.hx HB⟩⟩
 case rest =>
  clear HC4; try clear p2; try clear c3; try clear c5; try clear c5b0; try clear hcz6_0; try clear hcz6_1; try clear hcz6_2; try clear hcz6_3; try clear hcz6_4; try clear hcz6_5; try clear hcz6_6; try clear hcz6_7; try clear hfz6_0; try clear hfz6_1; try clear hfz6_2; try clear hfz6_3; try clear hfz6_4; try clear hfz6_5; try clear hfz6_6; try clear hfz6_7
  obtain ⟨kq, x7_3, rfl, HA, HJ3, HO_1005, HO_1007, BK0, HK, HB⟩ := hcut
  cases kq with
  | zero => exact absurd HA.out (by simp [latch_Latch_AskLevel.j0])
  | succ kj3 =>
   have H := HA.out; clear HA
   simp only [latch_Latch_AskLevel.j0] at H
   by_cases c7 : x7_3 = true
   ·
    subst c7
    rw [if_pos rfl] at H
    simp only [Option.some.injEq, Prod.mk.injEq] at H
    obtain ⟨rfl, rfl, rfl, rfl, rfl⟩ := H
    go_wp2
    go_ret
    (try simp only [← exists_and_left])
    exact ⟨_, _, by first | rfl | (simp [errW_none, errW_some] <;> rfl) | (simp [*, errW_none, errW_some] <;> rfl), by (with_reducible repeat (first | apply Kd.R_alloc | apply Kd.R_drewN | apply Kd.R_drew)); exact HO_1005.out, by (with_reducible repeat (first | apply Kd.R_alloc | apply Kd.R_drewN | apply Kd.R_drew)); exact HO_1007.out, by (with_reducible repeat first | refine blk_drewN ?_ _ | refine blk_drew ?_ | refine blk_alloc ?_ _); exact BK0.out, by repeat (first | (with_reducible first | exact HB.out | apply below_alloc | apply pw_below_drewN | apply below_drew1 | refine below_set ?_ GE0.out) | exact HB.out), by repeat (first | (with_reducible first | exact HK.out | apply Kept.alloc | apply Kept.drewN | apply Kept.drew | refine Kept.setCell ?_ (.inl (.inr rfl)) _) | exact HK.out)⟩
   ·
    replace c7 := Bool.eq_false_iff.mpr c7
    subst c7
    rw [if_neg (show ¬ (false = true) by decide)] at H
    by_cases c8 : a2 < 0
    ·
     rw [if_pos c8] at H
     have c8b0 : decide (a2 < 0) = true := decide_eq_true c8
     clear c8
     simp only [Option.some.injEq, Prod.mk.injEq] at H
     obtain ⟨rfl, rfl, rfl, rfl, rfl⟩ := H
     go_wp2
     go_ret
     (try simp only [← exists_and_left])
     exact ⟨_, _, by first | rfl | (simp [errW_none, errW_some] <;> rfl) | (simp [*, errW_none, errW_some] <;> rfl), by (with_reducible repeat (first | apply Kd.R_alloc | apply Kd.R_drewN | apply Kd.R_drew)); exact HO_1005.out, by (with_reducible repeat (first | apply Kd.R_alloc | apply Kd.R_drewN | apply Kd.R_drew)); exact HO_1007.out, by (with_reducible repeat first | refine blk_drewN ?_ _ | refine blk_drew ?_ | refine blk_alloc ?_ _); exact BK0.out, by repeat (first | (with_reducible first | exact HB.out | apply below_alloc | apply pw_below_drewN | apply below_drew1 | refine below_set ?_ GE0.out) | exact HB.out), by repeat (first | (with_reducible first | exact HK.out | apply Kept.alloc | apply Kept.drewN | apply Kept.drew | refine Kept.setCell ?_ (.inl (.inr rfl)) _) | exact HK.out)⟩
    ·
     rw [if_neg c8] at H
     have c8b0 : decide (a2 < 0) = false := decide_eq_false c8
     clear c8
     by_cases c9 : 0 ≤ a1
     ·
      rw [if_pos c9] at H
      have c9b0 : decide (0 ≤ a1) = true := decide_eq_true c9
      clear c9
      by_cases c10 : a1 < (l0_3.length : Int)
      ·
       rw [if_pos c10] at H
       have c10b0 : decide (a1 < (l0_3.length : Int)) = true := decide_eq_true c10
       clear c10
       by_cases c11 : a2 ≥ (((rd_T44 l0_3 a1).f2).length : Int)
       ·
        rw [if_pos c11] at H
        have c11b0 : decide ((((rd_T44 l0_3 a1).f2).length : Int) ≤ a2) = true := decide_eq_true c11
        clear c11
        simp only [Option.some.injEq, Prod.mk.injEq] at H
        obtain ⟨rfl, rfl, rfl, rfl, rfl⟩ := H
        have hcz12_0 := Goto.bc0 BK0; have hcz12_1 := Goto.bc1 BK0; have hcz12_2 := Goto.bc2 BK0; have hcz12_3 := Goto.bc3 BK0; have hcz12_4 := Goto.bc4 BK0; have hcz12_5 := Goto.bc5 BK0; have hcz12_6 := Goto.bc6 BK0; have hcz12_7 := Goto.bc7 BK0; have hfz12_0 := blk_frozen BK0.out 0; have hfz12_1 := blk_frozen BK0.out 1; have hfz12_2 := blk_frozen BK0.out 2; have hfz12_3 := blk_frozen BK0.out 3; have hfz12_4 := blk_frozen BK0.out 4; have hfz12_5 := blk_frozen BK0.out 5; have hfz12_6 := blk_frozen BK0.out 6; have hfz12_7 := blk_frozen BK0.out 7
        have p214 : 0 ≤ (a1 : Int) := of_decide_eq_true (by first | (with_reducible assumption) | assumption)
        have q214 : a1 < (l0_3.length : Int) := of_decide_eq_true (by first | (with_reducible assumption) | assumption)
        obtain ⟨ad214, A214_2, c214_2, A214_3, c214_3, e214, hx214_0, hx214_1, hx214_2, hx214_3, hx214_4, hx214_5, hx214_6, hx214_7, hx214_8, hx214_9, hl214_2, hi214_2, hl214_3, hi214_3⟩ := at_T44 (Kd.C_kept_now HR0_3.out HK.out) a1 p214 q214
        cases e214
        have HR214_2 := Goto.m0 hi214_2
        have HC214_2 := Goto.m0 hl214_2
        clear hi214_2 hl214_2
        have HR214_3 := Goto.m0 hi214_3
        have HC214_3 := Goto.m0 hl214_3
        clear hi214_3 hl214_3; replace p214 := eq_true p214; replace q214 := eq_true q214
        go_wp2
        go_ret
        (try simp only [← exists_and_left])
        exact ⟨_, _, by first | rfl | (simp [errW_none, errW_some] <;> rfl) | (simp [*, errW_none, errW_some] <;> rfl), by (with_reducible repeat (first | apply Kd.R_alloc | apply Kd.R_drewN | apply Kd.R_drew)); exact HO_1005.out, by (with_reducible repeat (first | apply Kd.R_alloc | apply Kd.R_drewN | apply Kd.R_drew)); exact HO_1007.out, by (with_reducible repeat first | refine blk_drewN ?_ _ | refine blk_drew ?_ | refine blk_alloc ?_ _); exact BK0.out, by repeat (first | (with_reducible first | exact HB.out | apply below_alloc | apply pw_below_drewN | apply below_drew1 | refine below_set ?_ GE0.out) | exact HB.out), by repeat (first | (with_reducible first | exact HK.out | apply Kept.alloc | apply Kept.drewN | apply Kept.drew | refine Kept.setCell ?_ (.inl (.inr rfl)) _) | exact HK.out)⟩
       ·
        rw [if_neg c11] at H
        have c11b0 : decide ((((rd_T44 l0_3 a1).f2).length : Int) ≤ a2) = false := decide_eq_false c11
        clear c11
        by_cases c13 : a1 < (l0_7.length : Int)
        ·
         rw [if_pos c13] at H
         have c13b0 : decide (a1 < (l0_7.length : Int)) = true := decide_eq_true c13
         clear c13
         obtain ⟨y215, hy215⟩ : ∃ y_ : List Int, y_ = (l0_7.set (a1 : Int).toNat a2) := ⟨_, rfl⟩
         replace H : (some (none, a0_4, l0_5, a0_6, y215)) = some (r1, r2, r3, r4, r5) := by first | (rw [hy215]; with_reducible exact H) | (have H2_ := (Option.bind_some _ _).symm.trans H; rw [hy215]; with_reducible exact H2_) | (have H2_ := (Option.bind_some _ _).symm.trans H; with_reducible exact H2_) | with_reducible exact H | (rw [hy215]; exact H) | exact H
         have Ny215 := Goto.m0 hy215
         clear hy215
         simp only [Option.some.injEq, Prod.mk.injEq] at H
         obtain ⟨rfl, rfl, rfl, rfl, rfl⟩ := H
         have hcz15_0 := Goto.bc0 BK0; have hcz15_1 := Goto.bc1 BK0; have hcz15_2 := Goto.bc2 BK0; have hcz15_3 := Goto.bc3 BK0; have hcz15_4 := Goto.bc4 BK0; have hcz15_5 := Goto.bc5 BK0; have hcz15_6 := Goto.bc6 BK0; have hcz15_7 := Goto.bc7 BK0; have hfz15_0 := blk_frozen BK0.out 0; have hfz15_1 := blk_frozen BK0.out 1; have hfz15_2 := blk_frozen BK0.out 2; have hfz15_3 := blk_frozen BK0.out 3; have hfz15_4 := blk_frozen BK0.out 4; have hfz15_5 := blk_frozen BK0.out 5; have hfz15_6 := blk_frozen BK0.out 6; have hfz15_7 := blk_frozen BK0.out 7
         have p214 : 0 ≤ (a1 : Int) := of_decide_eq_true (by first | (with_reducible assumption) | assumption)
         have q214 : a1 < (l0_3.length : Int) := of_decide_eq_true (by first | (with_reducible assumption) | assumption)
         obtain ⟨ad214, A214_2, c214_2, A214_3, c214_3, e214, hx214_0, hx214_1, hx214_2, hx214_3, hx214_4, hx214_5, hx214_6, hx214_7, hx214_8, hx214_9, hl214_2, hi214_2, hl214_3, hi214_3⟩ := at_T44 (Kd.C_kept_now HR0_3.out HK.out) a1 p214 q214
         cases e214
         have HR214_2 := Goto.m0 hi214_2
         have HC214_2 := Goto.m0 hl214_2
         clear hi214_2 hl214_2
         have HR214_3 := Goto.m0 hi214_3
         have HC214_3 := Goto.m0 hl214_3
         clear hi214_3 hl214_3; replace p214 := eq_true p214; replace q214 := eq_true q214
         have p14 : 0 ≤ (a1 : Int) := of_decide_eq_true (by first | (with_reducible assumption) | assumption)
         have q14 : (a1 : Int) < ((l0_7.length : Int) : Int) := of_decide_eq_true (by first | (with_reducible assumption) | assumption)
         obtain ⟨go14, co14, eo14, gb14, gl14, cl14, HG14⟩ := Kd.R_form HO_1007.out (by omega)
         (first | cases eo14 | (injection eo14 with ea_ en_ ec_; (first | subst ea_ | (injection ea_ with ea_; subst ea_)); subst ec_; clear en_))
         have GB14 := Goto.m0 gb14
         have GG14 := Goto.m0 HG14
         clear gb14 gl14 HG14
         have HMgo14 := Goto.m0 (show ((P0_5_ go14 ∨ P0_7_ go14) ∨ w.heap.size ≤ go14) from (HO_1007.out.1 _ rfl).1)
         obtain ⟨hx14_0, hf14_0⟩ := Kd.R_celln 0 HO_1007.out (a1 : Int) p14 q14
         replace p14 := eq_true p14; replace q14 := eq_true q14
         have HP16 := Kd.R_putg HO_1007.out (a1 : Int) a2
         go_wp2_with (first | ((with_reducible refine gate_store (t := 3) (p := 46) rfl ?_); refine store_event (t := 3) (p := 46) (v := ?vo_w17) (w1 := (wc.setCell ⟨go14, (a1 : Int).toNat, none⟩ (.int .i64 a2))) ?hg ?ho ?hn ?hr ?_; (case ho => rfl); (case hg => rfl); (case hn => rfl); (case hr => first | (go_simp; done) | (go_simp; rfl)); intro w17 hw; have hg : wc.grownBy w17 (some go14) := (by rw [hw]; exact HP16.2); have hp_ : Kd.R (Kd.int .i64) 3 w17 w0.heap.size (fun k_ => ((P0_5_ k_ ∨ P0_7_ k_) ∨ w.heap.size ≤ k_) ∧ some k_ ≠ (u9000_ : Value).ownBlock) (.slice (some ⟨go14, 0, none⟩) l0_7.length co14) y215 := (by rw [hw, Ny215.out]; exact HP16.1); clear HP16; replace HO_1005 := Goto.m0 (Kd.R_after (v := (.slice (some ⟨go14, 0, none⟩) l0_7.length co14)) (v1 := (.slice (some ⟨go14, 0, none⟩) l0_7.length co14)) (ok := (fun k_ => ((P0_5_ k_ ∨ P0_7_ k_) ∨ w.heap.size ≤ k_))) (by (with_reducible repeat (first | apply Kd.R_alloc | apply Kd.R_drewN | apply Kd.R_drew)); exact HO_1005.out) hg (.inl rfl)); replace BK0 := Goto.m0 (blk_grown (g := g) (o := .cells #[.int .i64 a0_0, .int .i64 a0_1, .slice A0_2 l0_2.length c0_2, .slice (some ad214) l0_3.length c0_3, .int .i64 a0_4, u9000_, .int .i64 a0_6, .slice (some ⟨go14, 0, none⟩) l0_7.length co14] 86 (0, 0)) (Goto.bx BK0) hg (Kd.R_ne HO_1007.out BK0.out (by decide))); replace HB := Goto.m0 ((by rw [hw]; exact below_set (HB.out) GB14.out : Below w0.heap.size w0 w17)); replace HK := Goto.m0 (Kept.of_grown (S := (fun k_ => (P0_5_ k_ ∨ P0_7_ k_) ∨ k_ = g)) hg (by repeat (first | (with_reducible first | exact HK.out | apply Kept.alloc | apply Kept.drewN | apply Kept.drew | refine Kept.setCell ?_ (.inl (.inr rfl)) _) | exact HK.out)) (fun k_ e_ => Or.imp_left Or.inl ((HO_1007.out.1 k_ e_).1))); replace HO_1007 := Goto.m0 (hp_); clear hg hw hp_))
         go_ret
         (try simp only [← exists_and_left])
         exact ⟨_, _, by first | rfl | (simp [errW_none, errW_some] <;> rfl) | (simp [*, errW_none, errW_some] <;> rfl), by (with_reducible repeat (first | apply Kd.R_alloc | apply Kd.R_drewN | apply Kd.R_drew)); exact HO_1005.out, by (with_reducible repeat (first | apply Kd.R_alloc | apply Kd.R_drewN | apply Kd.R_drew)); exact HO_1007.out, by (with_reducible repeat first | refine blk_drewN ?_ _ | refine blk_drew ?_ | refine blk_alloc ?_ _); exact BK0.out, by repeat (first | (with_reducible first | exact HB.out | apply below_alloc | apply pw_below_drewN | apply below_drew1 | refine below_set ?_ GE0.out) | exact HB.out), by repeat (first | (with_reducible first | exact HK.out | apply Kept.alloc | apply Kept.drewN | apply Kept.drew | refine Kept.setCell ?_ (.inl (.inr rfl)) _) | exact HK.out)⟩
        ·
         rw [if_neg c13] at H
         exact absurd H (by simp)
      ·
       rw [if_neg c10] at H
       exact absurd H (by simp)
     ·
      rw [if_neg c9] at H
      exact absurd H (by simp)

end Go.Proofs.Ytbhfkhcedjgpdaa.P
