/- Printed by a program of this workplace (a turned copy of the kit's optional print), out of the translation; not trusted: Lean checks it. -/
import Derived.Test.YtbhfkhcedjgpdaaPx0
import Derived.Test.YtbhfkhcedjgpdaaPx14
namespace Go.Proofs.Ytbhfkhcedjgpdaa.P
open Go.RowKit Go.Proofs.YtbhfkhcedjgpdaaW.PrintWords Go.Proofs.YtbhfkhcedjgpdaaW.PrintLast Go.Proofs.YtbhfkhcedjgpdaaW.PrintMore
attribute [local go_sem] max2_int min2_int max_two min_two max_three min_three max_four min_four   -- for this text's walks alone
set_option linter.unusedVariables false
set_option linter.unusedSimpArgs false

/-! ### tontineref15_Routes_Offer: function 21 -/
def tontineref15_Routes_Offer.f (k : Nat) (a0_0 : Int) (a0_1 : Int) (l0_2 : List (List Int)) (l0_3 : List (S44)) (l0_4 : List Int) (a1 : Int) : Option (List Int × List Int) := (tontineref15_Routes_Now.f k a0_0 a0_1 l0_2 l0_3 l0_4 a1).bind fun bt334 => (if (bt334.1.length : Int) > 0 then (if ([] : List Int).length + bt334.2.length < 17592186044416 then ((some (([] : List Int) ++ bt334.2 : List Int)).bind fun y340 => (if 0 ≤ a1 then (if a1 < (y340.length : Int) then (if a1 < (l0_3.length : Int) then (if (((rd_T44 l0_3 a1).f1).length : Int) = 0 then (none) else (some (bt334.1, (y340.set (a1 : Int).toNat (Int.tmod (wrap64 ((rd y340 a1) + 1)) (((rd_T44 l0_3 a1).f1).length : Int)))))) else (none)) else (none)) else (none))) else (none)) else (some (bt334.1, bt334.2)))
theorem tontineref15_Routes_Offer.mono : ∀ a0 a1 a2 a3 a4 a5 k, LeO (tontineref15_Routes_Offer.f k a0 a1 a2 a3 a4 a5) (tontineref15_Routes_Offer.f (k + 1) a0 a1 a2 a3 a4 a5) := by
 intro a0 a1 a2 a3 a4 a5 k
 unfold tontineref15_Routes_Offer.f
 repeat' first
   | (with_reducible exact tontineref15_Routes_Now.mono _ _ _ _ _ _ _)
   | (with_reducible exact LeO.refl _)
   | (with_reducible exact LeO.none _)
   | (with_reducible refine LeO.ite ?_ ?_)
   | (with_reducible refine LeO.bind ?_ (fun _ => ?_))
   | exact tontineref15_Routes_Now.mono _ _ _ _ _ _ _
   | exact LeO.none _
   | refine LeO.ite ?_ ?_
   | refine LeO.bind ?_ (fun _ => ?_)
def tontineref15_Routes_Offer.T4 : Bool × List (List Nat × List Nat) := (true, [([], []), ([], []), ([], []), ([], []), ([2, 3], [2, 3]), ([4], [4]), ([5], [5]), ([], []), ([7], [7]), ([8], [8]), ([9], [9]), ([10], [10]), ([], []), ([11, 12], [11, 12]), ([13], [13]), ([14], [14]), ([15], [15]), ([6, 16], [6, 16]), ([0, 1, 0, 1, 2, 3, 4, 5, 6, 7, 8, 9, 10, 11, 12, 13, 14, 15, 16, 17], [0, 1]), ([18, 17, 0, 1, 2, 3, 4, 5, 6, 7, 8, 9, 10, 11, 12, 13, 14, 15, 16, 17], [17, 18])])
def tontineref15_Routes_Offer.B4 : List Nat := [0, 0, 0, 0, 12, 28, 60, 0, 128, 384, 896, 1920, 0, 8064, 16256, 32640, 65408, 131068, 262143, 524287]
theorem tontineref15_Routes_Offer.tab4 : rtab .any (opsOf Try.f21 4) = tontineref15_Routes_Offer.T4 := by kernel_rfl
theorem tontineref15_Routes_Offer.bits4 : waitsOk tontineref15_Routes_Offer.T4.2 tontineref15_Routes_Offer.B4 = true := by kernel_rfl
set_option maxHeartbeats 8000000 in
set_option maxRecDepth 100000 in
theorem tontineref15_Routes_Offer.calls (k : Nat) (g : Nat) (a0_0 : Int) (a0_1 : Int) (A0_2 : Option Addr) (c0_2 : Nat) (l0_2 : List (List Int)) (P0_3_ : Nat → Prop) (A0_3 : Option Addr) (c0_3 : Nat) (l0_3 : List (S44)) (P0_4_ : Nat → Prop) (u9000_ : Value) (l0_4 : List Int) (a1 : Int) (r1 : List Int) (r2 : List Int) (w0 w : World) (hI : w.heap[g]? = some (.cells #[.int .i64 a0_0, .int .i64 a0_1, .slice A0_2 l0_2.length c0_2, .slice A0_3 l0_3.length c0_3, u9000_] 76 (0, 0))) (hG : w0.heap.size ≤ g) (hB : Below w0.heap.size w0 w) (hr0_2 : ∀ W_, Kept w W_ (fun k_ => (P0_4_ k_) ∨ k_ = g) → Kd.C (Kd.slice 3 (Kd.int .i64)) W_ A0_2 l0_2.length l0_2) (hc0_2 : l0_2.length ≤ c0_2) (hs0_3 : Kd.V k44 44 w w0.heap.size (fun k_ => P0_3_ k_ ∧ some k_ ≠ (u9000_ : Value).ownBlock ∧ k_ ≠ g) (.slice A0_3 l0_3.length c0_3) l0_3) (ho0_4 : Kd.R (Kd.int .i64) 3 w w0.heap.size P0_4_ u9000_ l0_4) (h : tontineref15_Routes_Offer.f k a0_0 a0_1 l0_2 l0_3 l0_4 a1 = some (r1, r2)) :
    Calls Try.prog 21 #[.pointer (some ⟨g, 0, none⟩), .int .i64 a1] w fun e w' => ∃ v0_ v1_ : Value, e = .returned (v0_) ∧ Kd.V (Kd.int .i64) 3 w' w0.heap.size (fun k_ => ((P0_4_ k_ ∨ P0_3_ k_) ∨ w.heap.size ≤ k_) ∧ some k_ ≠ (v1_ : Value).ownBlock) v0_ r1 ∧ Kd.R (Kd.int .i64) 3 w' w0.heap.size (fun k_ => (P0_4_ k_ ∨ w.heap.size ≤ k_)) v1_ r2 ∧ w'.heap[g]? = some (.cells #[.int .i64 a0_0, .int .i64 a0_1, .slice A0_2 l0_2.length c0_2, .slice A0_3 l0_3.length c0_3, v1_] 76 (0, 0)) ∧ Below w0.heap.size w0 w' ∧ Kept w w' (fun k_ => (P0_4_ k_) ∨ k_ = g) := by
 have HR0_2 := Goto.m0 hr0_2
 have HC0_2 := Goto.m0 hc0_2
 clear hr0_2 hc0_2
 have HO0_3 := Goto.m0 (show Kd.V k44 44 w w0.heap.size (fun k_ => ((P0_4_ k_ ∨ P0_3_ k_) ∨ w.heap.size ≤ k_) ∧ some k_ ≠ (u9000_ : Value).ownBlock ∧ k_ ≠ g) (.slice A0_3 l0_3.length c0_3) l0_3 from Kd.V_mono hs0_3 (fun k_ hk => ⟨.inl (.inr hk.1), hk.2⟩))
 have HO0_4 := Goto.m0 (show Kd.R (Kd.int .i64) 3 w w0.heap.size (fun k_ => (P0_4_ k_ ∨ w.heap.size ≤ k_)) u9000_ l0_4 from Kd.R_mono ho0_4 (fun k_ hk => (.inl hk)))
 have BK0 := Goto.m0 hI
 have GE0 := Goto.m0 hG
 clear hI hG
 have HK := Goto.m0 (Kept.refl w (fun k_ => (P0_4_ k_) ∨ k_ = g))
 have HW0 := Goto.m0 hB.size
 have HB := Goto.m0 hB
 clear hB
 have H : ((tontineref15_Routes_Now.f k a0_0 a0_1 l0_2 l0_3 l0_4 a1).bind fun bt334 => (if (bt334.1.length : Int) > 0 then (if ([] : List Int).length + bt334.2.length < 17592186044416 then ((some (([] : List Int) ++ bt334.2 : List Int)).bind fun y340 => (if 0 ≤ a1 then (if a1 < (y340.length : Int) then (if a1 < (l0_3.length : Int) then (if (((rd_T44 l0_3 a1).f1).length : Int) = 0 then (none) else (some (bt334.1, (y340.set (a1 : Int).toNat (Int.tmod (wrap64 ((rd y340 a1) + 1)) (((rd_T44 l0_3 a1).f1).length : Int)))))) else (none)) else (none)) else (none))) else (none)) else (some (bt334.1, bt334.2)))) = some (r1, r2) := h
 clear h
 replace H := Option.bind_eq_some_iff.mp H
 obtain ⟨⟨t334, t337⟩, A30, H⟩ := H
 replace H : (if (t334.length : Int) > 0 then (if ([] : List Int).length + t337.length < 17592186044416 then ((some (([] : List Int) ++ t337 : List Int)).bind fun y340 => (if 0 ≤ a1 then (if a1 < (y340.length : Int) then (if a1 < (l0_3.length : Int) then (if (((rd_T44 l0_3 a1).f1).length : Int) = 0 then (none) else (some (t334, (y340.set (a1 : Int).toNat (Int.tmod (wrap64 ((rd y340 a1) + 1)) (((rd_T44 l0_3 a1).f1).length : Int)))))) else (none)) else (none)) else (none))) else (none)) else (some (t334, t337))) = some (r1, r2) := H
 have A3 := Goto.m0 A30
 clear A30
 by_cases c4 : (t334.length : Int) > 0
 ·
  rw [if_pos c4] at H
  have c4b0 : decide (0 < (t334.length : Int)) = true := decide_eq_true c4
  have c4b1 : decide (0 < t334.length) = true := decide_eq_true (by omega)
  clear c4
  by_cases c5 : ([] : List Int).length + t337.length < 17592186044416
  ·
   rw [if_pos c5] at H
   have LMc5 := Goto.m0 c5
   clear c5
   obtain ⟨y340, hy340⟩ : ∃ y_ : List Int, y_ = (([] : List Int) ++ t337) := ⟨_, rfl⟩
   replace H : (if 0 ≤ a1 then (if a1 < (y340.length : Int) then (if a1 < (l0_3.length : Int) then (if (((rd_T44 l0_3 a1).f1).length : Int) = 0 then (none) else (some (t334, (y340.set (a1 : Int).toNat (Int.tmod (wrap64 ((rd y340 a1) + 1)) (((rd_T44 l0_3 a1).f1).length : Int)))))) else (none)) else (none)) else (none)) = some (r1, r2) := by first | (rw [hy340]; with_reducible exact H) | (have H2_ := (Option.bind_some _ _).symm.trans H; rw [hy340]; with_reducible exact H2_) | (have H2_ := (Option.bind_some _ _).symm.trans H; with_reducible exact H2_) | with_reducible exact H | (rw [hy340]; exact H) | exact H
   have Ny340 := Goto.m0 hy340
   clear hy340
   by_cases c6 : 0 ≤ a1
   ·
    rw [if_pos c6] at H
    have c6b0 : decide (0 ≤ a1) = true := decide_eq_true c6
    clear c6
    by_cases c7 : a1 < (y340.length : Int)
    ·
     rw [if_pos c7] at H
     have c7b0 : decide (a1 < (y340.length : Int)) = true := decide_eq_true c7
     clear c7
     by_cases c8 : a1 < (l0_3.length : Int)
     ·
      rw [if_pos c8] at H
      have c8b0 : decide (a1 < (l0_3.length : Int)) = true := decide_eq_true c8
      clear c8
      by_cases c9 : (((rd_T44 l0_3 a1).f1).length : Int) = 0
      ·
       rw [if_pos c9] at H
       exact absurd H (by simp)
      ·
       rw [if_neg c9] at H
       have c9b0 : ((((rd_T44 l0_3 a1).f1).length : Int) == 0) = false := beq_eq_false_iff_ne.mpr c9
       have c9b1 : ((((rd_T44 l0_3 a1).f1).length : Int) != 0) = true := bne_iff_ne.mpr c9
       have c9b2 : ¬ (((rd_T44 l0_3 a1).f1) = []) := fun h_ => c9 (by rw [h_]; rfl)
       obtain ⟨y345, hy345⟩ : ∃ y_ : List Int, y_ = (y340.set (a1 : Int).toNat (Int.tmod (wrap64 ((rd y340 a1) + 1)) (((rd_T44 l0_3 a1).f1).length : Int))) := ⟨_, rfl⟩
       replace H : (some (t334, y345)) = some (r1, r2) := by first | (rw [hy345]; with_reducible exact H) | (have H2_ := (Option.bind_some _ _).symm.trans H; rw [hy345]; with_reducible exact H2_) | (have H2_ := (Option.bind_some _ _).symm.trans H; with_reducible exact H2_) | with_reducible exact H | (rw [hy345]; exact H) | exact H
       have Ny345 := Goto.m0 hy345
       clear hy345
       simp only [Option.some.injEq, Prod.mk.injEq] at H
       obtain ⟨rfl, rfl⟩ := H
       go_enter Try.func21, Try.ntmps21
       try go_wp2_with (first | ((with_reducible refine gate_callee (f := 19) rfl ?_); refine goesL_ (some 9) rfl rfl Try.func19 (by kernel_rfl) rfl #[.pointer (some ⟨g, 0, none⟩), .int .i64 a1] rfl (by (try simp only [List.map_toArray, List.map_cons, List.map_nil]); first | done | rfl | (simp only [List.length_drop, List.length_take]; rfl)) ?_; (with_reducible refine (tontineref15_Routes_Now.calls k g a0_0 a0_1 A0_2 c0_2 l0_2 (fun k_ => (((P0_4_ k_ ∨ P0_3_ k_) ∨ w.heap.size ≤ k_) ∧ (some k_ ≠ (u9000_ : Value).ownBlock ∧ k_ ≠ g))) A0_3 c0_3 l0_3 (fun k_ => some k_ = (u9000_ : Value).ownBlock) u9000_ l0_4 a1 t334 t337 w0 _ ?side1 ?side2 ?side3 ?side4 ?side5 ?side6 ?side7 A3.out).mono ?_); (case side1 => exact by (with_reducible repeat first | refine blk_drewN ?_ _ | refine blk_drew ?_ | refine blk_alloc ?_ _); exact BK0.out); (case side2 => exact GE0.out); (case side3 => repeat (first | (with_reducible first | exact HB.out | apply below_alloc | apply pw_below_drewN | apply below_drew1 | refine below_set ?_ GE0.out) | exact HB.out)); (case side4 => exact Kd.C_kept_call HR0_2.out (by repeat (first | (with_reducible first | exact HK.out | apply Kept.alloc | apply Kept.drewN | apply Kept.drew | refine Kept.setCell ?_ (.inl (.inr rfl)) _) | exact HK.out)) (fun k_ hs_ => Or.elim hs_ (fun hs_ => (fun e_ => Or.imp_left Or.inl ((HO0_4.out.1 k_ e_.symm))) hs_) (fun e_ => .inl (.inr e_)))); (case side5 => exact HC0_2.out); (case side6 => exact Kd.V_mono (HO0_3.out) (fun k_ hk_ => ⟨hk_, hk_.2.1, hk_.2.2⟩)); (case side7 => exact Kd.R_tight rfl HO0_4.out); rintro e w11 ⟨v335, v338, rfl, ho0, ho1, hi, hb, hkp⟩; refine ⟨_, rfl, ?_⟩; have n0_ := Goto.m0 (hi); have n1_ := Goto.m0 (Kd.V_mono (ok' := fun k_ => ((P0_4_ k_ ∨ P0_3_ k_) ∨ w.heap.size ≤ k_) ∧ k_ ≠ g ∧ some k_ ≠ (v338 : Value).ownBlock) (Kd.V_keptB (HO0_3.out) hkp (fun k_ hk_ hs_ => Or.elim hs_ (fun hs_ => (hk_.2.1) hs_) (fun e_ => (hk_.2.2) e_))) (fun k_ hk_ => ⟨hk_.1.1, hk_.1.2.2, fun e_ => Or.elim (ho1.1 k_ e_.symm) (fun hs_ => hk_.2.1 (.inl hs_)) (fun hn_ => Nat.not_le.2 hk_.2.2 hn_)⟩)); have n2_ := Goto.m0 (Kd.V_mono (ok' := fun k_ => ((P0_4_ k_ ∨ P0_3_ k_) ∨ w.heap.size ≤ k_) ∧ some k_ ≠ (v338 : Value).ownBlock ∧ k_ ≠ g) ho0 (fun k_ hk_ => ⟨Or.elim hk_.1 (fun hs_ => Or.elim hs_ (fun hs_ => (Or.imp_left (fun h_ => (.inl h_)) ((HO0_4.out.1 k_ (hs_).symm)))) (fun hs_ => hs_.1)) (fun hn_ => (.inr (Nat.le_trans (by first | exact HK.out.1 | exact (show Kept w _ (fun k_ => (P0_4_ k_) ∨ k_ = g) from by repeat (first | (with_reducible first | exact HK.out | apply Kept.alloc | apply Kept.drewN | apply Kept.drew | refine Kept.setCell ?_ (.inl (.inr rfl)) _) | exact HK.out)).1) hn_))), hk_.2, Or.elim hk_.1 (fun hs_ => Or.elim hs_ (fun hs_ => fun e_ => (Kd.R_ne HO0_4.out BK0.out (by decide)) (by rw [← e_]; exact hs_)) (fun hs_ => hs_.2.2)) (fun hn_ => (Kd.freshB (g := g) (o := .cells #[.int .i64 a0_0, .int .i64 a0_1, .slice A0_2 l0_2.length c0_2, .slice A0_3 l0_3.length c0_3, u9000_] 76 (0, 0)) (Goto.bx BK0) k_ hn_))⟩)); have n3_ := Goto.m0 (Kd.R_mono (ok' := fun k_ => (P0_4_ k_ ∨ w.heap.size ≤ k_)) ho1 (fun k_ hk_ => Or.elim hk_ (fun hs_ => (HO0_4.out.1 k_ (hs_).symm)) (fun hn_ => (.inr (Nat.le_trans (by first | exact HK.out.1 | exact (show Kept w _ (fun k_ => (P0_4_ k_) ∨ k_ = g) from by repeat (first | (with_reducible first | exact HK.out | apply Kept.alloc | apply Kept.drewN | apply Kept.drew | refine Kept.setCell ?_ (.inl (.inr rfl)) _) | exact HK.out)).1) hn_))))); have n4_ := Goto.m0 (Kept.then_ (S := (fun k_ => (P0_4_ k_) ∨ k_ = g)) (by repeat (first | (with_reducible first | exact HK.out | apply Kept.alloc | apply Kept.drewN | apply Kept.drew | refine Kept.setCell ?_ (.inl (.inr rfl)) _) | exact HK.out)) hkp (fun k_ hs_ => Or.elim hs_ (fun hs_ => (fun e_ => Or.imp_left Or.inl ((HO0_4.out.1 k_ e_.symm))) hs_) (fun e_ => .inl (.inr e_)))); have n5_ := Goto.m0 (hb); clear BK0; clear HO0_3; clear HK; clear HB; clear HO0_4; have BK0 := n0_; have HO0_3 := n1_; have HO336 := n2_; have HO339 := n3_; have HK := n4_; have HB := n5_; clear n0_ n1_ n2_ n3_ n4_ n5_; (try clear hb); (try clear hkp); (try clear ho0); (try clear ho1); obtain ⟨Ao12, co12, eo12⟩ := Kd.V_slice HO336.out; subst eo12; have hcz13_0 := Goto.bc0 BK0; have hcz13_1 := Goto.bc1 BK0; have hcz13_2 := Goto.bc2 BK0; have hcz13_3 := Goto.bc3 BK0; have hcz13_4 := Goto.bc4 BK0; have hfz13_0 := Goto.bf BK0 0; have hfz13_1 := Goto.bf BK0 1; have hfz13_2 := Goto.bf BK0 2; have hfz13_3 := Goto.bf BK0 3; have hfz13_4 := Goto.bf BK0 4; obtain ⟨Ao15, co15, eo15⟩ := Kd.R_slice HO339.out; subst eo15) | ((with_reducible refine gate_builtin (b := .append) (xs := #[.const (.slice none 0 0), .tmp 16]) rfl ?_); at_builtin; refine Kd.R_append_rows (Kd.int .i64) (w0 := w0) w0.heap.size rfl (.const (.slice none 0 0)) (.tmp 16) 26 3 (.int .i64 0) 8 rfl Try.underlying26 info3 rfl (by decide) (by omega) (.slice none 0 0) ([] : List Int) t337 _ _ _ (fun k_ => (P0_4_ k_ ∨ w.heap.size ≤ k_) ∧ some k_ ≠ (.slice Ao15 t337.length co15 : Value).ownBlock) (fun _ => False) rfl rfl ?aO ?aR (fun _ _ h => h) (fun _ h => h.elim) ?aF ?aB ?aS ?aL ?_; (case aR => repeat (first | exact (Kd.R_reads' HO339.out).2.2 | (with_reducible refine Kd.C_alloc ?_ _) | (with_reducible refine Kd.C_drewN ?_ _) | (with_reducible refine Kd.C_drew ?_))); (case aB => exact (Goto.hx HB)); (case aF => exact (fun k_ hk => ⟨(.inr (Nat.le_trans (by first | exact HK.out.1 | exact (show Kept w _ (fun k_ => (P0_4_ k_) ∨ k_ = g) from by repeat (first | (with_reducible first | exact HK.out | apply Kept.alloc | apply Kept.drewN | apply Kept.drew | refine Kept.setCell ?_ (.inl (.inr rfl)) _) | exact HK.out)).1) hk)), Kd.fresh' (Kd.R_lt (Goto.rk HO339)) k_ hk⟩)); (case aO => exact ((Kd.R_nil _ _ _ _ (fun k_ => (P0_4_ k_ ∨ w.heap.size ≤ k_) ∧ some k_ ≠ (.slice Ao15 t337.length co15 : Value).ownBlock)))); (case aS => exact (below_size (Goto.hx HB))); (case aL => have := LMc5.out; omega); intro v341 w14 ho hb hg hat; rw [← Ny340.out] at ho; have HO342 := Goto.m0 (ho); replace BK0 := Goto.m0 (blk_grown (g := g) (o := .cells #[.int .i64 a0_0, .int .i64 a0_1, .slice A0_2 l0_2.length c0_2, .slice A0_3 l0_3.length c0_3, .slice Ao15 t337.length co15] 76 (0, 0)) (Goto.bx BK0) hg (by simp [Value.ownBlock])); replace HO0_3 := Goto.m0 (Kd.V_afterv (Kd.V_apart_nil (by (with_reducible repeat (first | apply Kd.V_alloc | apply Kd.V_drewN | apply Kd.V_drew)); exact HO0_3.out)) hg hat); replace HO336 := Goto.m0 (Kd.V_afterv (Kd.V_apart_nil (by (with_reducible repeat (first | apply Kd.V_alloc | apply Kd.V_drewN | apply Kd.V_drew)); exact HO336.out)) hg hat); replace HO339 := Goto.m0 (Kd.R_after (Kd.R_apart_nil (Goto.rk HO339)) hg hat); replace HB := Goto.m0 (hb); replace HK := Goto.m0 (Kept.of_grown (S := (fun k_ => (P0_4_ k_) ∨ k_ = g)) hg (by repeat (first | (with_reducible first | exact HK.out | apply Kept.alloc | apply Kept.drewN | apply Kept.drew | refine Kept.setCell ?_ (.inl (.inr rfl)) _) | exact HK.out)) (fun k_ e_ => by simp [Value.ownBlock] at e_)); clear ho hb hg hat))
       replace HO0_3 := Goto.m0 (Kd.V_drew HO0_3.out); replace HO336 := Goto.m0 (Kd.V_drew HO336.out); replace HO339 := Goto.m0 (Kd.R_drew HO339.out); replace HO342 := Goto.m0 (Kd.R_drew HO342.out); replace BK0 := Goto.m0 (blk_drew BK0.out); replace HK := Goto.m0 (Kept.drew HK.out); replace HB := Goto.m0 (below_drew1 HB.out)
       obtain ⟨Ao17, co17, eo17⟩ := Kd.R_slice HO342.out
       (first | subst eo17 | (injection eo17 with f1_ f2_ f3_; have f4_ := f1_.symm; have f5_ := f3_.symm; clear f1_ f2_ f3_; subst f4_; subst f5_))
       have p343 : 0 ≤ (a1 : Int) := Goto.od
       have q343 : a1 < (y340.length : Int) := Goto.od
       obtain ⟨ad343, e343, hx343_0⟩ := Kd.at_int (Kd.R_reads' HO342.out).2.2 a1 p343 q343
       cases e343
       replace p343 := eq_true p343; replace q343 := eq_true q343
       have p344 : 0 ≤ (a1 : Int) := Goto.od
       have q344 : a1 < (l0_3.length : Int) := Goto.od
       obtain ⟨ad344, A344_2, c344_2, A344_3, c344_3, e344, hx344_0, hx344_1, hx344_2, hx344_3, hx344_4, hx344_5, hx344_6, hx344_7, hx344_8, hx344_9, hl344_2, hi344_2, hl344_3, hi344_3⟩ := at_T44 (Kd.V_reads' HO0_3.out).2.2 a1 p344 q344
       cases e344
       obtain ⟨ce344, hce344, hMe344, hcc344⟩ := Kd.V_get HO0_3.out z44 a1 p344 (by first | exact q344 | exact of_decide_eq_true (by first | (with_reducible assumption) | assumption) | (have e_ := (Kd.V_reads' HO0_3.out).1; omega))
       obtain ⟨ua344_2, uc344_2, ua344_3, uc344_3, rfl, ul344_2, ge344_2, ul344_3, ge344_3⟩ := k44_openF hMe344
       have hv344_2 := hcc344 2 _ rfl
       rw [add_field _ _ 2 (by omega)] at hv344_2
       replace hv344_2 := Option.some.inj (hv344_2.symm.trans hx344_2)
       injection hv344_2 with hva_ hvn_ hvc_
       rw [hva_] at ge344_2
       rw [hvc_] at ul344_2
       have HL344_2 := Goto.m0 (show Kd.V (Kd.slice 3 (Kd.int .i64)) 26 _ w0.heap.size _ _ ((rd_T44 l0_3 a1).f1) from Kd.V_mk ul344_2 ge344_2)
       clear hva_ hvn_ hvc_ ge344_2 ul344_2
       have hv344_3 := hcc344 3 _ rfl
       rw [add_field _ _ 3 (by omega)] at hv344_3
       replace hv344_3 := Option.some.inj (hv344_3.symm.trans hx344_3)
       injection hv344_3 with hva_ hvn_ hvc_
       rw [hva_] at ge344_3
       rw [hvc_] at ul344_3
       have HL344_3 := Goto.m0 (show Kd.V (Kd.int .i64) 3 _ w0.heap.size _ _ ((rd_T44 l0_3 a1).f2) from Kd.V_mk ul344_3 ge344_3)
       clear hva_ hvn_ hvc_ ge344_3 ul344_3; clear hcc344 hce344
       have HR344_2 := Goto.m0 hi344_2
       have HC344_2 := Goto.m0 hl344_2
       clear hi344_2 hl344_2
       have HR344_3 := Goto.m0 hi344_3
       have HC344_3 := Goto.m0 hl344_3
       clear hi344_3 hl344_3; replace p344 := eq_true p344; replace q344 := eq_true q344
       have p10 : 0 ≤ (a1 : Int) := Goto.od
       have q10 : (a1 : Int) < ((y340.length : Int) : Int) := Goto.od
       obtain ⟨go10, co10, eo10, gb10, gl10, cl10, HG10⟩ := Kd.R_form HO342.out (by omega)
       (first | cases eo10 | (injection eo10 with ea_ en_ ec_; (first | subst ea_ | (injection ea_ with ea_; subst ea_)); subst ec_; clear en_))
       have GB10 := Goto.m0 gb10
       have GG10 := Goto.m0 HG10
       clear gb10 gl10 HG10
       have HMgo10 := Goto.m0 (show (P0_4_ go10 ∨ w.heap.size ≤ go10) from (HO342.out.1 _ rfl).1)
       (first | simp only [add_plain] at hx343_0 | skip)
       obtain ⟨hx10_0, hf10_0⟩ := Kd.R_celln 0 HO342.out (a1 : Int) p10 q10
       replace p10 := eq_true p10; replace q10 := eq_true q10
       have HP18 := Kd.R_putn HO342.out (a1 : Int) (Int.tmod (wrap64 ((rd y340 a1) + 1)) (((rd_T44 l0_3 a1).f1).length : Int))
       rw [← Ny345.out] at HP18
       have HQ18 := Goto.m0 HP18
       clear HP18
       refine start_ (n := 20) (S := fun w' => w'.cell? ⟨g, 0, none⟩ = some (.int .i64 a0_0) ∧ w'.cell? ⟨g, 1, none⟩ = some (.int .i64 a0_1) ∧ w'.cell? ⟨g, 2, none⟩ = some (.slice A0_2 l0_2.length c0_2) ∧ w'.cell? ⟨g, 3, none⟩ = some (.slice (some ad344) l0_3.length c0_3) ∧ w'.cell? ⟨g, 4, none⟩ = some (.slice Ao15 t337.length co15) ∧ w'.cell? ⟨go10, (a1).toNat, none⟩ = some (.int .i64 (rd y340 a1)) ∧ w'.cell? (ad344.add ((a1).toNat * 10)) = some (.int .i64 ((rd_T44 l0_3 a1).f0.f0)) ∧ w'.cell? ⟨(ad344.add ((a1).toNat * 10)).block, (ad344.add ((a1).toNat * 10)).off + 1, none⟩ = some (.int .u64 ((rd_T44 l0_3 a1).f0.f1)) ∧ w'.cell? ⟨(ad344.add ((a1).toNat * 10)).block, (ad344.add ((a1).toNat * 10)).off + 2, none⟩ = some (.slice A344_2 ((rd_T44 l0_3 a1).f1).length c344_2) ∧ w'.cell? ⟨(ad344.add ((a1).toNat * 10)).block, (ad344.add ((a1).toNat * 10)).off + 3, none⟩ = some (.slice A344_3 ((rd_T44 l0_3 a1).f2).length c344_3) ∧ w'.cell? ⟨(ad344.add ((a1).toNat * 10)).block, (ad344.add ((a1).toNat * 10)).off + 4, none⟩ = some (.int .i64 ((rd_T44 l0_3 a1).f3)) ∧ w'.cell? ⟨(ad344.add ((a1).toNat * 10)).block, (ad344.add ((a1).toNat * 10)).off + 5, none⟩ = some (.int .i64 ((rd_T44 l0_3 a1).f4)) ∧ w'.cell? ⟨(ad344.add ((a1).toNat * 10)).block, (ad344.add ((a1).toNat * 10)).off + 6, none⟩ = some (.int .i64 ((rd_T44 l0_3 a1).f5)) ∧ w'.cell? ⟨(ad344.add ((a1).toNat * 10)).block, (ad344.add ((a1).toNat * 10)).off + 7, none⟩ = some (.int .i64 ((rd_T44 l0_3 a1).f6)) ∧ w'.cell? ⟨(ad344.add ((a1).toNat * 10)).block, (ad344.add ((a1).toNat * 10)).off + 8, none⟩ = some (.int .i64 ((rd_T44 l0_3 a1).f7)) ∧ w'.cell? ⟨(ad344.add ((a1).toNat * 10)).block, (ad344.add ((a1).toNat * 10)).off + 9, none⟩ = some (.int .i64 ((rd_T44 l0_3 a1).f8))) (ds := [19]) (.replicate 20 false) (by kernel_rfl) rfl rfl ⟨(blk_cell BK0.out 0).trans rfl, (blk_cell BK0.out 1).trans rfl, (blk_cell BK0.out 2).trans rfl, (blk_cell BK0.out 3).trans rfl, (blk_cell BK0.out 4).trans rfl, hx343_0, hx344_0, hx344_1, hx344_2, hx344_3, hx344_4, hx344_5, hx344_6, hx344_7, hx344_8, hx344_9⟩ (fun hHeld => ?_); refine with_tabW tontineref15_Routes_Offer.tab4 tontineref15_Routes_Offer.bits4 (fun HT_ HW_ => ?_)
       generalize w14.drew = w16 at HO0_3 HO336 HO339 HO342 BK0 HK HB GG10 HL344_2 HL344_3 HQ18 HR344_2 HR344_3 hf10_0 hx10_0 hx343_0 hx344_0 hx344_1 hx344_2 hx344_3 hx344_4 hx344_5 hx344_6 hx344_7 hx344_8 hx344_9 hHeld ⊢
       refine Goto.pu 0 18 20 1 ?_
       refine Goto.pu 1 19 20 3 ?_
       refine Goto.pu 2 20 20 7 ?_
       refine Goto.pu 3 21 20 15 ?_
       refine Goto.pu 4 22 20 31 ?_
       refine Goto.pu 7 25 20 159 ?_
       refine Goto.pu 8 26 20 415 ?_
       refine Goto.pu 9 27 20 927 ?_
       refine Goto.pu 10 28 20 1951 ?_
       refine Goto.pu 12 30 20 6047 ?_
       refine take_ (i := 5) (N := some 23) (v := ?_) (a' := ?_) (Goto.bs 20 6079) rfl rfl (take_ofW HT_.out HW_.out (by kernel_rfl)) (fun _ _ _ h => h) (Or.inl ⟨by rfl, ?_⟩) hHeld ?_ ?_
       rotate_left
       ·
        rintro w' ⟨s0, s1, s2, s3, s4, s5, s6, s7, s8, s9, s10, s11, s12, s13, s14, s15⟩
        go_simp
        with_reducible rfl
       rotate_left
       ·
        exact Goto.ap
       refine Goto.pu 6 24 20 6143 ?_
       refine take_ (i := 11) (N := some 29) (v := ?_) (a' := ?_) (Goto.bs 20 8191) rfl rfl (take_ofW HT_.out HW_.out (by kernel_rfl)) (fun _ _ _ h => h) (Or.inl ⟨by rfl, ?_⟩) hHeld ?_ ?_
       rotate_left
       ·
        rintro w' ⟨s0, s1, s2, s3, s4, s5, s6, s7, s8, s9, s10, s11, s12, s13, s14, s15⟩
        go_simp
        with_reducible rfl
       rotate_left
       ·
        exact Goto.ap
       refine Goto.pu 13 31 20 16383 ?_
       refine Goto.pu 14 32 20 32767 ?_
       refine take_ (i := 15) (N := some 33) (v := ?_) (a' := ?_) (Goto.bs 20 65535) rfl rfl (take_ofW HT_.out HW_.out (by kernel_rfl)) (fun _ _ _ h => h) (Or.inl ⟨by rfl, ?_⟩) hHeld ?_ ?_
       rotate_left
       ·
        rintro w' ⟨s0, s1, s2, s3, s4, s5, s6, s7, s8, s9, s10, s11, s12, s13, s14, s15⟩
        go_simp
        with_reducible rfl
       rotate_left
       ·
        exact Goto.ap
       refine Goto.pu 16 34 20 131071 ?_
       refine Goto.pu 17 35 20 262143 ?_
       refine Goto.pu 18 36 20 524287 ?_
       refine last_ (i := 19) (N := none) (Goto.bs 20 1048575) rfl rfl (one_of HT_.out (by kernel_rfl)) (by decide) (fun K hK => ?_)
       refine skip_ (w1 := ?_) (by rfl) rfl ?_ ?_
       rotate_left
       ·
        go_simp
        rfl
       refine hK.out _ _ ?_
       clear hK K
       refine done_ (done_of HT_.out (by kernel_rfl)) ?_
       have n0_ : Aside0 (Kd.V k44 44 (w16.setCell ⟨go10, (a1 : Int).toNat, none⟩ (.int .i64 (Int.tmod (wrap64 ((rd y340 a1) + 1)) (((rd_T44 l0_3 a1).f1).length : Int)))) w0.heap.size (fun k_ => ((P0_4_ k_ ∨ P0_3_ k_) ∨ w.heap.size ≤ k_) ∧ some k_ ≠ (.slice Ao15 t337.length co15 : Value).ownBlock ∧ some k_ ≠ (.slice (some ⟨go10, 0, none⟩) y340.length co17 : Value).ownBlock ∧ k_ ≠ g) (.slice (some ad344) l0_3.length c0_3) l0_3) := ⟨by (with_reducible repeat (first | apply Kd.V_alloc | apply Kd.V_drewN | apply Kd.V_drew)); exact Kd.V_mono (Kd.V_far (p := ⟨go10, (a1 : Int).toNat, none⟩) (Kd.V_mono HO0_3.out (fun k_ hk => (⟨hk, fun e_ => hk.2 (by rw [e_]; rfl)⟩ : _ ∧ k_ ≠ go10))) (fun _ hk => hk.2) (.int .i64 (Int.tmod (wrap64 ((rd y340 a1) + 1)) (((rd_T44 l0_3 a1).f1).length : Int)))) (fun _ hk => ⟨hk.1.1.1, ⟨hk.1.1.2.2, ⟨hk.1.2, hk.1.1.2.1⟩⟩⟩)⟩
       have n1_ : Aside0 (Kd.V (Kd.int .i64) 3 (w16.setCell ⟨go10, (a1 : Int).toNat, none⟩ (.int .i64 (Int.tmod (wrap64 ((rd y340 a1) + 1)) (((rd_T44 l0_3 a1).f1).length : Int)))) w0.heap.size (fun k_ => ((P0_4_ k_ ∨ P0_3_ k_) ∨ w.heap.size ≤ k_) ∧ some k_ ≠ (.slice Ao15 t337.length co15 : Value).ownBlock ∧ some k_ ≠ (.slice (some ⟨go10, 0, none⟩) y340.length co17 : Value).ownBlock ∧ k_ ≠ g) (.slice Ao12 t334.length co12) t334) := ⟨by (with_reducible repeat (first | apply Kd.V_alloc | apply Kd.V_drewN | apply Kd.V_drew)); exact Kd.V_mono (Kd.V_far (p := ⟨go10, (a1 : Int).toNat, none⟩) (Kd.V_mono HO336.out (fun k_ hk => (⟨hk, fun e_ => hk.2 (by rw [e_]; rfl)⟩ : _ ∧ k_ ≠ go10))) (fun _ hk => hk.2) (.int .i64 (Int.tmod (wrap64 ((rd y340 a1) + 1)) (((rd_T44 l0_3 a1).f1).length : Int)))) (fun _ hk => ⟨hk.1.1.1, ⟨hk.1.1.2.1, ⟨hk.1.2, hk.1.1.2.2⟩⟩⟩)⟩
       have n2_ : Aside0 (Kd.R (Kd.int .i64) 3 (w16.setCell ⟨go10, (a1 : Int).toNat, none⟩ (.int .i64 (Int.tmod (wrap64 ((rd y340 a1) + 1)) (((rd_T44 l0_3 a1).f1).length : Int)))) w0.heap.size (fun k_ => (P0_4_ k_ ∨ w.heap.size ≤ k_) ∧ some k_ ≠ (.slice (some ⟨go10, 0, none⟩) y340.length co17 : Value).ownBlock) (.slice Ao15 t337.length co15) t337) := ⟨by (with_reducible repeat (first | apply Kd.R_alloc | apply Kd.R_drewN | apply Kd.R_drew)); exact Kd.R_mono (Kd.R_far (p := ⟨go10, (a1 : Int).toNat, none⟩) (Kd.R_mono HO339.out (fun k_ hk => (⟨hk, fun e_ => hk.2 (by rw [e_]; rfl)⟩ : _ ∧ k_ ≠ go10))) (fun _ hk => hk.2) (.int .i64 (Int.tmod (wrap64 ((rd y340 a1) + 1)) (((rd_T44 l0_3 a1).f1).length : Int)))) (fun _ hk => ⟨hk.1.1, hk.1.2⟩)⟩
       have n3_ : Aside0 (Kd.R (Kd.int .i64) 3 (w16.setCell ⟨go10, (a1 : Int).toNat, none⟩ (.int .i64 (Int.tmod (wrap64 ((rd y340 a1) + 1)) (((rd_T44 l0_3 a1).f1).length : Int)))) w0.heap.size (fun k_ => (P0_4_ k_ ∨ w.heap.size ≤ k_) ∧ some k_ ≠ (.slice Ao15 t337.length co15 : Value).ownBlock) (.slice (some ⟨go10, 0, none⟩) y340.length co17) y345) := ⟨by (with_reducible repeat (first | apply Kd.R_alloc | apply Kd.R_drewN | apply Kd.R_drew)); exact HQ18.out⟩
       have n4_ : Aside0 (Kd.V (Kd.slice 3 (Kd.int .i64)) 26 (w16.setCell ⟨go10, (a1 : Int).toNat, none⟩ (.int .i64 (Int.tmod (wrap64 ((rd y340 a1) + 1)) (((rd_T44 l0_3 a1).f1).length : Int)))) w0.heap.size (fun k_ => ((P0_4_ k_ ∨ P0_3_ k_) ∨ w.heap.size ≤ k_) ∧ some k_ ≠ (.slice Ao15 t337.length co15 : Value).ownBlock ∧ some k_ ≠ (.slice (some ⟨go10, 0, none⟩) y340.length co17 : Value).ownBlock ∧ k_ ≠ g) (.slice A344_2 ((rd_T44 l0_3 a1).f1).length c344_2) ((rd_T44 l0_3 a1).f1)) := ⟨by (with_reducible repeat (first | apply Kd.V_alloc | apply Kd.V_drewN | apply Kd.V_drew)); exact Kd.V_mono (Kd.V_far (p := ⟨go10, (a1 : Int).toNat, none⟩) (Kd.V_mono HL344_2.out (fun k_ hk => (⟨hk, fun e_ => hk.2 (by rw [e_]; rfl)⟩ : _ ∧ k_ ≠ go10))) (fun _ hk => hk.2) (.int .i64 (Int.tmod (wrap64 ((rd y340 a1) + 1)) (((rd_T44 l0_3 a1).f1).length : Int)))) (fun _ hk => ⟨hk.1.1.1, ⟨hk.1.1.2.2, ⟨hk.1.2, hk.1.1.2.1⟩⟩⟩)⟩
       have n5_ : Aside0 (Kd.V (Kd.int .i64) 3 (w16.setCell ⟨go10, (a1 : Int).toNat, none⟩ (.int .i64 (Int.tmod (wrap64 ((rd y340 a1) + 1)) (((rd_T44 l0_3 a1).f1).length : Int)))) w0.heap.size (fun k_ => ((P0_4_ k_ ∨ P0_3_ k_) ∨ w.heap.size ≤ k_) ∧ some k_ ≠ (.slice Ao15 t337.length co15 : Value).ownBlock ∧ some k_ ≠ (.slice (some ⟨go10, 0, none⟩) y340.length co17 : Value).ownBlock ∧ k_ ≠ g) (.slice A344_3 ((rd_T44 l0_3 a1).f2).length c344_3) ((rd_T44 l0_3 a1).f2)) := ⟨by (with_reducible repeat (first | apply Kd.V_alloc | apply Kd.V_drewN | apply Kd.V_drew)); exact Kd.V_mono (Kd.V_far (p := ⟨go10, (a1 : Int).toNat, none⟩) (Kd.V_mono HL344_3.out (fun k_ hk => (⟨hk, fun e_ => hk.2 (by rw [e_]; rfl)⟩ : _ ∧ k_ ≠ go10))) (fun _ hk => hk.2) (.int .i64 (Int.tmod (wrap64 ((rd y340 a1) + 1)) (((rd_T44 l0_3 a1).f1).length : Int)))) (fun _ hk => ⟨hk.1.1.1, ⟨hk.1.1.2.2, ⟨hk.1.2, hk.1.1.2.1⟩⟩⟩)⟩
       have n6_ : Aside0 ((w16.setCell ⟨go10, (a1 : Int).toNat, none⟩ (.int .i64 (Int.tmod (wrap64 ((rd y340 a1) + 1)) (((rd_T44 l0_3 a1).f1).length : Int)))).heap[g]? = some (.cells #[.int .i64 a0_0, .int .i64 a0_1, .slice A0_2 l0_2.length c0_2, .slice (some ad344) l0_3.length c0_3, .slice Ao15 t337.length co15] 76 (0, 0))) := ⟨by (with_reducible repeat first | refine blk_drewN ?_ _ | refine blk_drew ?_ | refine blk_alloc ?_ _); refine blk_far ?_ (by have h_ := Kd.R_ne HO342.out BK0.out (by decide); intro e_; exact h_ (by rw [e_]; rfl)) _; (with_reducible repeat first | refine blk_drewN ?_ _ | refine blk_drew ?_ | refine blk_alloc ?_ _); exact BK0.out⟩
       have n7_ : Aside0 (Kept w (w16.setCell ⟨go10, (a1 : Int).toNat, none⟩ (.int .i64 (Int.tmod (wrap64 ((rd y340 a1) + 1)) (((rd_T44 l0_3 a1).f1).length : Int)))) (fun k_ => (P0_4_ k_) ∨ k_ = g)) := ⟨by repeat (first | (with_reducible first | exact HK.out | apply Kept.alloc | apply Kept.drewN | apply Kept.drew | refine Kept.setCell ?_ (Or.imp_left Or.inl HMgo10.out) _ | refine Kept.setCell ?_ (.inl (.inr rfl)) _) | exact HK.out)⟩
       have n8_ : Aside0 (Below w0.heap.size w0 (w16.setCell ⟨go10, (a1 : Int).toNat, none⟩ (.int .i64 (Int.tmod (wrap64 ((rd y340 a1) + 1)) (((rd_T44 l0_3 a1).f1).length : Int))))) := ⟨by repeat (first | (with_reducible first | exact HB.out | apply below_alloc | apply pw_below_drewN | apply below_drew1 | refine below_set ?_ GB10.out | refine below_set ?_ GE0.out) | exact HB.out)⟩
       (try clear HO0_3)
       (try clear HO336)
       (try clear HO339)
       (try clear HO342)
       (try clear HL344_2)
       (try clear HL344_3)
       (try clear BK0)
       (try clear HK)
       (try clear HB)
       generalize (w16.setCell ⟨go10, (a1 : Int).toNat, none⟩ (.int .i64 (Int.tmod (wrap64 ((rd y340 a1) + 1)) (((rd_T44 l0_3 a1).f1).length : Int)))) = w19 at n0_ n1_ n2_ n3_ n4_ n5_ n6_ n7_ n8_ ⊢
       have HO0_3 := n0_; have HO336 := n1_; have HO339 := n2_; have HO342 := n3_; have HL344_2 := n4_; have HL344_3 := n5_; have BK0 := n6_; have HK := n7_; have HB := n8_; clear n0_ n1_ n2_ n3_ n4_ n5_ n6_ n7_ n8_; have hcz20_0 := Goto.bc0 BK0; have hcz20_1 := Goto.bc1 BK0; have hcz20_2 := Goto.bc2 BK0
       have hcz20_3 := Goto.bc3 BK0
       have hcz20_4 := Goto.bc4 BK0; have hfz20_0 := Goto.bf BK0 0; have hfz20_1 := Goto.bf BK0 1; have hfz20_2 := Goto.bf BK0 2; have hfz20_3 := Goto.bf BK0 3; have hfz20_4 := Goto.bf BK0 4
       try go_wp2_with (first | ((with_reducible refine gate_store (t := 26) (p := 40) rfl ?_); refine store_event (t := 26) (p := 40) (v := ?vo_w21) (w1 := (w19.setCell ⟨g, 4, none⟩ (.slice (some ⟨go10, 0, none⟩) y340.length co17))) ?hg ?ho ?hn ?hr ?_; (case ho => rfl); (case hg => rfl); (case hn => rfl); (case hr => first | (go_simp; done) | (go_simp; rfl)); intro w21 hw; have n0_ : Aside0 (Kd.V k44 44 w21 w0.heap.size (fun k_ => ((P0_4_ k_ ∨ P0_3_ k_) ∨ w.heap.size ≤ k_) ∧ some k_ ≠ (.slice Ao15 t337.length co15 : Value).ownBlock ∧ some k_ ≠ (.slice (some ⟨go10, 0, none⟩) y340.length co17 : Value).ownBlock ∧ k_ ≠ g) (.slice (some ad344) l0_3.length c0_3) l0_3) := ⟨(by rw [hw]; exact (by (with_reducible repeat (first | apply Kd.V_alloc | apply Kd.V_drewN | apply Kd.V_drew)); exact Kd.V_mono (Kd.V_far (p := ⟨g, 4, none⟩) (Kd.V_mono HO0_3.out (fun k_ hk => (⟨hk, hk.2.2.2⟩ : _ ∧ k_ ≠ g))) (fun _ hk => hk.2) (.slice (some ⟨go10, 0, none⟩) y340.length co17)) (fun _ hk => ⟨hk.1.1, ⟨hk.1.2.1, ⟨hk.1.2.2.1, hk.1.2.2.2⟩⟩⟩)))⟩; have n1_ : Aside0 (Kd.V (Kd.int .i64) 3 w21 w0.heap.size (fun k_ => ((P0_4_ k_ ∨ P0_3_ k_) ∨ w.heap.size ≤ k_) ∧ some k_ ≠ (.slice Ao15 t337.length co15 : Value).ownBlock ∧ some k_ ≠ (.slice (some ⟨go10, 0, none⟩) y340.length co17 : Value).ownBlock ∧ k_ ≠ g) (.slice Ao12 t334.length co12) t334) := ⟨(by rw [hw]; exact (by (with_reducible repeat (first | apply Kd.V_alloc | apply Kd.V_drewN | apply Kd.V_drew)); exact Kd.V_mono (Kd.V_far (p := ⟨g, 4, none⟩) (Kd.V_mono HO336.out (fun k_ hk => (⟨hk, hk.2.2.2⟩ : _ ∧ k_ ≠ g))) (fun _ hk => hk.2) (.slice (some ⟨go10, 0, none⟩) y340.length co17)) (fun _ hk => ⟨hk.1.1, ⟨hk.1.2.1, ⟨hk.1.2.2.1, hk.1.2.2.2⟩⟩⟩)))⟩; have n2_ : Aside0 (Kd.R (Kd.int .i64) 3 w21 w0.heap.size (fun k_ => (P0_4_ k_ ∨ w.heap.size ≤ k_) ∧ some k_ ≠ (.slice (some ⟨go10, 0, none⟩) y340.length co17 : Value).ownBlock) (.slice Ao15 t337.length co15) t337) := ⟨(by rw [hw]; exact (by (with_reducible repeat (first | apply Kd.R_alloc | apply Kd.R_drewN | apply Kd.R_drew)); exact Kd.R_mono (Kd.R_far (p := ⟨g, 4, none⟩) (Kd.R_types HO339.out BK0.out (by decide)) (fun _ hk => hk.2) (.slice (some ⟨go10, 0, none⟩) y340.length co17)) (fun _ hk => ⟨hk.1.1, hk.1.2⟩)))⟩; have n3_ : Aside0 (Kd.R (Kd.int .i64) 3 w21 w0.heap.size (fun k_ => (P0_4_ k_ ∨ w.heap.size ≤ k_) ∧ some k_ ≠ (.slice Ao15 t337.length co15 : Value).ownBlock) (.slice (some ⟨go10, 0, none⟩) y340.length co17) y345) := ⟨(by rw [hw]; exact (by (with_reducible repeat (first | apply Kd.R_alloc | apply Kd.R_drewN | apply Kd.R_drew)); exact Kd.R_mono (Kd.R_far (p := ⟨g, 4, none⟩) (Kd.R_types HO342.out BK0.out (by decide)) (fun _ hk => hk.2) (.slice (some ⟨go10, 0, none⟩) y340.length co17)) (fun _ hk => ⟨hk.1.1, hk.1.2⟩)))⟩; have n4_ : Aside0 (Kd.V (Kd.slice 3 (Kd.int .i64)) 26 w21 w0.heap.size (fun k_ => ((P0_4_ k_ ∨ P0_3_ k_) ∨ w.heap.size ≤ k_) ∧ some k_ ≠ (.slice Ao15 t337.length co15 : Value).ownBlock ∧ some k_ ≠ (.slice (some ⟨go10, 0, none⟩) y340.length co17 : Value).ownBlock ∧ k_ ≠ g) (.slice A344_2 ((rd_T44 l0_3 a1).f1).length c344_2) ((rd_T44 l0_3 a1).f1)) := ⟨(by rw [hw]; exact (by (with_reducible repeat (first | apply Kd.V_alloc | apply Kd.V_drewN | apply Kd.V_drew)); exact Kd.V_mono (Kd.V_far (p := ⟨g, 4, none⟩) (Kd.V_mono HL344_2.out (fun k_ hk => (⟨hk, hk.2.2.2⟩ : _ ∧ k_ ≠ g))) (fun _ hk => hk.2) (.slice (some ⟨go10, 0, none⟩) y340.length co17)) (fun _ hk => ⟨hk.1.1, ⟨hk.1.2.1, ⟨hk.1.2.2.1, hk.1.2.2.2⟩⟩⟩)))⟩; have n5_ : Aside0 (Kd.V (Kd.int .i64) 3 w21 w0.heap.size (fun k_ => ((P0_4_ k_ ∨ P0_3_ k_) ∨ w.heap.size ≤ k_) ∧ some k_ ≠ (.slice Ao15 t337.length co15 : Value).ownBlock ∧ some k_ ≠ (.slice (some ⟨go10, 0, none⟩) y340.length co17 : Value).ownBlock ∧ k_ ≠ g) (.slice A344_3 ((rd_T44 l0_3 a1).f2).length c344_3) ((rd_T44 l0_3 a1).f2)) := ⟨(by rw [hw]; exact (by (with_reducible repeat (first | apply Kd.V_alloc | apply Kd.V_drewN | apply Kd.V_drew)); exact Kd.V_mono (Kd.V_far (p := ⟨g, 4, none⟩) (Kd.V_mono HL344_3.out (fun k_ hk => (⟨hk, hk.2.2.2⟩ : _ ∧ k_ ≠ g))) (fun _ hk => hk.2) (.slice (some ⟨go10, 0, none⟩) y340.length co17)) (fun _ hk => ⟨hk.1.1, ⟨hk.1.2.1, ⟨hk.1.2.2.1, hk.1.2.2.2⟩⟩⟩)))⟩; have n6_ : Aside0 (w21.heap[g]? = some (.cells #[.int .i64 a0_0, .int .i64 a0_1, .slice A0_2 l0_2.length c0_2, .slice (some ad344) l0_3.length c0_3, .slice (some ⟨go10, 0, none⟩) y340.length co17] 76 (0, 0))) := ⟨(by rw [hw]; exact (Goto.bx BK0))⟩; have n7_ : Aside0 (Kept w w21 (fun k_ => (P0_4_ k_) ∨ k_ = g)) := ⟨(by rw [hw]; exact (by repeat (first | (with_reducible first | exact HK.out | apply Kept.alloc | apply Kept.drewN | apply Kept.drew | refine Kept.setCell ?_ (.inl (.inr rfl)) _) | exact HK.out)))⟩; have n8_ : Aside0 (Below w0.heap.size w0 w21) := ⟨(by rw [hw]; exact (Goto.hx HB))⟩; clear hw; clear HO0_3; clear HO336; clear HO339; clear HO342; clear HL344_2; clear HL344_3; clear BK0; clear HK; clear HB; have HO0_3 := n0_; have HO336 := n1_; have HO339 := n2_; have HO342 := n3_; have HL344_2 := n4_; have HL344_3 := n5_; have BK0 := n6_; have HK := n7_; have HB := n8_; clear n0_ n1_ n2_ n3_ n4_ n5_ n6_ n7_ n8_))
       go_ret
       (try simp only [← exists_and_left])
       exact ⟨_, _, Goto.er, by (with_reducible repeat (first | apply Kd.V_alloc | apply Kd.V_drewN | apply Kd.V_drew)); exact Kd.V_mono HO336.out (fun _ hk => ⟨hk.1, hk.2.2.1⟩), by (with_reducible repeat (first | apply Kd.R_alloc | apply Kd.R_drewN | apply Kd.R_drew)); exact Kd.R_mono HO342.out (fun _ hk => hk.1), by (with_reducible repeat first | refine blk_drewN ?_ _ | refine blk_drew ?_ | refine blk_alloc ?_ _); exact BK0.out, by repeat (first | (with_reducible first | exact HB.out | apply below_alloc | apply pw_below_drewN | apply below_drew1 | refine below_set ?_ GE0.out) | exact HB.out), by repeat (first | (with_reducible first | exact HK.out | apply Kept.alloc | apply Kept.drewN | apply Kept.drew | refine Kept.setCell ?_ (.inl (.inr rfl)) _) | exact HK.out)⟩
     ·
      rw [if_neg c8] at H
      exact absurd H (by simp)
    ·
     rw [if_neg c7] at H
     exact absurd H (by simp)
   ·
    rw [if_neg c6] at H
    exact absurd H (by simp)
  ·
   rw [if_neg c5] at H
   exact absurd H (by simp)
 ·
  rw [if_neg c4] at H
  have c4b0 : decide (0 < (t334.length : Int)) = false := decide_eq_false c4
  have c4b1 : decide (0 < t334.length) = false := decide_eq_false (by omega)
  clear c4
  simp only [Option.some.injEq, Prod.mk.injEq] at H
  obtain ⟨rfl, rfl⟩ := H
  go_enter Try.func21, Try.ntmps21
  go_wp2_with (first | ((with_reducible refine gate_callee (f := 19) rfl ?_); refine goesL_ (some 9) rfl rfl Try.func19 (by kernel_rfl) rfl #[.pointer (some ⟨g, 0, none⟩), .int .i64 a1] rfl (by (try simp only [List.map_toArray, List.map_cons, List.map_nil]); first | done | rfl | (simp only [List.length_drop, List.length_take]; rfl)) ?_; (with_reducible refine (tontineref15_Routes_Now.calls k g a0_0 a0_1 A0_2 c0_2 l0_2 (fun k_ => (((P0_4_ k_ ∨ P0_3_ k_) ∨ w.heap.size ≤ k_) ∧ (some k_ ≠ (u9000_ : Value).ownBlock ∧ k_ ≠ g))) A0_3 c0_3 l0_3 (fun k_ => some k_ = (u9000_ : Value).ownBlock) u9000_ l0_4 a1 t334 t337 w0 _ ?side1 ?side2 ?side3 ?side4 ?side5 ?side6 ?side7 A3.out).mono ?_); (case side1 => exact by (with_reducible repeat first | refine blk_drewN ?_ _ | refine blk_drew ?_ | refine blk_alloc ?_ _); exact BK0.out); (case side2 => exact GE0.out); (case side3 => repeat (first | (with_reducible first | exact HB.out | apply below_alloc | apply pw_below_drewN | apply below_drew1 | refine below_set ?_ GE0.out) | exact HB.out)); (case side4 => exact Kd.C_kept_call HR0_2.out (by repeat (first | (with_reducible first | exact HK.out | apply Kept.alloc | apply Kept.drewN | apply Kept.drew | refine Kept.setCell ?_ (.inl (.inr rfl)) _) | exact HK.out)) (fun k_ hs_ => Or.elim hs_ (fun hs_ => (fun e_ => Or.imp_left Or.inl ((HO0_4.out.1 k_ e_.symm))) hs_) (fun e_ => .inl (.inr e_)))); (case side5 => exact HC0_2.out); (case side6 => exact Kd.V_mono (HO0_3.out) (fun k_ hk_ => ⟨hk_, hk_.2.1, hk_.2.2⟩)); (case side7 => exact Kd.R_tight rfl HO0_4.out); rintro e w22 ⟨v335, v338, rfl, ho0, ho1, hi, hb, hkp⟩; refine ⟨_, rfl, ?_⟩; have n0_ := Goto.m0 (hi); have n1_ := Goto.m0 (Kd.V_mono (ok' := fun k_ => ((P0_4_ k_ ∨ P0_3_ k_) ∨ w.heap.size ≤ k_) ∧ k_ ≠ g ∧ some k_ ≠ (v338 : Value).ownBlock) (Kd.V_keptB (HO0_3.out) hkp (fun k_ hk_ hs_ => Or.elim hs_ (fun hs_ => (hk_.2.1) hs_) (fun e_ => (hk_.2.2) e_))) (fun k_ hk_ => ⟨hk_.1.1, hk_.1.2.2, fun e_ => Or.elim (ho1.1 k_ e_.symm) (fun hs_ => hk_.2.1 (.inl hs_)) (fun hn_ => Nat.not_le.2 hk_.2.2 hn_)⟩)); have n2_ := Goto.m0 (Kd.V_mono (ok' := fun k_ => ((P0_4_ k_ ∨ P0_3_ k_) ∨ w.heap.size ≤ k_) ∧ some k_ ≠ (v338 : Value).ownBlock ∧ k_ ≠ g) ho0 (fun k_ hk_ => ⟨Or.elim hk_.1 (fun hs_ => Or.elim hs_ (fun hs_ => (Or.imp_left (fun h_ => (.inl h_)) ((HO0_4.out.1 k_ (hs_).symm)))) (fun hs_ => hs_.1)) (fun hn_ => (.inr (Nat.le_trans (by first | exact HK.out.1 | exact (show Kept w _ (fun k_ => (P0_4_ k_) ∨ k_ = g) from by repeat (first | (with_reducible first | exact HK.out | apply Kept.alloc | apply Kept.drewN | apply Kept.drew | refine Kept.setCell ?_ (.inl (.inr rfl)) _) | exact HK.out)).1) hn_))), hk_.2, Or.elim hk_.1 (fun hs_ => Or.elim hs_ (fun hs_ => fun e_ => (Kd.R_ne HO0_4.out BK0.out (by decide)) (by rw [← e_]; exact hs_)) (fun hs_ => hs_.2.2)) (fun hn_ => (Kd.freshB (g := g) (o := .cells #[.int .i64 a0_0, .int .i64 a0_1, .slice A0_2 l0_2.length c0_2, .slice A0_3 l0_3.length c0_3, u9000_] 76 (0, 0)) (Goto.bx BK0) k_ hn_))⟩)); have n3_ := Goto.m0 (Kd.R_mono (ok' := fun k_ => (P0_4_ k_ ∨ w.heap.size ≤ k_)) ho1 (fun k_ hk_ => Or.elim hk_ (fun hs_ => (HO0_4.out.1 k_ (hs_).symm)) (fun hn_ => (.inr (Nat.le_trans (by first | exact HK.out.1 | exact (show Kept w _ (fun k_ => (P0_4_ k_) ∨ k_ = g) from by repeat (first | (with_reducible first | exact HK.out | apply Kept.alloc | apply Kept.drewN | apply Kept.drew | refine Kept.setCell ?_ (.inl (.inr rfl)) _) | exact HK.out)).1) hn_))))); have n4_ := Goto.m0 (Kept.then_ (S := (fun k_ => (P0_4_ k_) ∨ k_ = g)) (by repeat (first | (with_reducible first | exact HK.out | apply Kept.alloc | apply Kept.drewN | apply Kept.drew | refine Kept.setCell ?_ (.inl (.inr rfl)) _) | exact HK.out)) hkp (fun k_ hs_ => Or.elim hs_ (fun hs_ => (fun e_ => Or.imp_left Or.inl ((HO0_4.out.1 k_ e_.symm))) hs_) (fun e_ => .inl (.inr e_)))); have n5_ := Goto.m0 (hb); clear BK0; clear HO0_3; clear HK; clear HB; clear HO0_4; have BK0 := n0_; have HO0_3 := n1_; have HO336 := n2_; have HO339 := n3_; have HK := n4_; have HB := n5_; clear n0_ n1_ n2_ n3_ n4_ n5_; (try clear hb); (try clear hkp); (try clear ho0); (try clear ho1); obtain ⟨Ao23, co23, eo23⟩ := Kd.V_slice HO336.out; subst eo23))
  go_ret
  (try simp only [← exists_and_left])
  exact ⟨_, _, Goto.er, by (with_reducible repeat (first | apply Kd.V_alloc | apply Kd.V_drewN | apply Kd.V_drew)); exact Kd.V_mono HO336.out (fun _ hk => ⟨hk.1, hk.2.1⟩), Goto.rk HO339, by (with_reducible repeat first | refine blk_drewN ?_ _ | refine blk_drew ?_ | refine blk_alloc ?_ _); exact BK0.out, by repeat (first | (with_reducible first | exact HB.out | apply below_alloc | apply pw_below_drewN | apply below_drew1 | refine below_set ?_ GE0.out) | exact HB.out), by repeat (first | (with_reducible first | exact HK.out | apply Kept.alloc | apply Kept.drewN | apply Kept.drew | refine Kept.setCell ?_ (.inl (.inr rfl)) _) | exact HK.out)⟩

/-! ### tontineref15_Routes_Turn: function 23 -/
def tontineref15_Routes_Turn.f (a0_0 : Int) (a0_1 : Int) (l0_2 : List (List Int)) (l0_3 : List (S44)) (l0_4 : List Int) (a1 : Int) : Option (Int × List Int) := if a1 < 0 then (some (0, l0_4)) else (if a1 ≥ (l0_4.length : Int) then (some (0, l0_4)) else (if 0 ≤ a1 then (if a1 < (l0_4.length : Int) then (some (rd l0_4 a1, l0_4)) else (none)) else (none)))
set_option maxHeartbeats 8000000 in
set_option maxRecDepth 100000 in
theorem tontineref15_Routes_Turn.calls (g : Nat) (a0_0 : Int) (a0_1 : Int) (A0_2 : Option Addr) (c0_2 : Nat) (l0_2 : List (List Int)) (A0_3 : Option Addr) (c0_3 : Nat) (l0_3 : List (S44)) (P0_4_ : Nat → Prop) (u9000_ : Value) (l0_4 : List Int) (a1 : Int) (r1 : Int) (r2 : List Int) (w0 w : World) (hI : w.heap[g]? = some (.cells #[.int .i64 a0_0, .int .i64 a0_1, .slice A0_2 l0_2.length c0_2, .slice A0_3 l0_3.length c0_3, u9000_] 76 (0, 0))) (hG : w0.heap.size ≤ g) (hB : Below w0.heap.size w0 w) (hr0_2 : ∀ W_, Kept w W_ (fun k_ => (P0_4_ k_) ∨ k_ = g) → Kd.C (Kd.slice 3 (Kd.int .i64)) W_ A0_2 l0_2.length l0_2) (hc0_2 : l0_2.length ≤ c0_2) (hr0_3 : ∀ W_, Kept w W_ (fun k_ => (P0_4_ k_) ∨ k_ = g) → Kd.C k44 W_ A0_3 l0_3.length l0_3) (hc0_3 : l0_3.length ≤ c0_3) (ho0_4 : Kd.R (Kd.int .i64) 3 w w0.heap.size P0_4_ u9000_ l0_4) (h : tontineref15_Routes_Turn.f a0_0 a0_1 l0_2 l0_3 l0_4 a1 = some (r1, r2)) :
    Calls Try.prog 23 #[.pointer (some ⟨g, 0, none⟩), .int .i64 a1] w fun e w' => ∃ v1_ : Value, e = .returned (.int .i64 r1) ∧ Kd.R (Kd.int .i64) 3 w' w0.heap.size (fun k_ => (P0_4_ k_ ∨ w.heap.size ≤ k_)) v1_ r2 ∧ w'.heap[g]? = some (.cells #[.int .i64 a0_0, .int .i64 a0_1, .slice A0_2 l0_2.length c0_2, .slice A0_3 l0_3.length c0_3, v1_] 76 (0, 0)) ∧ Below w0.heap.size w0 w' ∧ Kept w w' (fun k_ => (P0_4_ k_) ∨ k_ = g) := by
 have HR0_2 := Goto.m0 hr0_2
 have HC0_2 := Goto.m0 hc0_2
 clear hr0_2 hc0_2
 have HR0_3 := Goto.m0 hr0_3
 have HC0_3 := Goto.m0 hc0_3
 clear hr0_3 hc0_3
 have HO0_4 := Goto.m0 (show Kd.R (Kd.int .i64) 3 w w0.heap.size (fun k_ => (P0_4_ k_ ∨ w.heap.size ≤ k_)) u9000_ l0_4 from Kd.R_mono ho0_4 (fun k_ hk => (.inl hk)))
 have BK0 := Goto.m0 hI
 have GE0 := Goto.m0 hG
 clear hI hG
 have HK := Goto.m0 (Kept.refl w (fun k_ => (P0_4_ k_) ∨ k_ = g))
 have HW0 := Goto.m0 hB.size
 have HB := Goto.m0 hB
 clear hB
 have H : (if a1 < 0 then (some (0, l0_4)) else (if a1 ≥ (l0_4.length : Int) then (some (0, l0_4)) else (if 0 ≤ a1 then (if a1 < (l0_4.length : Int) then (some (rd l0_4 a1, l0_4)) else (none)) else (none)))) = some (r1, r2) := h
 clear h
 by_cases c3 : a1 < 0
 ·
  rw [if_pos c3] at H
  have c3b0 : decide (a1 < 0) = true := decide_eq_true c3
  clear c3
  simp only [Option.some.injEq, Prod.mk.injEq] at H
  obtain ⟨rfl, rfl⟩ := H
  go_enter Try.func23, Try.ntmps23
  go_wp2
  go_ret
  (try simp only [← exists_and_left])
  exact ⟨_, Goto.er, Goto.rk HO0_4, by (with_reducible repeat first | refine blk_drewN ?_ _ | refine blk_drew ?_ | refine blk_alloc ?_ _); exact BK0.out, by repeat (first | (with_reducible first | exact HB.out | apply below_alloc | apply pw_below_drewN | apply below_drew1 | refine below_set ?_ GE0.out) | exact HB.out), by repeat (first | (with_reducible first | exact HK.out | apply Kept.alloc | apply Kept.drewN | apply Kept.drew | refine Kept.setCell ?_ (.inl (.inr rfl)) _) | exact HK.out)⟩
 ·
  rw [if_neg c3] at H
  have c3b0 : decide (a1 < 0) = false := decide_eq_false c3
  clear c3
  by_cases c4 : a1 ≥ (l0_4.length : Int)
  ·
   rw [if_pos c4] at H
   have c4b0 : decide ((l0_4.length : Int) ≤ a1) = true := decide_eq_true c4
   clear c4
   simp only [Option.some.injEq, Prod.mk.injEq] at H
   obtain ⟨rfl, rfl⟩ := H
   have hcz5_0 := Goto.bc0 BK0; have hcz5_1 := Goto.bc1 BK0; have hcz5_2 := Goto.bc2 BK0; have hcz5_3 := Goto.bc3 BK0; have hcz5_4 := Goto.bc4 BK0; have hfz5_0 := Goto.bf BK0 0; have hfz5_1 := Goto.bf BK0 1; have hfz5_2 := Goto.bf BK0 2; have hfz5_3 := Goto.bf BK0 3; have hfz5_4 := Goto.bf BK0 4
   obtain ⟨Ao6, co6, eo6⟩ := Kd.R_slice HO0_4.out
   subst eo6
   go_enter Try.func23, Try.ntmps23
   go_wp2
   go_ret
   (try simp only [← exists_and_left])
   exact ⟨_, Goto.er, Goto.rk HO0_4, by (with_reducible repeat first | refine blk_drewN ?_ _ | refine blk_drew ?_ | refine blk_alloc ?_ _); exact BK0.out, by repeat (first | (with_reducible first | exact HB.out | apply below_alloc | apply pw_below_drewN | apply below_drew1 | refine below_set ?_ GE0.out) | exact HB.out), by repeat (first | (with_reducible first | exact HK.out | apply Kept.alloc | apply Kept.drewN | apply Kept.drew | refine Kept.setCell ?_ (.inl (.inr rfl)) _) | exact HK.out)⟩
  ·
   rw [if_neg c4] at H
   have c4b0 : decide ((l0_4.length : Int) ≤ a1) = false := decide_eq_false c4
   clear c4
   by_cases c7 : 0 ≤ a1
   ·
    rw [if_pos c7] at H
    have c7b0 : decide (0 ≤ a1) = true := decide_eq_true c7
    clear c7
    by_cases c8 : a1 < (l0_4.length : Int)
    ·
     rw [if_pos c8] at H
     have c8b0 : decide (a1 < (l0_4.length : Int)) = true := decide_eq_true c8
     clear c8
     simp only [Option.some.injEq, Prod.mk.injEq] at H
     obtain ⟨rfl, rfl⟩ := H
     have hcz9_0 := Goto.bc0 BK0; have hcz9_1 := Goto.bc1 BK0; have hcz9_2 := Goto.bc2 BK0; have hcz9_3 := Goto.bc3 BK0; have hcz9_4 := Goto.bc4 BK0; have hfz9_0 := Goto.bf BK0 0; have hfz9_1 := Goto.bf BK0 1; have hfz9_2 := Goto.bf BK0 2; have hfz9_3 := Goto.bf BK0 3; have hfz9_4 := Goto.bf BK0 4
     obtain ⟨Ao10, co10, eo10⟩ := Kd.R_slice HO0_4.out
     subst eo10
     have p346 : 0 ≤ (a1 : Int) := Goto.od
     have q346 : a1 < (l0_4.length : Int) := Goto.od
     obtain ⟨ad346, e346, hx346_0⟩ := Kd.at_int (Kd.R_reads' HO0_4.out).2.2 a1 p346 q346
     cases e346
     replace p346 := eq_true p346; replace q346 := eq_true q346
     go_enter Try.func23, Try.ntmps23
     go_wp2
     go_ret
     (try simp only [← exists_and_left])
     exact ⟨_, Goto.er, Goto.rk HO0_4, by (with_reducible repeat first | refine blk_drewN ?_ _ | refine blk_drew ?_ | refine blk_alloc ?_ _); exact BK0.out, by repeat (first | (with_reducible first | exact HB.out | apply below_alloc | apply pw_below_drewN | apply below_drew1 | refine below_set ?_ GE0.out) | exact HB.out), by repeat (first | (with_reducible first | exact HK.out | apply Kept.alloc | apply Kept.drewN | apply Kept.drew | refine Kept.setCell ?_ (.inl (.inr rfl)) _) | exact HK.out)⟩
    ·
     rw [if_neg c8] at H
     exact absurd H (by simp)
   ·
    rw [if_neg c7] at H
    exact absurd H (by simp)

end Go.Proofs.Ytbhfkhcedjgpdaa.P
