/- Printed by a program of this workplace (a turned copy of the kit's optional print), out of the translation; not trusted: Lean checks it. -/
import Derived.Test.YtbhfkhcedjgpdaaPx0
import Derived.Test.YtbhfkhcedjgpdaaPx2
import Derived.Test.YtbhfkhcedjgpdaaPx3
namespace Go.Proofs.Ytbhfkhcedjgpdaa.P
open Go.RowKit Go.Proofs.YtbhfkhcedjgpdaaW.PrintWords Go.Proofs.YtbhfkhcedjgpdaaW.PrintLast Go.Proofs.YtbhfkhcedjgpdaaW.PrintMore
attribute [local go_sem] max2_int min2_int max_two min_two max_three min_three max_four min_four   -- for this text's walks alone
set_option linter.unusedVariables false
set_option linter.unusedSimpArgs false

/-! ### route_Routes_Offer: function 20 -/
def route_Routes_Offer.f (a0_0 : Int) (a0_1 : Int) (l0_2 : List (List Int)) (l0_3 : List (S44)) (l0_4 : List Int) (a1 : Int) : Option (List Int × List Int) := (route_Routes_Now.f a0_0 a0_1 l0_2 l0_3 l0_4 a1).bind fun bt119 => ((route_Routes_has.f a0_0 a0_1 l0_2 l0_3 bt119.2 a1).bind fun bt125 => (if bt125.1 = true then (if 0 ≤ a1 then (if a1 < (bt125.2.length : Int) then (if a1 < (l0_3.length : Int) then (if (((rd_T44 l0_3 a1).f1).length : Int) = 0 then (none) else (some (bt119.1, (bt125.2.set (a1 : Int).toNat (Int.tmod (wrap64 ((rd bt125.2 a1) + 1)) (((rd_T44 l0_3 a1).f1).length : Int)))))) else (none)) else (none)) else (none)) else (some (bt119.1, bt125.2))))
def route_Routes_Offer.T3 : Bool × List (List Nat × List Nat) := (true, [([], []), ([0], [0]), ([1], [1]), ([2], [2]), ([], []), ([], []), ([5], [5]), ([6], [6]), ([7], [7]), ([], []), ([8, 9], [8, 9]), ([10], [10]), ([11], [11]), ([], []), ([13], [13]), ([14], [14]), ([15], [15]), ([16], [16]), ([], []), ([17, 18], [17, 18]), ([19], [19]), ([20], [20]), ([21], [21]), ([12, 22], [12, 22]), ([3, 4, 0, 1, 2, 3, 4, 5, 6, 7, 8, 9, 10, 11, 12, 13, 14, 15, 16, 17, 18, 19, 20, 21, 22, 23], [3, 4]), ([24, 23, 0, 1, 2, 3, 4, 5, 6, 7, 8, 9, 10, 11, 12, 13, 14, 15, 16, 17, 18, 19, 20, 21, 22, 23], [23, 24])])
def route_Routes_Offer.B3 : List Nat := [0, 1, 3, 7, 0, 0, 32, 96, 224, 0, 992, 2016, 4064, 0, 8192, 24576, 57344, 122880, 0, 516096, 1040384, 2088960, 4186112, 8388576, 16777215, 33554431]
theorem route_Routes_Offer.tab3 : rtab .any (opsOf Try.f20 3) = route_Routes_Offer.T3 := by kernel_rfl
theorem route_Routes_Offer.bits3 : waitsOk route_Routes_Offer.T3.2 route_Routes_Offer.B3 = true := by kernel_rfl
set_option maxHeartbeats 8000000 in
set_option maxRecDepth 100000 in
theorem route_Routes_Offer.calls (g : Nat) (a0_0 : Int) (a0_1 : Int) (A0_2 : Option Addr) (c0_2 : Nat) (l0_2 : List (List Int)) (A0_3 : Option Addr) (c0_3 : Nat) (l0_3 : List (S44)) (P0_4_ : Nat → Prop) (u9000_ : Value) (l0_4 : List Int) (a1 : Int) (r1 : List Int) (r2 : List Int) (w0 w : World) (hI : w.heap[g]? = some (.cells #[.int .i64 a0_0, .int .i64 a0_1, .slice A0_2 l0_2.length c0_2, .slice A0_3 l0_3.length c0_3, u9000_] 74 (0, 0))) (hG : w0.heap.size ≤ g) (hB : Below w0.heap.size w0 w) (hr0_2 : ∀ W_, Kept w W_ (fun k_ => (P0_4_ k_) ∨ k_ = g) → Kd.C (Kd.slice 3 (Kd.int .i64)) W_ A0_2 l0_2.length l0_2) (hc0_2 : l0_2.length ≤ c0_2) (hr0_3 : ∀ W_, Kept w W_ (fun k_ => (P0_4_ k_) ∨ k_ = g) → Kd.C k44 W_ A0_3 l0_3.length l0_3) (hc0_3 : l0_3.length ≤ c0_3) (ho0_4 : Kd.R (Kd.int .i64) 3 w w0.heap.size P0_4_ u9000_ l0_4) (h : route_Routes_Offer.f a0_0 a0_1 l0_2 l0_3 l0_4 a1 = some (r1, r2)) :
    Calls Try.prog 20 #[.pointer (some ⟨g, 0, none⟩), .int .i64 a1] w fun e w' => ∃ v0_ v1_ : Value, e = .returned (v0_) ∧ Kd.R (Kd.int .i64) 3 w' w0.heap.size (fun k_ => (P0_4_ k_ ∨ w.heap.size ≤ k_) ∧ some k_ ≠ (v1_ : Value).ownBlock) v0_ r1 ∧ Kd.R (Kd.int .i64) 3 w' w0.heap.size (fun k_ => (P0_4_ k_ ∨ w.heap.size ≤ k_) ∧ some k_ ≠ (v0_ : Value).ownBlock) v1_ r2 ∧ w'.heap[g]? = some (.cells #[.int .i64 a0_0, .int .i64 a0_1, .slice A0_2 l0_2.length c0_2, .slice A0_3 l0_3.length c0_3, v1_] 74 (0, 0)) ∧ Below w0.heap.size w0 w' ∧ Kept w w' (fun k_ => (P0_4_ k_) ∨ k_ = g) := by
 have HR0_2 := Goto.m0 hr0_2
 have HC0_2 := Goto.m0 hc0_2
 clear hr0_2 hc0_2
 have HR0_3 := Goto.m0 hr0_3
 have HC0_3 := Goto.m0 hc0_3
 clear hr0_3 hc0_3
 have HO0_4 := Goto.m0 (show Kd.R (Kd.int .i64) 3 w w0.heap.size (fun k_ => (P0_4_ k_ ∨ w.heap.size ≤ k_)) u9000_ l0_4 from Kd.R_mono ho0_4 (fun k_ hk => (.inl hk)))
 have BK0 := Goto.m0 hI
 have GE0 := Goto.m0 hG
 clear hI hG
 have HK := Goto.m0 (Kept.refl w (fun k_ => (P0_4_ k_) ∨ k_ = g))
 have HW0 := Goto.m0 hB.size
 have HB := Goto.m0 hB
 clear hB
 have H : ((route_Routes_Now.f a0_0 a0_1 l0_2 l0_3 l0_4 a1).bind fun bt119 => ((route_Routes_has.f a0_0 a0_1 l0_2 l0_3 bt119.2 a1).bind fun bt125 => (if bt125.1 = true then (if 0 ≤ a1 then (if a1 < (bt125.2.length : Int) then (if a1 < (l0_3.length : Int) then (if (((rd_T44 l0_3 a1).f1).length : Int) = 0 then (none) else (some (bt119.1, (bt125.2.set (a1 : Int).toNat (Int.tmod (wrap64 ((rd bt125.2 a1) + 1)) (((rd_T44 l0_3 a1).f1).length : Int)))))) else (none)) else (none)) else (none)) else (some (bt119.1, bt125.2))))) = some (r1, r2) := h
 clear h
 replace H := Option.bind_eq_some_iff.mp H
 obtain ⟨⟨t119, t122⟩, A30, H⟩ := H
 replace H : ((route_Routes_has.f a0_0 a0_1 l0_2 l0_3 t122 a1).bind fun bt125 => (if bt125.1 = true then (if 0 ≤ a1 then (if a1 < (bt125.2.length : Int) then (if a1 < (l0_3.length : Int) then (if (((rd_T44 l0_3 a1).f1).length : Int) = 0 then (none) else (some (t119, (bt125.2.set (a1 : Int).toNat (Int.tmod (wrap64 ((rd bt125.2 a1) + 1)) (((rd_T44 l0_3 a1).f1).length : Int)))))) else (none)) else (none)) else (none)) else (some (t119, bt125.2)))) = some (r1, r2) := H
 have A3 := Goto.m0 A30
 clear A30
 replace H := Option.bind_eq_some_iff.mp H
 obtain ⟨⟨t125, t126⟩, A40, H⟩ := H
 replace H : (if t125 = true then (if 0 ≤ a1 then (if a1 < (t126.length : Int) then (if a1 < (l0_3.length : Int) then (if (((rd_T44 l0_3 a1).f1).length : Int) = 0 then (none) else (some (t119, (t126.set (a1 : Int).toNat (Int.tmod (wrap64 ((rd t126 a1) + 1)) (((rd_T44 l0_3 a1).f1).length : Int)))))) else (none)) else (none)) else (none)) else (some (t119, t126))) = some (r1, r2) := H
 have A4 := Goto.m0 A40
 clear A40
 by_cases c5 : t125 = true
 ·
  subst c5
  rw [if_pos rfl] at H
  by_cases c6 : 0 ≤ a1
  ·
   rw [if_pos c6] at H
   have c6b0 : decide (0 ≤ a1) = true := decide_eq_true c6
   clear c6
   by_cases c7 : a1 < (t126.length : Int)
   ·
    rw [if_pos c7] at H
    have c7b0 : decide (a1 < (t126.length : Int)) = true := decide_eq_true c7
    clear c7
    by_cases c8 : a1 < (l0_3.length : Int)
    ·
     rw [if_pos c8] at H
     have c8b0 : decide (a1 < (l0_3.length : Int)) = true := decide_eq_true c8
     clear c8
     by_cases c9 : (((rd_T44 l0_3 a1).f1).length : Int) = 0
     ·
      rw [if_pos c9] at H
      exact absurd H (by simp)
     ·
      rw [if_neg c9] at H
      have c9b0 : ((((rd_T44 l0_3 a1).f1).length : Int) == 0) = false := beq_eq_false_iff_ne.mpr c9
      have c9b1 : ((((rd_T44 l0_3 a1).f1).length : Int) != 0) = true := bne_iff_ne.mpr c9
      have c9b2 : ¬ (((rd_T44 l0_3 a1).f1) = []) := fun h_ => c9 (by rw [h_]; rfl)
      obtain ⟨y131, hy131⟩ : ∃ y_ : List Int, y_ = (t126.set (a1 : Int).toNat (Int.tmod (wrap64 ((rd t126 a1) + 1)) (((rd_T44 l0_3 a1).f1).length : Int))) := ⟨_, rfl⟩
      replace H : (some (t119, y131)) = some (r1, r2) := by first | (rw [hy131]; with_reducible exact H) | (have H2_ := (Option.bind_some _ _).symm.trans H; rw [hy131]; with_reducible exact H2_) | (have H2_ := (Option.bind_some _ _).symm.trans H; with_reducible exact H2_) | with_reducible exact H | (rw [hy131]; exact H) | exact H
      have Ny131 := Goto.m0 hy131
      clear hy131
      simp only [Option.some.injEq, Prod.mk.injEq] at H
      obtain ⟨rfl, rfl⟩ := H
      go_enter Try.func20, Try.ntmps20
      try go_wp2_with (first | ((with_reducible refine gate_callee (f := 18) rfl ?_); refine goesL_ (some 8) rfl rfl Try.func18 (by kernel_rfl) rfl #[.pointer (some ⟨g, 0, none⟩), .int .i64 a1] rfl (by (try simp only [List.map_toArray, List.map_cons, List.map_nil]); first | done | rfl | (simp only [List.length_drop, List.length_take]; rfl)) ?_; (with_reducible refine (route_Routes_Now.calls g a0_0 a0_1 A0_2 c0_2 l0_2 A0_3 c0_3 l0_3 (fun k_ => some k_ = (u9000_ : Value).ownBlock) u9000_ l0_4 a1 t119 t122 w0 _ ?side1 ?side2 ?side3 ?side4 ?side5 ?side6 ?side7 ?side8 A3.out).mono ?_); (case side1 => exact by (with_reducible repeat first | refine blk_drewN ?_ _ | refine blk_drew ?_ | refine blk_alloc ?_ _); exact BK0.out); (case side2 => exact GE0.out); (case side3 => repeat (first | (with_reducible first | exact HB.out | apply below_alloc | apply pw_below_drewN | apply below_drew1 | refine below_set ?_ GE0.out) | exact HB.out)); (case side4 => exact Kd.C_kept_call HR0_2.out (by repeat (first | (with_reducible first | exact HK.out | apply Kept.alloc | apply Kept.drewN | apply Kept.drew | refine Kept.setCell ?_ (.inl (.inr rfl)) _) | exact HK.out)) (fun k_ hs_ => Or.elim hs_ (fun hs_ => (fun e_ => Or.imp_left Or.inl ((HO0_4.out.1 k_ e_.symm))) hs_) (fun e_ => .inl (.inr e_)))); (case side5 => exact HC0_2.out); (case side6 => exact Kd.C_kept_call HR0_3.out (by repeat (first | (with_reducible first | exact HK.out | apply Kept.alloc | apply Kept.drewN | apply Kept.drew | refine Kept.setCell ?_ (.inl (.inr rfl)) _) | exact HK.out)) (fun k_ hs_ => Or.elim hs_ (fun hs_ => (fun e_ => Or.imp_left Or.inl ((HO0_4.out.1 k_ e_.symm))) hs_) (fun e_ => .inl (.inr e_)))); (case side7 => exact HC0_3.out); (case side8 => exact Kd.R_tight rfl HO0_4.out); rintro e w11 ⟨v120, v123, rfl, ho0, ho1, hi, hb, hkp⟩; refine ⟨_, rfl, ?_⟩; have n0_ := Goto.m0 (hi); have n1_ := Goto.m0 (Kd.R_mono (ok' := fun k_ => (P0_4_ k_ ∨ w.heap.size ≤ k_) ∧ some k_ ≠ (v123 : Value).ownBlock) ho0 (fun k_ hk_ => ⟨Or.elim hk_.1 (fun hs_ => (HO0_4.out.1 k_ (hs_).symm)) (fun hn_ => (.inr (Nat.le_trans (by first | exact HK.out.1 | exact (show Kept w _ (fun k_ => (P0_4_ k_) ∨ k_ = g) from by repeat (first | (with_reducible first | exact HK.out | apply Kept.alloc | apply Kept.drewN | apply Kept.drew | refine Kept.setCell ?_ (.inl (.inr rfl)) _) | exact HK.out)).1) hn_))), hk_.2⟩)); have n2_ := Goto.m0 (Kd.R_mono (ok' := fun k_ => (P0_4_ k_ ∨ w.heap.size ≤ k_) ∧ some k_ ≠ (v120 : Value).ownBlock) ho1 (fun k_ hk_ => ⟨Or.elim hk_.1 (fun hs_ => (HO0_4.out.1 k_ (hs_).symm)) (fun hn_ => (.inr (Nat.le_trans (by first | exact HK.out.1 | exact (show Kept w _ (fun k_ => (P0_4_ k_) ∨ k_ = g) from by repeat (first | (with_reducible first | exact HK.out | apply Kept.alloc | apply Kept.drewN | apply Kept.drew | refine Kept.setCell ?_ (.inl (.inr rfl)) _) | exact HK.out)).1) hn_))), hk_.2⟩)); have n3_ := Goto.m0 (Kept.then_ (S := (fun k_ => (P0_4_ k_) ∨ k_ = g)) (by repeat (first | (with_reducible first | exact HK.out | apply Kept.alloc | apply Kept.drewN | apply Kept.drew | refine Kept.setCell ?_ (.inl (.inr rfl)) _) | exact HK.out)) hkp (fun k_ hs_ => Or.elim hs_ (fun hs_ => (fun e_ => Or.imp_left Or.inl ((HO0_4.out.1 k_ e_.symm))) hs_) (fun e_ => .inl (.inr e_)))); have n4_ := Goto.m0 (hb); clear BK0; clear HK; clear HB; clear HO0_4; have BK0 := n0_; have HO121 := n1_; have HO124 := n2_; have HK := n3_; have HB := n4_; clear n0_ n1_ n2_ n3_ n4_; (try clear hb); (try clear hkp); (try clear ho0); (try clear ho1)) | ((with_reducible refine gate_callee (f := 45) rfl ?_); refine goesL_ (some 11) rfl rfl Try.func45 (by kernel_rfl) rfl #[.pointer (some ⟨g, 0, none⟩), .int .i64 a1] rfl (by (try simp only [List.map_toArray, List.map_cons, List.map_nil]); first | done | rfl | (simp only [List.length_drop, List.length_take]; rfl)) ?_; (with_reducible refine (route_Routes_has.calls g a0_0 a0_1 A0_2 c0_2 l0_2 A0_3 c0_3 l0_3 (fun k_ => some k_ = (v123 : Value).ownBlock) v123 t122 a1 true t126 w0 _ ?side1 ?side2 ?side3 ?side4 ?side5 ?side6 ?side7 ?side8 A4.out).mono ?_); (case side1 => exact by (with_reducible repeat first | refine blk_drewN ?_ _ | refine blk_drew ?_ | refine blk_alloc ?_ _); exact BK0.out); (case side2 => exact GE0.out); (case side3 => repeat (first | (with_reducible first | exact HB.out | apply below_alloc | apply pw_below_drewN | apply below_drew1 | refine below_set ?_ GE0.out) | exact HB.out)); (case side4 => exact Kd.C_kept_call HR0_2.out (by repeat (first | (with_reducible first | exact HK.out | apply Kept.alloc | apply Kept.drewN | apply Kept.drew | refine Kept.setCell ?_ (.inl (.inr rfl)) _) | exact HK.out)) (fun k_ hs_ => Or.elim hs_ (fun hs_ => (fun e_ => Or.imp_left Or.inl ((HO124.out.1 k_ e_.symm).1)) hs_) (fun e_ => .inl (.inr e_)))); (case side5 => exact HC0_2.out); (case side6 => exact Kd.C_kept_call HR0_3.out (by repeat (first | (with_reducible first | exact HK.out | apply Kept.alloc | apply Kept.drewN | apply Kept.drew | refine Kept.setCell ?_ (.inl (.inr rfl)) _) | exact HK.out)) (fun k_ hs_ => Or.elim hs_ (fun hs_ => (fun e_ => Or.imp_left Or.inl ((HO124.out.1 k_ e_.symm).1)) hs_) (fun e_ => .inl (.inr e_)))); (case side7 => exact HC0_3.out); (case side8 => exact Kd.R_tight rfl HO124.out); rintro e w12 ⟨v127, rfl, ho0, hi, hb, hkp⟩; refine ⟨_, rfl, ?_⟩; have n0_ := Goto.m0 (hi); have n1_ := Goto.m0 (Kd.R_mono (ok' := fun k_ => (P0_4_ k_ ∨ w.heap.size ≤ k_) ∧ some k_ ≠ (v127 : Value).ownBlock) (Kd.R_keptB ((Kd.R_types HO121.out BK0.out (by decide))) hkp (fun k_ hk_ hs_ => Or.elim hs_ (fun hs_ => (hk_.1.2) hs_) (fun e_ => (hk_.2) e_))) (fun k_ hk_ => ⟨hk_.1.1.1, fun e_ => Or.elim (ho0.1 k_ e_.symm) (fun hs_ => hk_.2.1 (.inl hs_)) (fun hn_ => Nat.not_le.2 hk_.2.2 hn_)⟩)); have n2_ := Goto.m0 (Kd.R_mono (ok' := fun k_ => (P0_4_ k_ ∨ w.heap.size ≤ k_) ∧ some k_ ≠ (v120 : Value).ownBlock) ho0 (fun k_ hk_ => ⟨Or.elim hk_ (fun hs_ => (HO124.out.1 k_ (hs_).symm).1) (fun hn_ => (.inr (Nat.le_trans (by first | exact HK.out.1 | exact (show Kept w _ (fun k_ => (P0_4_ k_) ∨ k_ = g) from by repeat (first | (with_reducible first | exact HK.out | apply Kept.alloc | apply Kept.drewN | apply Kept.drew | refine Kept.setCell ?_ (.inl (.inr rfl)) _) | exact HK.out)).1) hn_))), Or.elim hk_ (fun hs_ => fun e_ => ((((Kd.R_types HO121.out BK0.out (by decide))).1 k_ e_.symm).1.2) hs_) (fun hn_ => (Kd.fresh' (Kd.R_lt (Goto.rk HO121)) k_ hn_))⟩)); have n3_ := Goto.m0 (Kept.then_ (S := (fun k_ => (P0_4_ k_) ∨ k_ = g)) (by repeat (first | (with_reducible first | exact HK.out | apply Kept.alloc | apply Kept.drewN | apply Kept.drew | refine Kept.setCell ?_ (.inl (.inr rfl)) _) | exact HK.out)) hkp (fun k_ hs_ => Or.elim hs_ (fun hs_ => (fun e_ => Or.imp_left Or.inl ((HO124.out.1 k_ e_.symm).1)) hs_) (fun e_ => .inl (.inr e_)))); have n4_ := Goto.m0 (hb); clear BK0; clear HO121; clear HK; clear HB; clear HO124; have BK0 := n0_; have HO121 := n1_; have HO128 := n2_; have HK := n3_; have HB := n4_; clear n0_ n1_ n2_ n3_ n4_; (try clear hb); (try clear hkp); (try clear ho0)))
      replace HO121 := Goto.m0 (Kd.R_drew HO121.out); replace HO128 := Goto.m0 (Kd.R_drew HO128.out); replace BK0 := Goto.m0 (blk_drew BK0.out); replace HK := Goto.m0 (Kept.drew HK.out); replace HB := Goto.m0 (below_drew1 HB.out)
      obtain ⟨Ao14, co14, eo14⟩ := Kd.R_slice HO128.out
      (first | subst eo14 | (injection eo14 with f1_ f2_ f3_; have f4_ := f1_.symm; have f5_ := f3_.symm; clear f1_ f2_ f3_; subst f4_; subst f5_))
      have p129 : 0 ≤ (a1 : Int) := Goto.od
      have q129 : a1 < (t126.length : Int) := Goto.od
      obtain ⟨ad129, e129, hx129_0⟩ := Kd.at_int (Kd.R_reads' HO128.out).2.2 a1 p129 q129
      cases e129
      replace p129 := eq_true p129; replace q129 := eq_true q129
      have p130 : 0 ≤ (a1 : Int) := Goto.od
      have q130 : a1 < (l0_3.length : Int) := Goto.od
      obtain ⟨ad130, A130_2, c130_2, A130_3, c130_3, e130, hx130_0, hx130_1, hx130_2, hx130_3, hx130_4, hx130_5, hx130_6, hx130_7, hx130_8, hx130_9, hl130_2, hi130_2, hl130_3, hi130_3⟩ := at_T44 (Kd.C_kept_now HR0_3.out HK.out) a1 p130 q130
      have hw130_9 := hx130_9; have hw130_8 := hx130_8; have hw130_7 := hx130_7; have hw130_6 := hx130_6; have hw130_5 := hx130_5; have hw130_4 := hx130_4; have hw130_3 := hx130_3; have hw130_2 := hx130_2; have hw130_1 := hx130_1; have hw130_0 := hx130_0
      cases e130
      have HR130_2 := Goto.m0 hi130_2
      have HC130_2 := Goto.m0 hl130_2
      clear hi130_2 hl130_2
      have HR130_3 := Goto.m0 hi130_3
      have HC130_3 := Goto.m0 hl130_3
      clear hi130_3 hl130_3; replace p130 := eq_true p130; replace q130 := eq_true q130
      have p10 : 0 ≤ (a1 : Int) := Goto.od
      have q10 : (a1 : Int) < ((t126.length : Int) : Int) := Goto.od
      obtain ⟨go10, co10, eo10, gb10, gl10, cl10, HG10⟩ := Kd.R_form HO128.out (by omega)
      (first | cases eo10 | (injection eo10 with ea_ en_ ec_; (first | subst ea_ | (injection ea_ with ea_; subst ea_)); subst ec_; clear en_))
      have GB10 := Goto.m0 gb10
      have GG10 := Goto.m0 HG10
      clear gb10 gl10 HG10
      have HMgo10 := Goto.m0 (show (P0_4_ go10 ∨ w.heap.size ≤ go10) from (HO128.out.1 _ rfl).1)
      (first | simp only [add_plain] at hx129_0 | skip)
      obtain ⟨hx10_0, hf10_0⟩ := Kd.R_celln 0 HO128.out (a1 : Int) p10 q10
      replace p10 := eq_true p10; replace q10 := eq_true q10
      have HP15 := Kd.R_putn HO128.out (a1 : Int) (Int.tmod (wrap64 ((rd t126 a1) + 1)) (((rd_T44 l0_3 a1).f1).length : Int))
      rw [← Ny131.out] at HP15
      have HQ15 := Goto.m0 HP15
      clear HP15
      refine start_ (n := 26) (S := fun w' => w'.cell? ⟨g, 0, none⟩ = some (.int .i64 a0_0) ∧ w'.cell? ⟨g, 1, none⟩ = some (.int .i64 a0_1) ∧ w'.cell? ⟨g, 2, none⟩ = some (.slice A0_2 l0_2.length c0_2) ∧ w'.cell? ⟨g, 3, none⟩ = some (.slice (some ad130) l0_3.length c0_3) ∧ w'.cell? ⟨g, 4, none⟩ = some (.slice (some ⟨go10, 0, none⟩) t126.length co14) ∧ w'.cell? ⟨go10, (a1).toNat, none⟩ = some (.int .i64 (rd t126 a1)) ∧ w'.cell? (ad130.add ((a1).toNat * 10)) = some (.int .i64 ((rd_T44 l0_3 a1).f0.f0)) ∧ w'.cell? ⟨(ad130.add ((a1).toNat * 10)).block, (ad130.add ((a1).toNat * 10)).off + 1, none⟩ = some (.int .u64 ((rd_T44 l0_3 a1).f0.f1)) ∧ w'.cell? ⟨(ad130.add ((a1).toNat * 10)).block, (ad130.add ((a1).toNat * 10)).off + 2, none⟩ = some (.slice A130_2 ((rd_T44 l0_3 a1).f1).length c130_2) ∧ w'.cell? ⟨(ad130.add ((a1).toNat * 10)).block, (ad130.add ((a1).toNat * 10)).off + 3, none⟩ = some (.slice A130_3 ((rd_T44 l0_3 a1).f2).length c130_3) ∧ w'.cell? ⟨(ad130.add ((a1).toNat * 10)).block, (ad130.add ((a1).toNat * 10)).off + 4, none⟩ = some (.int .i64 ((rd_T44 l0_3 a1).f3)) ∧ w'.cell? ⟨(ad130.add ((a1).toNat * 10)).block, (ad130.add ((a1).toNat * 10)).off + 5, none⟩ = some (.int .i64 ((rd_T44 l0_3 a1).f4)) ∧ w'.cell? ⟨(ad130.add ((a1).toNat * 10)).block, (ad130.add ((a1).toNat * 10)).off + 6, none⟩ = some (.int .i64 ((rd_T44 l0_3 a1).f5)) ∧ w'.cell? ⟨(ad130.add ((a1).toNat * 10)).block, (ad130.add ((a1).toNat * 10)).off + 7, none⟩ = some (.int .i64 ((rd_T44 l0_3 a1).f6)) ∧ w'.cell? ⟨(ad130.add ((a1).toNat * 10)).block, (ad130.add ((a1).toNat * 10)).off + 8, none⟩ = some (.int .i64 ((rd_T44 l0_3 a1).f7)) ∧ w'.cell? ⟨(ad130.add ((a1).toNat * 10)).block, (ad130.add ((a1).toNat * 10)).off + 9, none⟩ = some (.int .i64 ((rd_T44 l0_3 a1).f8))) (ds := [25]) (.replicate 26 false) (by kernel_rfl) rfl rfl ⟨(blk_cell BK0.out 0).trans rfl, (blk_cell BK0.out 1).trans rfl, (blk_cell BK0.out 2).trans rfl, (blk_cell BK0.out 3).trans rfl, (blk_cell BK0.out 4).trans rfl, hx129_0, hx130_0, hx130_1, hx130_2, hx130_3, hx130_4, hx130_5, hx130_6, hx130_7, hx130_8, hx130_9⟩ (fun hHeld => ?_); refine with_tabW route_Routes_Offer.tab3 route_Routes_Offer.bits3 (fun HT_ HW_ => ?_)
      generalize w12.drew = w13 at HO121 HO128 BK0 HK HB GG10 HQ15 HR130_2 HR130_3 hf10_0 hx10_0 hx129_0 hx130_0 hx130_1 hx130_2 hx130_3 hx130_4 hx130_5 hx130_6 hx130_7 hx130_8 hx130_9 hHeld ⊢
      refine Goto.pu 0 12 26 1 ?_
      refine Goto.pu 1 13 26 3 ?_
      refine Goto.pu 2 14 26 7 ?_
      refine Goto.pu 4 16 26 23 ?_
      refine Goto.pu 5 17 26 55 ?_
      refine Goto.pu 6 18 26 119 ?_
      refine Goto.pu 7 19 26 247 ?_
      refine Goto.pu 9 21 26 759 ?_
      refine Goto.pu 13 25 26 8951 ?_
      refine Goto.pu 14 26 26 25335 ?_
      refine Goto.pu 15 27 26 58103 ?_
      refine Goto.pu 16 28 26 123639 ?_
      refine Goto.pu 18 30 26 385783 ?_
      refine take_ (i := 3) (N := some 15) (v := ?_) (a' := ?_) (Goto.bs 26 385791) rfl rfl (take_ofW HT_.out HW_.out (by kernel_rfl)) (fun _ _ _ h => h) (Or.inl ⟨by rfl, ?_⟩) hHeld ?_ ?_
      rotate_left
      ·
       rintro w' ⟨s0, s1, s2, s3, s4, s5, s6, s7, s8, s9, s10, s11, s12, s13, s14, s15⟩
       go_simp
       with_reducible rfl
      rotate_left
      ·
       exact Goto.ap
      refine take_ (i := 8) (N := some 20) (v := ?_) (a' := ?_) (Goto.bs 26 386047) rfl rfl (take_ofW HT_.out HW_.out (by kernel_rfl)) (fun _ _ _ h => h) (Or.inl ⟨by rfl, ?_⟩) hHeld ?_ ?_
      rotate_left
      ·
       rintro w' ⟨s0, s1, s2, s3, s4, s5, s6, s7, s8, s9, s10, s11, s12, s13, s14, s15⟩
       go_simp
       with_reducible rfl
      rotate_left
      ·
       exact Goto.ap
      refine Goto.pu 10 22 26 387071 ?_
      refine take_ (i := 11) (N := some 23) (v := ?_) (a' := ?_) (Goto.bs 26 389119) rfl rfl (take_ofW HT_.out HW_.out (by kernel_rfl)) (fun _ _ _ h => h) (Or.inl ⟨by rfl, ?_⟩) hHeld ?_ ?_
      rotate_left
      ·
       rintro w' ⟨s0, s1, s2, s3, s4, s5, s6, s7, s8, s9, s10, s11, s12, s13, s14, s15⟩
       go_simp
       with_reducible rfl
      rotate_left
      ·
       exact Goto.ap
      refine Goto.pu 12 24 26 393215 ?_
      refine take_ (i := 17) (N := some 29) (v := ?_) (a' := ?_) (Goto.bs 26 524287) rfl rfl (take_ofW HT_.out HW_.out (by kernel_rfl)) (fun _ _ _ h => h) (Or.inl ⟨by rfl, ?_⟩) hHeld ?_ ?_
      rotate_left
      ·
       rintro w' ⟨s0, s1, s2, s3, s4, s5, s6, s7, s8, s9, s10, s11, s12, s13, s14, s15⟩
       go_simp
       with_reducible rfl
      rotate_left
      ·
       exact Goto.ap
      refine Goto.pu 19 31 26 1048575 ?_
      refine Goto.pu 20 32 26 2097151 ?_
      refine take_ (i := 21) (N := some 33) (v := ?_) (a' := ?_) (Goto.bs 26 4194303) rfl rfl (take_ofW HT_.out HW_.out (by kernel_rfl)) (fun _ _ _ h => h) (Or.inl ⟨by rfl, ?_⟩) hHeld ?_ ?_
      rotate_left
      ·
       rintro w' ⟨s0, s1, s2, s3, s4, s5, s6, s7, s8, s9, s10, s11, s12, s13, s14, s15⟩
       go_simp
       with_reducible rfl
      rotate_left
      ·
       exact Goto.ap
      refine Goto.pu 22 34 26 8388607 ?_
      refine Goto.pu 23 35 26 16777215 ?_
      refine Goto.pu 24 36 26 33554431 ?_
      refine last_ (i := 25) (N := none) (Goto.bs 26 67108863) rfl rfl (one_of HT_.out (by kernel_rfl)) (by decide) (fun K hK => ?_)
      refine skip_ (w1 := ?_) (by rfl) rfl ?_ ?_
      rotate_left
      ·
       go_simp
       rfl
      refine hK.out _ _ ?_
      clear hK K
      refine done_ (done_of HT_.out (by kernel_rfl)) ?_
      try go_wp2
      go_ret
      (try simp only [← exists_and_left])
      exact ⟨_, _, Goto.er, by (with_reducible repeat (first | apply Kd.R_alloc | apply Kd.R_drewN | apply Kd.R_drew)); exact Kd.R_mono (Kd.R_far (p := ⟨go10, (a1 : Int).toNat, none⟩) (Kd.R_mono HO121.out (fun k_ hk => (⟨hk, fun e_ => hk.2 (by rw [e_]; rfl)⟩ : _ ∧ k_ ≠ go10))) (fun _ hk => hk.2) (.int .i64 (Int.tmod (wrap64 ((rd t126 a1) + 1)) (((rd_T44 l0_3 a1).f1).length : Int)))) (fun _ hk => ⟨hk.1.1, hk.1.2⟩), by (with_reducible repeat (first | apply Kd.R_alloc | apply Kd.R_drewN | apply Kd.R_drew)); exact HQ15.out, by (with_reducible repeat first | refine blk_drewN ?_ _ | refine blk_drew ?_ | refine blk_alloc ?_ _); refine blk_far ?_ (by have h_ := Kd.R_ne HO128.out BK0.out (by decide); intro e_; exact h_ (by rw [e_]; rfl)) _; (with_reducible repeat first | refine blk_drewN ?_ _ | refine blk_drew ?_ | refine blk_alloc ?_ _); exact BK0.out, by repeat (first | (with_reducible first | exact HB.out | apply below_alloc | apply pw_below_drewN | apply below_drew1 | refine below_set ?_ GB10.out | refine below_set ?_ GE0.out) | exact HB.out), by repeat (first | (with_reducible first | exact HK.out | apply Kept.alloc | apply Kept.drewN | apply Kept.drew | refine Kept.setCell ?_ (Or.imp_left Or.inl HMgo10.out) _ | refine Kept.setCell ?_ (.inl (.inr rfl)) _) | exact HK.out)⟩
    ·
     rw [if_neg c8] at H
     exact absurd H (by simp)
   ·
    rw [if_neg c7] at H
    exact absurd H (by simp)
  ·
   rw [if_neg c6] at H
   exact absurd H (by simp)
 ·
  replace c5 := Bool.eq_false_iff.mpr c5
  subst c5
  rw [if_neg (show ¬ (false = true) by decide)] at H
  simp only [Option.some.injEq, Prod.mk.injEq] at H
  obtain ⟨rfl, rfl⟩ := H
  go_enter Try.func20, Try.ntmps20
  go_wp2_with (first | ((with_reducible refine gate_callee (f := 18) rfl ?_); refine goesL_ (some 8) rfl rfl Try.func18 (by kernel_rfl) rfl #[.pointer (some ⟨g, 0, none⟩), .int .i64 a1] rfl (by (try simp only [List.map_toArray, List.map_cons, List.map_nil]); first | done | rfl | (simp only [List.length_drop, List.length_take]; rfl)) ?_; (with_reducible refine (route_Routes_Now.calls g a0_0 a0_1 A0_2 c0_2 l0_2 A0_3 c0_3 l0_3 (fun k_ => some k_ = (u9000_ : Value).ownBlock) u9000_ l0_4 a1 t119 t122 w0 _ ?side1 ?side2 ?side3 ?side4 ?side5 ?side6 ?side7 ?side8 A3.out).mono ?_); (case side1 => exact by (with_reducible repeat first | refine blk_drewN ?_ _ | refine blk_drew ?_ | refine blk_alloc ?_ _); exact BK0.out); (case side2 => exact GE0.out); (case side3 => repeat (first | (with_reducible first | exact HB.out | apply below_alloc | apply pw_below_drewN | apply below_drew1 | refine below_set ?_ GE0.out) | exact HB.out)); (case side4 => exact Kd.C_kept_call HR0_2.out (by repeat (first | (with_reducible first | exact HK.out | apply Kept.alloc | apply Kept.drewN | apply Kept.drew | refine Kept.setCell ?_ (.inl (.inr rfl)) _) | exact HK.out)) (fun k_ hs_ => Or.elim hs_ (fun hs_ => (fun e_ => Or.imp_left Or.inl ((HO0_4.out.1 k_ e_.symm))) hs_) (fun e_ => .inl (.inr e_)))); (case side5 => exact HC0_2.out); (case side6 => exact Kd.C_kept_call HR0_3.out (by repeat (first | (with_reducible first | exact HK.out | apply Kept.alloc | apply Kept.drewN | apply Kept.drew | refine Kept.setCell ?_ (.inl (.inr rfl)) _) | exact HK.out)) (fun k_ hs_ => Or.elim hs_ (fun hs_ => (fun e_ => Or.imp_left Or.inl ((HO0_4.out.1 k_ e_.symm))) hs_) (fun e_ => .inl (.inr e_)))); (case side7 => exact HC0_3.out); (case side8 => exact Kd.R_tight rfl HO0_4.out); rintro e w16 ⟨v120, v123, rfl, ho0, ho1, hi, hb, hkp⟩; refine ⟨_, rfl, ?_⟩; have n0_ := Goto.m0 (hi); have n1_ := Goto.m0 (Kd.R_mono (ok' := fun k_ => (P0_4_ k_ ∨ w.heap.size ≤ k_) ∧ some k_ ≠ (v123 : Value).ownBlock) ho0 (fun k_ hk_ => ⟨Or.elim hk_.1 (fun hs_ => (HO0_4.out.1 k_ (hs_).symm)) (fun hn_ => (.inr (Nat.le_trans (by first | exact HK.out.1 | exact (show Kept w _ (fun k_ => (P0_4_ k_) ∨ k_ = g) from by repeat (first | (with_reducible first | exact HK.out | apply Kept.alloc | apply Kept.drewN | apply Kept.drew | refine Kept.setCell ?_ (.inl (.inr rfl)) _) | exact HK.out)).1) hn_))), hk_.2⟩)); have n2_ := Goto.m0 (Kd.R_mono (ok' := fun k_ => (P0_4_ k_ ∨ w.heap.size ≤ k_) ∧ some k_ ≠ (v120 : Value).ownBlock) ho1 (fun k_ hk_ => ⟨Or.elim hk_.1 (fun hs_ => (HO0_4.out.1 k_ (hs_).symm)) (fun hn_ => (.inr (Nat.le_trans (by first | exact HK.out.1 | exact (show Kept w _ (fun k_ => (P0_4_ k_) ∨ k_ = g) from by repeat (first | (with_reducible first | exact HK.out | apply Kept.alloc | apply Kept.drewN | apply Kept.drew | refine Kept.setCell ?_ (.inl (.inr rfl)) _) | exact HK.out)).1) hn_))), hk_.2⟩)); have n3_ := Goto.m0 (Kept.then_ (S := (fun k_ => (P0_4_ k_) ∨ k_ = g)) (by repeat (first | (with_reducible first | exact HK.out | apply Kept.alloc | apply Kept.drewN | apply Kept.drew | refine Kept.setCell ?_ (.inl (.inr rfl)) _) | exact HK.out)) hkp (fun k_ hs_ => Or.elim hs_ (fun hs_ => (fun e_ => Or.imp_left Or.inl ((HO0_4.out.1 k_ e_.symm))) hs_) (fun e_ => .inl (.inr e_)))); have n4_ := Goto.m0 (hb); clear BK0; clear HK; clear HB; clear HO0_4; have BK0 := n0_; have HO121 := n1_; have HO124 := n2_; have HK := n3_; have HB := n4_; clear n0_ n1_ n2_ n3_ n4_; (try clear hb); (try clear hkp); (try clear ho0); (try clear ho1)) | ((with_reducible refine gate_callee (f := 45) rfl ?_); refine goesL_ (some 11) rfl rfl Try.func45 (by kernel_rfl) rfl #[.pointer (some ⟨g, 0, none⟩), .int .i64 a1] rfl (by (try simp only [List.map_toArray, List.map_cons, List.map_nil]); first | done | rfl | (simp only [List.length_drop, List.length_take]; rfl)) ?_; (with_reducible refine (route_Routes_has.calls g a0_0 a0_1 A0_2 c0_2 l0_2 A0_3 c0_3 l0_3 (fun k_ => some k_ = (v123 : Value).ownBlock) v123 t122 a1 false t126 w0 _ ?side1 ?side2 ?side3 ?side4 ?side5 ?side6 ?side7 ?side8 A4.out).mono ?_); (case side1 => exact by (with_reducible repeat first | refine blk_drewN ?_ _ | refine blk_drew ?_ | refine blk_alloc ?_ _); exact BK0.out); (case side2 => exact GE0.out); (case side3 => repeat (first | (with_reducible first | exact HB.out | apply below_alloc | apply pw_below_drewN | apply below_drew1 | refine below_set ?_ GE0.out) | exact HB.out)); (case side4 => exact Kd.C_kept_call HR0_2.out (by repeat (first | (with_reducible first | exact HK.out | apply Kept.alloc | apply Kept.drewN | apply Kept.drew | refine Kept.setCell ?_ (.inl (.inr rfl)) _) | exact HK.out)) (fun k_ hs_ => Or.elim hs_ (fun hs_ => (fun e_ => Or.imp_left Or.inl ((HO124.out.1 k_ e_.symm).1)) hs_) (fun e_ => .inl (.inr e_)))); (case side5 => exact HC0_2.out); (case side6 => exact Kd.C_kept_call HR0_3.out (by repeat (first | (with_reducible first | exact HK.out | apply Kept.alloc | apply Kept.drewN | apply Kept.drew | refine Kept.setCell ?_ (.inl (.inr rfl)) _) | exact HK.out)) (fun k_ hs_ => Or.elim hs_ (fun hs_ => (fun e_ => Or.imp_left Or.inl ((HO124.out.1 k_ e_.symm).1)) hs_) (fun e_ => .inl (.inr e_)))); (case side7 => exact HC0_3.out); (case side8 => exact Kd.R_tight rfl HO124.out); rintro e w17 ⟨v127, rfl, ho0, hi, hb, hkp⟩; refine ⟨_, rfl, ?_⟩; have n0_ := Goto.m0 (hi); have n1_ := Goto.m0 (Kd.R_mono (ok' := fun k_ => (P0_4_ k_ ∨ w.heap.size ≤ k_) ∧ some k_ ≠ (v127 : Value).ownBlock) (Kd.R_keptB ((Kd.R_types HO121.out BK0.out (by decide))) hkp (fun k_ hk_ hs_ => Or.elim hs_ (fun hs_ => (hk_.1.2) hs_) (fun e_ => (hk_.2) e_))) (fun k_ hk_ => ⟨hk_.1.1.1, fun e_ => Or.elim (ho0.1 k_ e_.symm) (fun hs_ => hk_.2.1 (.inl hs_)) (fun hn_ => Nat.not_le.2 hk_.2.2 hn_)⟩)); have n2_ := Goto.m0 (Kd.R_mono (ok' := fun k_ => (P0_4_ k_ ∨ w.heap.size ≤ k_) ∧ some k_ ≠ (v120 : Value).ownBlock) ho0 (fun k_ hk_ => ⟨Or.elim hk_ (fun hs_ => (HO124.out.1 k_ (hs_).symm).1) (fun hn_ => (.inr (Nat.le_trans (by first | exact HK.out.1 | exact (show Kept w _ (fun k_ => (P0_4_ k_) ∨ k_ = g) from by repeat (first | (with_reducible first | exact HK.out | apply Kept.alloc | apply Kept.drewN | apply Kept.drew | refine Kept.setCell ?_ (.inl (.inr rfl)) _) | exact HK.out)).1) hn_))), Or.elim hk_ (fun hs_ => fun e_ => ((((Kd.R_types HO121.out BK0.out (by decide))).1 k_ e_.symm).1.2) hs_) (fun hn_ => (Kd.fresh' (Kd.R_lt (Goto.rk HO121)) k_ hn_))⟩)); have n3_ := Goto.m0 (Kept.then_ (S := (fun k_ => (P0_4_ k_) ∨ k_ = g)) (by repeat (first | (with_reducible first | exact HK.out | apply Kept.alloc | apply Kept.drewN | apply Kept.drew | refine Kept.setCell ?_ (.inl (.inr rfl)) _) | exact HK.out)) hkp (fun k_ hs_ => Or.elim hs_ (fun hs_ => (fun e_ => Or.imp_left Or.inl ((HO124.out.1 k_ e_.symm).1)) hs_) (fun e_ => .inl (.inr e_)))); have n4_ := Goto.m0 (hb); clear BK0; clear HO121; clear HK; clear HB; clear HO124; have BK0 := n0_; have HO121 := n1_; have HO128 := n2_; have HK := n3_; have HB := n4_; clear n0_ n1_ n2_ n3_ n4_; (try clear hb); (try clear hkp); (try clear ho0)))
  go_ret
  (try simp only [← exists_and_left])
  exact ⟨_, _, Goto.er, Goto.rk HO121, Goto.rk HO128, by (with_reducible repeat first | refine blk_drewN ?_ _ | refine blk_drew ?_ | refine blk_alloc ?_ _); exact BK0.out, by repeat (first | (with_reducible first | exact HB.out | apply below_alloc | apply pw_below_drewN | apply below_drew1 | refine below_set ?_ GE0.out) | exact HB.out), by repeat (first | (with_reducible first | exact HK.out | apply Kept.alloc | apply Kept.drewN | apply Kept.drew | refine Kept.setCell ?_ (.inl (.inr rfl)) _) | exact HK.out)⟩

/-! ### route_Routes_Turn: function 22 -/
def route_Routes_Turn.f (a0_0 : Int) (a0_1 : Int) (l0_2 : List (List Int)) (l0_3 : List (S44)) (l0_4 : List Int) (a1 : Int) : Option (Int × List Int) := (route_Routes_has.f a0_0 a0_1 l0_2 l0_3 l0_4 a1).bind fun bt132 => (if bt132.1 = true then (if 0 ≤ a1 then (if a1 < (bt132.2.length : Int) then (some (rd bt132.2 a1, bt132.2)) else (none)) else (none)) else (some (0, bt132.2)))
set_option maxHeartbeats 8000000 in
set_option maxRecDepth 100000 in
theorem route_Routes_Turn.calls (g : Nat) (a0_0 : Int) (a0_1 : Int) (A0_2 : Option Addr) (c0_2 : Nat) (l0_2 : List (List Int)) (A0_3 : Option Addr) (c0_3 : Nat) (l0_3 : List (S44)) (P0_4_ : Nat → Prop) (u9000_ : Value) (l0_4 : List Int) (a1 : Int) (r1 : Int) (r2 : List Int) (w0 w : World) (hI : w.heap[g]? = some (.cells #[.int .i64 a0_0, .int .i64 a0_1, .slice A0_2 l0_2.length c0_2, .slice A0_3 l0_3.length c0_3, u9000_] 74 (0, 0))) (hG : w0.heap.size ≤ g) (hB : Below w0.heap.size w0 w) (hr0_2 : ∀ W_, Kept w W_ (fun k_ => (P0_4_ k_) ∨ k_ = g) → Kd.C (Kd.slice 3 (Kd.int .i64)) W_ A0_2 l0_2.length l0_2) (hc0_2 : l0_2.length ≤ c0_2) (hr0_3 : ∀ W_, Kept w W_ (fun k_ => (P0_4_ k_) ∨ k_ = g) → Kd.C k44 W_ A0_3 l0_3.length l0_3) (hc0_3 : l0_3.length ≤ c0_3) (ho0_4 : Kd.R (Kd.int .i64) 3 w w0.heap.size P0_4_ u9000_ l0_4) (h : route_Routes_Turn.f a0_0 a0_1 l0_2 l0_3 l0_4 a1 = some (r1, r2)) :
    Calls Try.prog 22 #[.pointer (some ⟨g, 0, none⟩), .int .i64 a1] w fun e w' => ∃ v1_ : Value, e = .returned (.int .i64 r1) ∧ Kd.R (Kd.int .i64) 3 w' w0.heap.size (fun k_ => (P0_4_ k_ ∨ w.heap.size ≤ k_)) v1_ r2 ∧ w'.heap[g]? = some (.cells #[.int .i64 a0_0, .int .i64 a0_1, .slice A0_2 l0_2.length c0_2, .slice A0_3 l0_3.length c0_3, v1_] 74 (0, 0)) ∧ Below w0.heap.size w0 w' ∧ Kept w w' (fun k_ => (P0_4_ k_) ∨ k_ = g) := by
 have HR0_2 := Goto.m0 hr0_2
 have HC0_2 := Goto.m0 hc0_2
 clear hr0_2 hc0_2
 have HR0_3 := Goto.m0 hr0_3
 have HC0_3 := Goto.m0 hc0_3
 clear hr0_3 hc0_3
 have HO0_4 := Goto.m0 (show Kd.R (Kd.int .i64) 3 w w0.heap.size (fun k_ => (P0_4_ k_ ∨ w.heap.size ≤ k_)) u9000_ l0_4 from Kd.R_mono ho0_4 (fun k_ hk => (.inl hk)))
 have BK0 := Goto.m0 hI
 have GE0 := Goto.m0 hG
 clear hI hG
 have HK := Goto.m0 (Kept.refl w (fun k_ => (P0_4_ k_) ∨ k_ = g))
 have HW0 := Goto.m0 hB.size
 have HB := Goto.m0 hB
 clear hB
 have H : ((route_Routes_has.f a0_0 a0_1 l0_2 l0_3 l0_4 a1).bind fun bt132 => (if bt132.1 = true then (if 0 ≤ a1 then (if a1 < (bt132.2.length : Int) then (some (rd bt132.2 a1, bt132.2)) else (none)) else (none)) else (some (0, bt132.2)))) = some (r1, r2) := h
 clear h
 replace H := Option.bind_eq_some_iff.mp H
 obtain ⟨⟨t132, t133⟩, A30, H⟩ := H
 replace H : (if t132 = true then (if 0 ≤ a1 then (if a1 < (t133.length : Int) then (some (rd t133 a1, t133)) else (none)) else (none)) else (some (0, t133))) = some (r1, r2) := H
 have A3 := Goto.m0 A30
 clear A30
 by_cases c4 : t132 = true
 ·
  subst c4
  rw [if_pos rfl] at H
  by_cases c5 : 0 ≤ a1
  ·
   rw [if_pos c5] at H
   have c5b0 : decide (0 ≤ a1) = true := decide_eq_true c5
   clear c5
   by_cases c6 : a1 < (t133.length : Int)
   ·
    rw [if_pos c6] at H
    have c6b0 : decide (a1 < (t133.length : Int)) = true := decide_eq_true c6
    clear c6
    simp only [Option.some.injEq, Prod.mk.injEq] at H
    obtain ⟨rfl, rfl⟩ := H
    go_enter Try.func22, Try.ntmps22
    go_wp2_with (first | ((with_reducible refine gate_callee (f := 45) rfl ?_); refine goesL_ (some 7) rfl rfl Try.func45 (by kernel_rfl) rfl #[.pointer (some ⟨g, 0, none⟩), .int .i64 a1] rfl (by (try simp only [List.map_toArray, List.map_cons, List.map_nil]); first | done | rfl | (simp only [List.length_drop, List.length_take]; rfl)) ?_; (with_reducible refine (route_Routes_has.calls g a0_0 a0_1 A0_2 c0_2 l0_2 A0_3 c0_3 l0_3 (fun k_ => some k_ = (u9000_ : Value).ownBlock) u9000_ l0_4 a1 true t133 w0 _ ?side1 ?side2 ?side3 ?side4 ?side5 ?side6 ?side7 ?side8 A3.out).mono ?_); (case side1 => exact by (with_reducible repeat first | refine blk_drewN ?_ _ | refine blk_drew ?_ | refine blk_alloc ?_ _); exact BK0.out); (case side2 => exact GE0.out); (case side3 => repeat (first | (with_reducible first | exact HB.out | apply below_alloc | apply pw_below_drewN | apply below_drew1 | refine below_set ?_ GE0.out) | exact HB.out)); (case side4 => exact Kd.C_kept_call HR0_2.out (by repeat (first | (with_reducible first | exact HK.out | apply Kept.alloc | apply Kept.drewN | apply Kept.drew | refine Kept.setCell ?_ (.inl (.inr rfl)) _) | exact HK.out)) (fun k_ hs_ => Or.elim hs_ (fun hs_ => (fun e_ => Or.imp_left Or.inl ((HO0_4.out.1 k_ e_.symm))) hs_) (fun e_ => .inl (.inr e_)))); (case side5 => exact HC0_2.out); (case side6 => exact Kd.C_kept_call HR0_3.out (by repeat (first | (with_reducible first | exact HK.out | apply Kept.alloc | apply Kept.drewN | apply Kept.drew | refine Kept.setCell ?_ (.inl (.inr rfl)) _) | exact HK.out)) (fun k_ hs_ => Or.elim hs_ (fun hs_ => (fun e_ => Or.imp_left Or.inl ((HO0_4.out.1 k_ e_.symm))) hs_) (fun e_ => .inl (.inr e_)))); (case side7 => exact HC0_3.out); (case side8 => exact Kd.R_tight rfl HO0_4.out); rintro e w7 ⟨v134, rfl, ho0, hi, hb, hkp⟩; refine ⟨_, rfl, ?_⟩; have n0_ := Goto.m0 (hi); have n1_ := Goto.m0 (Kd.R_mono (ok' := fun k_ => (P0_4_ k_ ∨ w.heap.size ≤ k_)) ho0 (fun k_ hk_ => Or.elim hk_ (fun hs_ => (HO0_4.out.1 k_ (hs_).symm)) (fun hn_ => (.inr (Nat.le_trans (by first | exact HK.out.1 | exact (show Kept w _ (fun k_ => (P0_4_ k_) ∨ k_ = g) from by repeat (first | (with_reducible first | exact HK.out | apply Kept.alloc | apply Kept.drewN | apply Kept.drew | refine Kept.setCell ?_ (.inl (.inr rfl)) _) | exact HK.out)).1) hn_))))); have n2_ := Goto.m0 (Kept.then_ (S := (fun k_ => (P0_4_ k_) ∨ k_ = g)) (by repeat (first | (with_reducible first | exact HK.out | apply Kept.alloc | apply Kept.drewN | apply Kept.drew | refine Kept.setCell ?_ (.inl (.inr rfl)) _) | exact HK.out)) hkp (fun k_ hs_ => Or.elim hs_ (fun hs_ => (fun e_ => Or.imp_left Or.inl ((HO0_4.out.1 k_ e_.symm))) hs_) (fun e_ => .inl (.inr e_)))); have n3_ := Goto.m0 (hb); clear BK0; clear HK; clear HB; clear HO0_4; have BK0 := n0_; have HO135 := n1_; have HK := n2_; have HB := n3_; clear n0_ n1_ n2_ n3_; (try clear hb); (try clear hkp); (try clear ho0); have hcz8_0 := Goto.bc0 BK0; have hcz8_1 := Goto.bc1 BK0; have hcz8_2 := Goto.bc2 BK0; have hcz8_3 := Goto.bc3 BK0; have hcz8_4 := Goto.bc4 BK0; have hfz8_0 := Goto.bf BK0 0; have hfz8_1 := Goto.bf BK0 1; have hfz8_2 := Goto.bf BK0 2; have hfz8_3 := Goto.bf BK0 3; have hfz8_4 := Goto.bf BK0 4; obtain ⟨Ao9, co9, eo9⟩ := Kd.R_slice HO135.out; subst eo9; have p136 : 0 ≤ (a1 : Int) := Goto.od; have q136 : a1 < (t133.length : Int) := Goto.od; obtain ⟨ad136, e136, hx136_0⟩ := Kd.at_int (Kd.R_reads' HO135.out).2.2 a1 p136 q136; cases e136; replace p136 := eq_true p136; replace q136 := eq_true q136))
    go_ret
    (try simp only [← exists_and_left])
    exact ⟨_, Goto.er, Goto.rk HO135, by (with_reducible repeat first | refine blk_drewN ?_ _ | refine blk_drew ?_ | refine blk_alloc ?_ _); exact BK0.out, by repeat (first | (with_reducible first | exact HB.out | apply below_alloc | apply pw_below_drewN | apply below_drew1 | refine below_set ?_ GE0.out) | exact HB.out), by repeat (first | (with_reducible first | exact HK.out | apply Kept.alloc | apply Kept.drewN | apply Kept.drew | refine Kept.setCell ?_ (.inl (.inr rfl)) _) | exact HK.out)⟩
   ·
    rw [if_neg c6] at H
    exact absurd H (by simp)
  ·
   rw [if_neg c5] at H
   exact absurd H (by simp)
 ·
  replace c4 := Bool.eq_false_iff.mpr c4
  subst c4
  rw [if_neg (show ¬ (false = true) by decide)] at H
  simp only [Option.some.injEq, Prod.mk.injEq] at H
  obtain ⟨rfl, rfl⟩ := H
  go_enter Try.func22, Try.ntmps22
  go_wp2_with (first | ((with_reducible refine gate_callee (f := 45) rfl ?_); refine goesL_ (some 7) rfl rfl Try.func45 (by kernel_rfl) rfl #[.pointer (some ⟨g, 0, none⟩), .int .i64 a1] rfl (by (try simp only [List.map_toArray, List.map_cons, List.map_nil]); first | done | rfl | (simp only [List.length_drop, List.length_take]; rfl)) ?_; (with_reducible refine (route_Routes_has.calls g a0_0 a0_1 A0_2 c0_2 l0_2 A0_3 c0_3 l0_3 (fun k_ => some k_ = (u9000_ : Value).ownBlock) u9000_ l0_4 a1 false t133 w0 _ ?side1 ?side2 ?side3 ?side4 ?side5 ?side6 ?side7 ?side8 A3.out).mono ?_); (case side1 => exact by (with_reducible repeat first | refine blk_drewN ?_ _ | refine blk_drew ?_ | refine blk_alloc ?_ _); exact BK0.out); (case side2 => exact GE0.out); (case side3 => repeat (first | (with_reducible first | exact HB.out | apply below_alloc | apply pw_below_drewN | apply below_drew1 | refine below_set ?_ GE0.out) | exact HB.out)); (case side4 => exact Kd.C_kept_call HR0_2.out (by repeat (first | (with_reducible first | exact HK.out | apply Kept.alloc | apply Kept.drewN | apply Kept.drew | refine Kept.setCell ?_ (.inl (.inr rfl)) _) | exact HK.out)) (fun k_ hs_ => Or.elim hs_ (fun hs_ => (fun e_ => Or.imp_left Or.inl ((HO0_4.out.1 k_ e_.symm))) hs_) (fun e_ => .inl (.inr e_)))); (case side5 => exact HC0_2.out); (case side6 => exact Kd.C_kept_call HR0_3.out (by repeat (first | (with_reducible first | exact HK.out | apply Kept.alloc | apply Kept.drewN | apply Kept.drew | refine Kept.setCell ?_ (.inl (.inr rfl)) _) | exact HK.out)) (fun k_ hs_ => Or.elim hs_ (fun hs_ => (fun e_ => Or.imp_left Or.inl ((HO0_4.out.1 k_ e_.symm))) hs_) (fun e_ => .inl (.inr e_)))); (case side7 => exact HC0_3.out); (case side8 => exact Kd.R_tight rfl HO0_4.out); rintro e w10 ⟨v134, rfl, ho0, hi, hb, hkp⟩; refine ⟨_, rfl, ?_⟩; have n0_ := Goto.m0 (hi); have n1_ := Goto.m0 (Kd.R_mono (ok' := fun k_ => (P0_4_ k_ ∨ w.heap.size ≤ k_)) ho0 (fun k_ hk_ => Or.elim hk_ (fun hs_ => (HO0_4.out.1 k_ (hs_).symm)) (fun hn_ => (.inr (Nat.le_trans (by first | exact HK.out.1 | exact (show Kept w _ (fun k_ => (P0_4_ k_) ∨ k_ = g) from by repeat (first | (with_reducible first | exact HK.out | apply Kept.alloc | apply Kept.drewN | apply Kept.drew | refine Kept.setCell ?_ (.inl (.inr rfl)) _) | exact HK.out)).1) hn_))))); have n2_ := Goto.m0 (Kept.then_ (S := (fun k_ => (P0_4_ k_) ∨ k_ = g)) (by repeat (first | (with_reducible first | exact HK.out | apply Kept.alloc | apply Kept.drewN | apply Kept.drew | refine Kept.setCell ?_ (.inl (.inr rfl)) _) | exact HK.out)) hkp (fun k_ hs_ => Or.elim hs_ (fun hs_ => (fun e_ => Or.imp_left Or.inl ((HO0_4.out.1 k_ e_.symm))) hs_) (fun e_ => .inl (.inr e_)))); have n3_ := Goto.m0 (hb); clear BK0; clear HK; clear HB; clear HO0_4; have BK0 := n0_; have HO135 := n1_; have HK := n2_; have HB := n3_; clear n0_ n1_ n2_ n3_; (try clear hb); (try clear hkp); (try clear ho0)))
  go_ret
  (try simp only [← exists_and_left])
  exact ⟨_, Goto.er, Goto.rk HO135, by (with_reducible repeat first | refine blk_drewN ?_ _ | refine blk_drew ?_ | refine blk_alloc ?_ _); exact BK0.out, by repeat (first | (with_reducible first | exact HB.out | apply below_alloc | apply pw_below_drewN | apply below_drew1 | refine below_set ?_ GE0.out) | exact HB.out), by repeat (first | (with_reducible first | exact HK.out | apply Kept.alloc | apply Kept.drewN | apply Kept.drew | refine Kept.setCell ?_ (.inl (.inr rfl)) _) | exact HK.out)⟩

end Go.Proofs.Ytbhfkhcedjgpdaa.P
