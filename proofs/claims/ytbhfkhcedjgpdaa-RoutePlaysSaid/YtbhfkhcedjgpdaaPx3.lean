/- Printed by a program of this workplace (a turned copy of the kit's optional print), out of the translation; not trusted: Lean checks it. -/
import Derived.Test.YtbhfkhcedjgpdaaPx0
import Derived.Test.YtbhfkhcedjgpdaaPx2
import Derived.Test.YtbhfkhcedjgpdaaExt
namespace Go.Proofs.Ytbhfkhcedjgpdaa.P
open Go.RowKit Go.Proofs.YtbhfkhcedjgpdaaW.PrintWords Go.Proofs.YtbhfkhcedjgpdaaW.PrintLast Go.Proofs.YtbhfkhcedjgpdaaW.PrintMore
attribute [local go_sem] max2_int min2_int max_two min_two max_three min_three max_four min_four   -- for this text's walks alone
set_option linter.unusedVariables false
set_option linter.unusedSimpArgs false

/-! ### route_Routes_Now: function 18 -/
def route_Routes_Now.f (a0_0 : Int) (a0_1 : Int) (l0_2 : List (List Int)) (l0_3 : List (S44)) (l0_4 : List Int) (a1 : Int) : Option (List Int × List Int) := (route_Routes_has.f a0_0 a0_1 l0_2 l0_3 l0_4 a1).bind fun bt109 => (if bt109.1 = true then (if 0 ≤ a1 then (if a1 < (l0_3.length : Int) then (if a1 < (bt109.2.length : Int) then (if 0 ≤ (rd bt109.2 a1) then (if (rd bt109.2 a1) < (((rd_T44 l0_3 a1).f1).length : Int) then ((ext_46.f (rd_L1 ((rd_T44 l0_3 a1).f1) (rd bt109.2 a1))).bind fun t116 => (some (t116, bt109.2))) else (none)) else (none)) else (none)) else (none)) else (none)) else (some (([] : List Int), bt109.2)))
def route_Routes_Now.T3 : Bool × List (List Nat × List Nat) := (true, [([], []), ([0], [0]), ([1], [1]), ([2], [2]), ([3], [3]), ([], []), ([4, 5], [4, 5]), ([6], [6]), ([7], [7]), ([], []), ([9], [9]), ([10], [10]), ([11], [11]), ([], []), ([12, 13], [12, 13]), ([14], [14]), ([8, 15], [8, 15]), ([16], [16]), ([17], [17]), ([18, 18, 0, 1, 2, 3, 4, 5, 6, 7, 8, 9, 10, 11, 12, 13, 14, 15, 16, 17, 18], [18])])
def route_Routes_Now.B3 : List Nat := [0, 1, 3, 7, 15, 0, 63, 127, 255, 0, 512, 1536, 3584, 0, 15872, 32256, 65535, 131071, 262143, 524287]
theorem route_Routes_Now.tab3 : rtab .any (opsOf Try.f18 3) = route_Routes_Now.T3 := by kernel_rfl
theorem route_Routes_Now.bits3 : waitsOk route_Routes_Now.T3.2 route_Routes_Now.B3 = true := by kernel_rfl
set_option maxHeartbeats 8000000 in
set_option maxRecDepth 100000 in
theorem route_Routes_Now.calls (g : Nat) (a0_0 : Int) (a0_1 : Int) (A0_2 : Option Addr) (c0_2 : Nat) (l0_2 : List (List Int)) (A0_3 : Option Addr) (c0_3 : Nat) (l0_3 : List (S44)) (P0_4_ : Nat → Prop) (u9000_ : Value) (l0_4 : List Int) (a1 : Int) (r1 : List Int) (r2 : List Int) (w0 w : World) (hI : w.heap[g]? = some (.cells #[.int .i64 a0_0, .int .i64 a0_1, .slice A0_2 l0_2.length c0_2, .slice A0_3 l0_3.length c0_3, u9000_] 74 (0, 0))) (hG : w0.heap.size ≤ g) (hB : Below w0.heap.size w0 w) (hr0_2 : ∀ W_, Kept w W_ (fun k_ => (P0_4_ k_) ∨ k_ = g) → Kd.C (Kd.slice 3 (Kd.int .i64)) W_ A0_2 l0_2.length l0_2) (hc0_2 : l0_2.length ≤ c0_2) (hr0_3 : ∀ W_, Kept w W_ (fun k_ => (P0_4_ k_) ∨ k_ = g) → Kd.C k44 W_ A0_3 l0_3.length l0_3) (hc0_3 : l0_3.length ≤ c0_3) (ho0_4 : Kd.R (Kd.int .i64) 3 w w0.heap.size P0_4_ u9000_ l0_4) (h : route_Routes_Now.f a0_0 a0_1 l0_2 l0_3 l0_4 a1 = some (r1, r2)) :
    Calls Try.prog 18 #[.pointer (some ⟨g, 0, none⟩), .int .i64 a1] w fun e w' => ∃ v0_ v1_ : Value, e = .returned (v0_) ∧ Kd.R (Kd.int .i64) 3 w' w0.heap.size (fun k_ => (P0_4_ k_ ∨ w.heap.size ≤ k_) ∧ some k_ ≠ (v1_ : Value).ownBlock) v0_ r1 ∧ Kd.R (Kd.int .i64) 3 w' w0.heap.size (fun k_ => (P0_4_ k_ ∨ w.heap.size ≤ k_) ∧ some k_ ≠ (v0_ : Value).ownBlock) v1_ r2 ∧ w'.heap[g]? = some (.cells #[.int .i64 a0_0, .int .i64 a0_1, .slice A0_2 l0_2.length c0_2, .slice A0_3 l0_3.length c0_3, v1_] 74 (0, 0)) ∧ Below w0.heap.size w0 w' ∧ Kept w w' (fun k_ => (P0_4_ k_) ∨ k_ = g) := by
 have HR0_2 := Goto.m0 hr0_2
 have HC0_2 := Goto.m0 hc0_2
 clear hr0_2 hc0_2
 have HR0_3 := Goto.m0 hr0_3
 have HC0_3 := Goto.m0 hc0_3
 clear hr0_3 hc0_3
 have HO0_4 := Goto.m0 (show Kd.R (Kd.int .i64) 3 w w0.heap.size (fun k_ => (P0_4_ k_ ∨ w.heap.size ≤ k_)) u9000_ l0_4 from Kd.R_mono ho0_4 (fun k_ hk => (.inl hk)))
 have BK0 := Goto.m0 hI
 have GE0 := Goto.m0 hG
 clear hI hG
 have HK := Goto.m0 (Kept.refl w (fun k_ => (P0_4_ k_) ∨ k_ = g))
 have HW0 := Goto.m0 hB.size
 have HB := Goto.m0 hB
 clear hB
 have H : ((route_Routes_has.f a0_0 a0_1 l0_2 l0_3 l0_4 a1).bind fun bt109 => (if bt109.1 = true then (if 0 ≤ a1 then (if a1 < (l0_3.length : Int) then (if a1 < (bt109.2.length : Int) then (if 0 ≤ (rd bt109.2 a1) then (if (rd bt109.2 a1) < (((rd_T44 l0_3 a1).f1).length : Int) then ((ext_46.f (rd_L1 ((rd_T44 l0_3 a1).f1) (rd bt109.2 a1))).bind fun t116 => (some (t116, bt109.2))) else (none)) else (none)) else (none)) else (none)) else (none)) else (some (([] : List Int), bt109.2)))) = some (r1, r2) := h
 clear h
 replace H := Option.bind_eq_some_iff.mp H
 obtain ⟨⟨t109, t110⟩, A30, H⟩ := H
 replace H : (if t109 = true then (if 0 ≤ a1 then (if a1 < (l0_3.length : Int) then (if a1 < (t110.length : Int) then (if 0 ≤ (rd t110 a1) then (if (rd t110 a1) < (((rd_T44 l0_3 a1).f1).length : Int) then ((ext_46.f (rd_L1 ((rd_T44 l0_3 a1).f1) (rd t110 a1))).bind fun t116 => (some (t116, t110))) else (none)) else (none)) else (none)) else (none)) else (none)) else (some (([] : List Int), t110))) = some (r1, r2) := H
 have A3 := Goto.m0 A30
 clear A30
 by_cases c4 : t109 = true
 ·
  subst c4
  rw [if_pos rfl] at H
  by_cases c5 : 0 ≤ a1
  ·
   rw [if_pos c5] at H
   have c5b0 : decide (0 ≤ a1) = true := decide_eq_true c5
   clear c5
   by_cases c6 : a1 < (l0_3.length : Int)
   ·
    rw [if_pos c6] at H
    have c6b0 : decide (a1 < (l0_3.length : Int)) = true := decide_eq_true c6
    clear c6
    by_cases c7 : a1 < (t110.length : Int)
    ·
     rw [if_pos c7] at H
     have c7b0 : decide (a1 < (t110.length : Int)) = true := decide_eq_true c7
     clear c7
     by_cases c8 : 0 ≤ (rd t110 a1)
     ·
      rw [if_pos c8] at H
      have c8b0 : decide (0 ≤ (rd t110 a1)) = true := decide_eq_true c8
      clear c8
      by_cases c9 : (rd t110 a1) < (((rd_T44 l0_3 a1).f1).length : Int)
      ·
       rw [if_pos c9] at H
       have c9b0 : decide ((rd t110 a1) < (((rd_T44 l0_3 a1).f1).length : Int)) = true := decide_eq_true c9
       clear c9
       replace H := Option.bind_eq_some_iff.mp H
       obtain ⟨t116, A100, H⟩ := H
       have A10 := Goto.m0 A100
       clear A100
       simp only [Option.some.injEq, Prod.mk.injEq] at H
       obtain ⟨rfl, rfl⟩ := H
       go_enter Try.func18, Try.ntmps18
       try go_wp2_with (first | ((with_reducible refine gate_callee (f := 45) rfl ?_); refine goesL_ (some 7) rfl rfl Try.func45 (by kernel_rfl) rfl #[.pointer (some ⟨g, 0, none⟩), .int .i64 a1] rfl (by (try simp only [List.map_toArray, List.map_cons, List.map_nil]); first | done | rfl | (simp only [List.length_drop, List.length_take]; rfl)) ?_; (with_reducible refine (route_Routes_has.calls g a0_0 a0_1 A0_2 c0_2 l0_2 A0_3 c0_3 l0_3 (fun k_ => some k_ = (u9000_ : Value).ownBlock) u9000_ l0_4 a1 true t110 w0 _ ?side1 ?side2 ?side3 ?side4 ?side5 ?side6 ?side7 ?side8 A3.out).mono ?_); (case side1 => exact by (with_reducible repeat first | refine blk_drewN ?_ _ | refine blk_drew ?_ | refine blk_alloc ?_ _); exact BK0.out); (case side2 => exact GE0.out); (case side3 => repeat (first | (with_reducible first | exact HB.out | apply below_alloc | apply pw_below_drewN | apply below_drew1 | refine below_set ?_ GE0.out) | exact HB.out)); (case side4 => exact Kd.C_kept_call HR0_2.out (by repeat (first | (with_reducible first | exact HK.out | apply Kept.alloc | apply Kept.drewN | apply Kept.drew | refine Kept.setCell ?_ (.inl (.inr rfl)) _) | exact HK.out)) (fun k_ hs_ => Or.elim hs_ (fun hs_ => (fun e_ => Or.imp_left Or.inl ((HO0_4.out.1 k_ e_.symm))) hs_) (fun e_ => .inl (.inr e_)))); (case side5 => exact HC0_2.out); (case side6 => exact Kd.C_kept_call HR0_3.out (by repeat (first | (with_reducible first | exact HK.out | apply Kept.alloc | apply Kept.drewN | apply Kept.drew | refine Kept.setCell ?_ (.inl (.inr rfl)) _) | exact HK.out)) (fun k_ hs_ => Or.elim hs_ (fun hs_ => (fun e_ => Or.imp_left Or.inl ((HO0_4.out.1 k_ e_.symm))) hs_) (fun e_ => .inl (.inr e_)))); (case side7 => exact HC0_3.out); (case side8 => exact Kd.R_tight rfl HO0_4.out); rintro e w11 ⟨v111, rfl, ho0, hi, hb, hkp⟩; refine ⟨_, rfl, ?_⟩; have n0_ := Goto.m0 (hi); have n1_ := Goto.m0 (Kd.R_mono (ok' := fun k_ => (P0_4_ k_ ∨ w.heap.size ≤ k_)) ho0 (fun k_ hk_ => Or.elim hk_ (fun hs_ => (HO0_4.out.1 k_ (hs_).symm)) (fun hn_ => (.inr (Nat.le_trans (by first | exact HK.out.1 | exact (show Kept w _ (fun k_ => (P0_4_ k_) ∨ k_ = g) from by repeat (first | (with_reducible first | exact HK.out | apply Kept.alloc | apply Kept.drewN | apply Kept.drew | refine Kept.setCell ?_ (.inl (.inr rfl)) _) | exact HK.out)).1) hn_))))); have n2_ := Goto.m0 (Kept.then_ (S := (fun k_ => (P0_4_ k_) ∨ k_ = g)) (by repeat (first | (with_reducible first | exact HK.out | apply Kept.alloc | apply Kept.drewN | apply Kept.drew | refine Kept.setCell ?_ (.inl (.inr rfl)) _) | exact HK.out)) hkp (fun k_ hs_ => Or.elim hs_ (fun hs_ => (fun e_ => Or.imp_left Or.inl ((HO0_4.out.1 k_ e_.symm))) hs_) (fun e_ => .inl (.inr e_)))); have n3_ := Goto.m0 (hb); clear BK0; clear HK; clear HB; clear HO0_4; have BK0 := n0_; have HO112 := n1_; have HK := n2_; have HB := n3_; clear n0_ n1_ n2_ n3_; (try clear hb); (try clear hkp); (try clear ho0)))
       replace HO112 := Goto.m0 (Kd.R_drew HO112.out); replace BK0 := Goto.m0 (blk_drew BK0.out); replace HK := Goto.m0 (Kept.drew HK.out); replace HB := Goto.m0 (below_drew1 HB.out)
       have p113 : 0 ≤ (a1 : Int) := Goto.od
       have q113 : a1 < (l0_3.length : Int) := Goto.od
       obtain ⟨ad113, A113_2, c113_2, A113_3, c113_3, e113, hx113_0, hx113_1, hx113_2, hx113_3, hx113_4, hx113_5, hx113_6, hx113_7, hx113_8, hx113_9, hl113_2, hi113_2, hl113_3, hi113_3⟩ := at_T44 (Kd.C_kept_now HR0_3.out HK.out) a1 p113 q113
       have hw113_9 := hx113_9; have hw113_8 := hx113_8; have hw113_7 := hx113_7; have hw113_6 := hx113_6; have hw113_5 := hx113_5; have hw113_4 := hx113_4; have hw113_3 := hx113_3; have hw113_2 := hx113_2; have hw113_1 := hx113_1; have hw113_0 := hx113_0
       cases e113
       have HR113_2 := Goto.m0 hi113_2
       have HC113_2 := Goto.m0 hl113_2
       clear hi113_2 hl113_2
       have HR113_3 := Goto.m0 hi113_3
       have HC113_3 := Goto.m0 hl113_3
       clear hi113_3 hl113_3; replace p113 := eq_true p113; replace q113 := eq_true q113
       obtain ⟨Ao13, co13, eo13⟩ := Kd.R_slice HO112.out
       (first | subst eo13 | (injection eo13 with f1_ f2_ f3_; have f4_ := f1_.symm; have f5_ := f3_.symm; clear f1_ f2_ f3_; subst f4_; subst f5_))
       have p114 : 0 ≤ (a1 : Int) := Goto.od
       have q114 : a1 < (t110.length : Int) := Goto.od
       obtain ⟨ad114, e114, hx114_0⟩ := Kd.at_int (Kd.R_reads' HO112.out).2.2 a1 p114 q114
       cases e114
       replace p114 := eq_true p114; replace q114 := eq_true q114
       have p115 : 0 ≤ ((rd t110 a1) : Int) := Goto.od
       have q115 : (rd t110 a1) < (((rd_T44 l0_3 a1).f1).length : Int) := Goto.od
       obtain ⟨ad115, A115_0, c115_0, e115, hx115_0, hl115_0, hi115_0⟩ := at_L1 (by repeat (first | (with_reducible exact HR113_2.out) | (with_reducible refine Kd.C_alloc ?_ _) | (with_reducible refine Kd.C_drewN ?_ _) | (with_reducible refine Kd.C_drew ?_) | exact HR113_2.out)) (rd t110 a1) p115 q115
       cases e115
       have HR115_0 := Goto.m0 hi115_0
       have HC115_0 := Goto.m0 hl115_0
       clear hi115_0 hl115_0; replace p115 := eq_true p115; replace q115 := eq_true q115
       refine start_ (n := 20) (S := fun w' => w'.cell? ⟨g, 0, none⟩ = some (.int .i64 a0_0) ∧ w'.cell? ⟨g, 1, none⟩ = some (.int .i64 a0_1) ∧ w'.cell? ⟨g, 2, none⟩ = some (.slice A0_2 l0_2.length c0_2) ∧ w'.cell? ⟨g, 3, none⟩ = some (.slice (some ad113) l0_3.length c0_3) ∧ w'.cell? ⟨g, 4, none⟩ = some (.slice (some ad114) t110.length co13) ∧ w'.cell? (ad113.add ((a1).toNat * 10)) = some (.int .i64 ((rd_T44 l0_3 a1).f0.f0)) ∧ w'.cell? ⟨(ad113.add ((a1).toNat * 10)).block, (ad113.add ((a1).toNat * 10)).off + 1, none⟩ = some (.int .u64 ((rd_T44 l0_3 a1).f0.f1)) ∧ w'.cell? ⟨(ad113.add ((a1).toNat * 10)).block, (ad113.add ((a1).toNat * 10)).off + 2, none⟩ = some (.slice (some ad115) ((rd_T44 l0_3 a1).f1).length c113_2) ∧ w'.cell? ⟨(ad113.add ((a1).toNat * 10)).block, (ad113.add ((a1).toNat * 10)).off + 3, none⟩ = some (.slice A113_3 ((rd_T44 l0_3 a1).f2).length c113_3) ∧ w'.cell? ⟨(ad113.add ((a1).toNat * 10)).block, (ad113.add ((a1).toNat * 10)).off + 4, none⟩ = some (.int .i64 ((rd_T44 l0_3 a1).f3)) ∧ w'.cell? ⟨(ad113.add ((a1).toNat * 10)).block, (ad113.add ((a1).toNat * 10)).off + 5, none⟩ = some (.int .i64 ((rd_T44 l0_3 a1).f4)) ∧ w'.cell? ⟨(ad113.add ((a1).toNat * 10)).block, (ad113.add ((a1).toNat * 10)).off + 6, none⟩ = some (.int .i64 ((rd_T44 l0_3 a1).f5)) ∧ w'.cell? ⟨(ad113.add ((a1).toNat * 10)).block, (ad113.add ((a1).toNat * 10)).off + 7, none⟩ = some (.int .i64 ((rd_T44 l0_3 a1).f6)) ∧ w'.cell? ⟨(ad113.add ((a1).toNat * 10)).block, (ad113.add ((a1).toNat * 10)).off + 8, none⟩ = some (.int .i64 ((rd_T44 l0_3 a1).f7)) ∧ w'.cell? ⟨(ad113.add ((a1).toNat * 10)).block, (ad113.add ((a1).toNat * 10)).off + 9, none⟩ = some (.int .i64 ((rd_T44 l0_3 a1).f8)) ∧ w'.cell? (ad114.add (a1).toNat) = some (.int .i64 (rd t110 a1)) ∧ w'.cell? (ad115.add ((rd t110 a1)).toNat) = some (.slice A115_0 (rd_L1 ((rd_T44 l0_3 a1).f1) (rd t110 a1)).length c115_0)) (ds := []) (.replicate 20 false) (by kernel_rfl) rfl rfl ⟨(blk_cell BK0.out 0).trans rfl, (blk_cell BK0.out 1).trans rfl, (blk_cell BK0.out 2).trans rfl, (blk_cell BK0.out 3).trans rfl, (blk_cell BK0.out 4).trans rfl, hx113_0, hx113_1, hx113_2, hx113_3, hx113_4, hx113_5, hx113_6, hx113_7, hx113_8, hx113_9, hx114_0, hx115_0⟩ (fun hHeld => ?_); refine with_tabW route_Routes_Now.tab3 route_Routes_Now.bits3 (fun HT_ HW_ => ?_)
       generalize w11.drew = w12 at HO112 BK0 HK HB HR113_2 HR113_3 HR115_0 hx113_0 hx113_1 hx113_2 hx113_3 hx113_4 hx113_5 hx113_6 hx113_7 hx113_8 hx113_9 hx114_0 hx115_0 hHeld ⊢
       refine Goto.pu 0 9 20 1 ?_
       refine Goto.pu 1 10 20 3 ?_
       refine Goto.pu 2 11 20 7 ?_
       refine Goto.pu 3 12 20 15 ?_
       refine Goto.pu 5 14 20 47 ?_
       refine Goto.pu 9 18 20 559 ?_
       refine Goto.pu 10 19 20 1583 ?_
       refine Goto.pu 11 20 20 3631 ?_
       refine Goto.pu 13 22 20 11823 ?_
       refine take_ (i := 4) (N := some 13) (v := ?_) (a' := ?_) (Goto.bs 20 11839) rfl rfl (take_ofW HT_.out HW_.out (by kernel_rfl)) (fun _ _ _ h => h) (Or.inl ⟨by rfl, ?_⟩) hHeld ?_ ?_
       rotate_left
       ·
        rintro w' ⟨s0, s1, s2, s3, s4, s5, s6, s7, s8, s9, s10, s11, s12, s13, s14, s15, s16⟩
        go_simp
        with_reducible rfl
       rotate_left
       ·
        exact Goto.ap
       refine Goto.pu 6 15 20 11903 ?_
       refine Goto.pu 7 16 20 12031 ?_
       refine take_ (i := 8) (N := some 17) (v := ?_) (a' := ?_) (Goto.bs 20 12287) rfl rfl (take_ofW HT_.out HW_.out (by kernel_rfl)) (fun _ _ _ h => h) (Or.inl ⟨by rfl, ?_⟩) hHeld ?_ ?_
       rotate_left
       ·
        rintro w' ⟨s0, s1, s2, s3, s4, s5, s6, s7, s8, s9, s10, s11, s12, s13, s14, s15, s16⟩
        go_simp
        with_reducible rfl
       rotate_left
       ·
        exact Goto.ap
       refine take_ (i := 12) (N := some 21) (v := ?_) (a' := ?_) (Goto.bs 20 16383) rfl rfl (take_ofW HT_.out HW_.out (by kernel_rfl)) (fun _ _ _ h => h) (Or.inl ⟨by rfl, ?_⟩) hHeld ?_ ?_
       rotate_left
       ·
        rintro w' ⟨s0, s1, s2, s3, s4, s5, s6, s7, s8, s9, s10, s11, s12, s13, s14, s15, s16⟩
        go_simp
        with_reducible rfl
       rotate_left
       ·
        exact Goto.ap
       refine Goto.pu 14 23 20 32767 ?_
       refine take_ (i := 15) (N := some 24) (v := ?_) (a' := ?_) (Goto.bs 20 65535) rfl rfl (take_ofW HT_.out HW_.out (by kernel_rfl)) (fun _ _ _ h => h) (Or.inl ⟨by rfl, ?_⟩) hHeld ?_ ?_
       rotate_left
       ·
        rintro w' ⟨s0, s1, s2, s3, s4, s5, s6, s7, s8, s9, s10, s11, s12, s13, s14, s15, s16⟩
        go_simp
        with_reducible rfl
       rotate_left
       ·
        exact Goto.ap
       refine Goto.pu 16 25 20 131071 ?_
       refine take_ (i := 17) (N := some 26) (v := ?_) (a' := ?_) (Goto.bs 20 262143) rfl rfl (take_ofW HT_.out HW_.out (by kernel_rfl)) (fun _ _ _ h => h) (Or.inl ⟨by rfl, ?_⟩) hHeld ?_ ?_
       rotate_left
       ·
        rintro w' ⟨s0, s1, s2, s3, s4, s5, s6, s7, s8, s9, s10, s11, s12, s13, s14, s15, s16⟩
        go_simp
        with_reducible rfl
       rotate_left
       ·
        exact Goto.ap
       refine one_ (i := 18) (N := some 27) (Goto.bs 20 524287) rfl rfl (one_of HT_.out (by kernel_rfl)) (by decide) (fun K hK => ?_)
       refine goes_ Try.func46 (by kernel_rfl) rfl #[.slice A115_0 (rd_L1 ((rd_T44 l0_3 a1).f1) (rd t110 a1)).length c115_0] (by rfl) rfl rfl (by (try simp only [List.map_toArray, List.map_cons, List.map_nil]); first | done | rfl | (simp only [List.length_drop, List.length_take]; rfl)) ?_
       with_reducible refine (ext_46.calls _ _ (rd_L1 ((rd_T44 l0_3 a1).f1) (rd t110 a1)) t116 _ ?side1 ?side2 A10.out).mono ?_
       (case side1 => repeat (first | exact (by repeat (first | (with_reducible exact HR115_0.out) | (with_reducible refine Kd.C_alloc ?_ _) | (with_reducible refine Kd.C_drewN ?_ _) | (with_reducible refine Kd.C_drew ?_) | exact HR115_0.out)) | (with_reducible refine Kd.C_alloc ?_ _) | (with_reducible refine Kd.C_drewN ?_ _) | (with_reducible refine Kd.C_drew ?_)))
       (case side2 => exact HC115_0.out)
       rintro e w14 ⟨v117, rfl, ho0, hb⟩
       have HS5_ := (hb.cell (World.block_lt_of_cell? _ _ (hHeld.2.2.2.2.2.1))).trans (hHeld.2.2.2.2.2.1)
       have HS6_ := (hb.cell (World.block_lt_of_cell? _ _ (hHeld.2.2.2.2.2.2.1))).trans (hHeld.2.2.2.2.2.2.1)
       have HS7_ := (hb.cell (World.block_lt_of_cell? _ _ (hHeld.2.2.2.2.2.2.2.1))).trans (hHeld.2.2.2.2.2.2.2.1)
       have HS8_ := (hb.cell (World.block_lt_of_cell? _ _ (hHeld.2.2.2.2.2.2.2.2.1))).trans (hHeld.2.2.2.2.2.2.2.2.1)
       have HS9_ := (hb.cell (World.block_lt_of_cell? _ _ (hHeld.2.2.2.2.2.2.2.2.2.1))).trans (hHeld.2.2.2.2.2.2.2.2.2.1)
       have HS10_ := (hb.cell (World.block_lt_of_cell? _ _ (hHeld.2.2.2.2.2.2.2.2.2.2.1))).trans (hHeld.2.2.2.2.2.2.2.2.2.2.1)
       have HS11_ := (hb.cell (World.block_lt_of_cell? _ _ (hHeld.2.2.2.2.2.2.2.2.2.2.2.1))).trans (hHeld.2.2.2.2.2.2.2.2.2.2.2.1)
       have HS12_ := (hb.cell (World.block_lt_of_cell? _ _ (hHeld.2.2.2.2.2.2.2.2.2.2.2.2.1))).trans (hHeld.2.2.2.2.2.2.2.2.2.2.2.2.1)
       have HS13_ := (hb.cell (World.block_lt_of_cell? _ _ (hHeld.2.2.2.2.2.2.2.2.2.2.2.2.2.1))).trans (hHeld.2.2.2.2.2.2.2.2.2.2.2.2.2.1)
       have HS14_ := (hb.cell (World.block_lt_of_cell? _ _ (hHeld.2.2.2.2.2.2.2.2.2.2.2.2.2.2.1))).trans (hHeld.2.2.2.2.2.2.2.2.2.2.2.2.2.2.1)
       have HS15_ := (hb.cell (World.block_lt_of_cell? _ _ (hHeld.2.2.2.2.2.2.2.2.2.2.2.2.2.2.2.1))).trans (hHeld.2.2.2.2.2.2.2.2.2.2.2.2.2.2.2.1)
       have HS16_ := (hb.cell (World.block_lt_of_cell? _ _ (hHeld.2.2.2.2.2.2.2.2.2.2.2.2.2.2.2.2))).trans (hHeld.2.2.2.2.2.2.2.2.2.2.2.2.2.2.2.2)
       refine ⟨_, rfl, ?_⟩
       have HO118 := Goto.m0 (Kd.R_lower (Kd.R_new' (Kd.R_newM (M := fun k_ => (P0_4_ k_ ∨ w.heap.size ≤ k_)) ho0 (by first | exact HK.out.1 | exact (show Kept w _ (fun k_ => (P0_4_ k_) ∨ k_ = g) from by repeat (first | (with_reducible first | exact HK.out | apply Kept.alloc | apply Kept.drewN | apply Kept.drew | refine Kept.setCell ?_ (.inl (.inr rfl)) _) | exact HK.out)).1) (fun k_ h_ => .inr h_)) (Kd.R_lt (Goto.rk HO112))) (below_size (Goto.hx HB))); replace HO112 := Goto.m0 (Kd.R_elder' (Goto.rk HO112) (Kd.R_base ho0) hb); replace BK0 := Goto.bb BK0 hb; replace HR113_2 := Goto.m0 (Kd.C_below (by repeat (first | (with_reducible exact HR113_2.out) | (with_reducible refine Kd.C_alloc ?_ _) | (with_reducible refine Kd.C_drewN ?_ _) | (with_reducible refine Kd.C_drew ?_) | exact HR113_2.out)) hb); replace HR113_3 := Goto.m0 (Kd.C_below (by repeat (first | (with_reducible exact HR113_3.out) | (with_reducible refine Kd.C_alloc ?_ _) | (with_reducible refine Kd.C_drewN ?_ _) | (with_reducible refine Kd.C_drew ?_) | exact HR113_3.out)) hb); replace HR115_0 := Goto.m0 (Kd.C_below (by repeat (first | (with_reducible exact HR115_0.out) | (with_reducible refine Kd.C_alloc ?_ _) | (with_reducible refine Kd.C_drewN ?_ _) | (with_reducible refine Kd.C_drew ?_) | exact HR115_0.out)) hb); replace HK := Goto.m0 (Kept.below (S := (fun k_ => (P0_4_ k_) ∨ k_ = g)) (by repeat (first | (with_reducible first | exact HK.out | apply Kept.alloc | apply Kept.drewN | apply Kept.drew | refine Kept.setCell ?_ (.inl (.inr rfl)) _) | exact HK.out)) hb); replace HB := Goto.hs HB hb
       (try clear hb)
       (try clear hb2)
       (try clear hk)
       (try clear hi)
       (try clear ho0)
       refine hK.out _ _ ⟨(blk_cell BK0.out 0).trans rfl, (blk_cell BK0.out 1).trans rfl, (blk_cell BK0.out 2).trans rfl, (blk_cell BK0.out 3).trans rfl, (blk_cell BK0.out 4).trans rfl, HS5_, HS6_, HS7_, HS8_, HS9_, HS10_, HS11_, HS12_, HS13_, HS14_, HS15_, HS16_⟩ (fun hHeld => ?_)
       clear hK K
       refine norm_ (a' := ?_) ?_ ?_
       rotate_left
       ·
        show Act.put _ (some 27) _ = _
        exact Goto.ap
       refine Goto.pu 19 4 20 1048575 ?_
       refine done_ (done_of HT_.out (by kernel_rfl)) ?_
       try go_wp2
       go_ret
       (try simp only [← exists_and_left])
       exact ⟨_, _, Goto.er, by (with_reducible repeat (first | apply Kd.R_alloc | apply Kd.R_drewN | apply Kd.R_drew)); exact Kd.R_mono HO118.out (fun _ hk => ⟨hk.1.1, hk.2⟩), Goto.rk HO112, by (with_reducible repeat first | refine blk_drewN ?_ _ | refine blk_drew ?_ | refine blk_alloc ?_ _); exact BK0.out, by repeat (first | (with_reducible first | exact HB.out | apply below_alloc | apply pw_below_drewN | apply below_drew1 | refine below_set ?_ GE0.out) | exact HB.out), by repeat (first | (with_reducible first | exact HK.out | apply Kept.alloc | apply Kept.drewN | apply Kept.drew | refine Kept.setCell ?_ (.inl (.inr rfl)) _) | exact HK.out)⟩
      ·
       rw [if_neg c9] at H
       exact absurd H (by simp)
     ·
      rw [if_neg c8] at H
      exact absurd H (by simp)
    ·
     rw [if_neg c7] at H
     exact absurd H (by simp)
   ·
    rw [if_neg c6] at H
    exact absurd H (by simp)
  ·
   rw [if_neg c5] at H
   exact absurd H (by simp)
 ·
  replace c4 := Bool.eq_false_iff.mpr c4
  subst c4
  rw [if_neg (show ¬ (false = true) by decide)] at H
  simp only [Option.some.injEq, Prod.mk.injEq] at H
  obtain ⟨rfl, rfl⟩ := H
  go_enter Try.func18, Try.ntmps18
  go_wp2_with (first | ((with_reducible refine gate_callee (f := 45) rfl ?_); refine goesL_ (some 7) rfl rfl Try.func45 (by kernel_rfl) rfl #[.pointer (some ⟨g, 0, none⟩), .int .i64 a1] rfl (by (try simp only [List.map_toArray, List.map_cons, List.map_nil]); first | done | rfl | (simp only [List.length_drop, List.length_take]; rfl)) ?_; (with_reducible refine (route_Routes_has.calls g a0_0 a0_1 A0_2 c0_2 l0_2 A0_3 c0_3 l0_3 (fun k_ => some k_ = (u9000_ : Value).ownBlock) u9000_ l0_4 a1 false t110 w0 _ ?side1 ?side2 ?side3 ?side4 ?side5 ?side6 ?side7 ?side8 A3.out).mono ?_); (case side1 => exact by (with_reducible repeat first | refine blk_drewN ?_ _ | refine blk_drew ?_ | refine blk_alloc ?_ _); exact BK0.out); (case side2 => exact GE0.out); (case side3 => repeat (first | (with_reducible first | exact HB.out | apply below_alloc | apply pw_below_drewN | apply below_drew1 | refine below_set ?_ GE0.out) | exact HB.out)); (case side4 => exact Kd.C_kept_call HR0_2.out (by repeat (first | (with_reducible first | exact HK.out | apply Kept.alloc | apply Kept.drewN | apply Kept.drew | refine Kept.setCell ?_ (.inl (.inr rfl)) _) | exact HK.out)) (fun k_ hs_ => Or.elim hs_ (fun hs_ => (fun e_ => Or.imp_left Or.inl ((HO0_4.out.1 k_ e_.symm))) hs_) (fun e_ => .inl (.inr e_)))); (case side5 => exact HC0_2.out); (case side6 => exact Kd.C_kept_call HR0_3.out (by repeat (first | (with_reducible first | exact HK.out | apply Kept.alloc | apply Kept.drewN | apply Kept.drew | refine Kept.setCell ?_ (.inl (.inr rfl)) _) | exact HK.out)) (fun k_ hs_ => Or.elim hs_ (fun hs_ => (fun e_ => Or.imp_left Or.inl ((HO0_4.out.1 k_ e_.symm))) hs_) (fun e_ => .inl (.inr e_)))); (case side7 => exact HC0_3.out); (case side8 => exact Kd.R_tight rfl HO0_4.out); rintro e w15 ⟨v111, rfl, ho0, hi, hb, hkp⟩; refine ⟨_, rfl, ?_⟩; have n0_ := Goto.m0 (hi); have n1_ := Goto.m0 (Kd.R_mono (ok' := fun k_ => (P0_4_ k_ ∨ w.heap.size ≤ k_)) ho0 (fun k_ hk_ => Or.elim hk_ (fun hs_ => (HO0_4.out.1 k_ (hs_).symm)) (fun hn_ => (.inr (Nat.le_trans (by first | exact HK.out.1 | exact (show Kept w _ (fun k_ => (P0_4_ k_) ∨ k_ = g) from by repeat (first | (with_reducible first | exact HK.out | apply Kept.alloc | apply Kept.drewN | apply Kept.drew | refine Kept.setCell ?_ (.inl (.inr rfl)) _) | exact HK.out)).1) hn_))))); have n2_ := Goto.m0 (Kept.then_ (S := (fun k_ => (P0_4_ k_) ∨ k_ = g)) (by repeat (first | (with_reducible first | exact HK.out | apply Kept.alloc | apply Kept.drewN | apply Kept.drew | refine Kept.setCell ?_ (.inl (.inr rfl)) _) | exact HK.out)) hkp (fun k_ hs_ => Or.elim hs_ (fun hs_ => (fun e_ => Or.imp_left Or.inl ((HO0_4.out.1 k_ e_.symm))) hs_) (fun e_ => .inl (.inr e_)))); have n3_ := Goto.m0 (hb); clear BK0; clear HK; clear HB; clear HO0_4; have BK0 := n0_; have HO112 := n1_; have HK := n2_; have HB := n3_; clear n0_ n1_ n2_ n3_; (try clear hb); (try clear hkp); (try clear ho0)))
  go_ret
  (try simp only [← exists_and_left])
  exact ⟨_, _, Goto.er, by first | exact Kd.R_nil _ _ _ _ _ | exact Kd.N_nil _ _ _ _ _ | exact Kd.V_nil _ _ _ _ _ | exact Kd.Q_nil _ _ _ _ _ | exact Kd.S_nil _ _ _ _ _, by (with_reducible repeat (first | apply Kd.R_alloc | apply Kd.R_drewN | apply Kd.R_drew)); exact Kd.R_mono HO112.out (fun _ hk => ⟨hk, (by simp [Value.ownBlock])⟩), by (with_reducible repeat first | refine blk_drewN ?_ _ | refine blk_drew ?_ | refine blk_alloc ?_ _); exact BK0.out, by repeat (first | (with_reducible first | exact HB.out | apply below_alloc | apply pw_below_drewN | apply below_drew1 | refine below_set ?_ GE0.out) | exact HB.out), by repeat (first | (with_reducible first | exact HK.out | apply Kept.alloc | apply Kept.drewN | apply Kept.drew | refine Kept.setCell ?_ (.inl (.inr rfl)) _) | exact HK.out)⟩

end Go.Proofs.Ytbhfkhcedjgpdaa.P
