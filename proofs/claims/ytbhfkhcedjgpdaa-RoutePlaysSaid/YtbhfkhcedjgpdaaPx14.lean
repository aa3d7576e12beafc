/- Printed by a program of this workplace (a turned copy of the kit's optional print), out of the translation; not trusted: Lean checks it. -/
import Derived.Test.YtbhfkhcedjgpdaaPx0
namespace Go.Proofs.Ytbhfkhcedjgpdaa.P
open Go.RowKit Go.Proofs.YtbhfkhcedjgpdaaW.PrintWords Go.Proofs.YtbhfkhcedjgpdaaW.PrintLast Go.Proofs.YtbhfkhcedjgpdaaW.PrintMore
attribute [local go_sem] max2_int min2_int max_two min_two max_three min_three max_four min_four   -- for this text's walks alone
set_option linter.unusedVariables false
set_option linter.unusedSimpArgs false

/-! ### tontineref15_NewRoutes: function 16 -/
def tontineref15_NewRoutes.f (a0_0 : Int) (a0_1 : Int) (l0_2 : List (List Int)) (l0_3 : List (S44)) : Option (Int × Int × List Int) := if 0 ≤ (l0_3.length : Int) then (if ((l0_3.length : Int) : Int).toNat ≤ 35184372088832 then (some (a0_0, a0_1, (List.replicate ((l0_3.length : Int) : Int).toNat 0))) else (none)) else (none)
def tontineref15_NewRoutes.T1 : Bool × List (List Nat × List Nat) := (true, [([], []), ([], []), ([1], [1]), ([2], [2]), ([3, 3], [3]), ([0, 4], [0, 4]), ([5], [5]), ([6, 0, 1, 2, 3, 4, 5, 6], [6])])
def tontineref15_NewRoutes.B1 : List Nat := [0, 0, 2, 6, 14, 31, 63, 127]
theorem tontineref15_NewRoutes.tab1 : rtab .any (opsOf Try.f16 1) = tontineref15_NewRoutes.T1 := by kernel_rfl
theorem tontineref15_NewRoutes.bits1 : waitsOk tontineref15_NewRoutes.T1.2 tontineref15_NewRoutes.B1 = true := by kernel_rfl
set_option maxHeartbeats 8000000 in
set_option maxRecDepth 100000 in
theorem tontineref15_NewRoutes.calls (a0_0 : Int) (a0_1 : Int) (A0_2 : Option Addr) (c0_2 : Nat) (l0_2 : List (List Int)) (A0_3 : Option Addr) (c0_3 : Nat) (l0_3 : List (S44)) (r1 : Int) (r2 : Int) (r3 : List Int) (w : World) (hr0_2 : Kd.C (Kd.slice 3 (Kd.int .i64)) w A0_2 l0_2.length l0_2) (hc0_2 : l0_2.length ≤ c0_2) (hr0_3 : Kd.C k44 w A0_3 l0_3.length l0_3) (hc0_3 : l0_3.length ≤ c0_3) (h : tontineref15_NewRoutes.f a0_0 a0_1 l0_2 l0_3 = some (r1, r2, r3)) :
    Calls Try.prog 16 #[.agg #[.int .i64 a0_0, .int .i64 a0_1, .slice A0_2 l0_2.length c0_2, .slice A0_3 l0_3.length c0_3]] w fun e w' => ∃ v2_ : Value, ∃ g_ : Nat, e = .returned (.pointer (some ⟨g_, 0, none⟩)) ∧ Kd.R (Kd.int .i64) 3 w' w.heap.size (fun _ => True) v2_ r3 ∧ w'.heap[g_]? = some (.cells #[.int .i64 r1, .int .i64 r2, .slice A0_2 l0_2.length c0_2, .slice A0_3 l0_3.length c0_3, v2_] 76 (0, 0)) ∧ w.heap.size ≤ g_ ∧ Below w.heap.size w w' := by
 have hu25 := Try.underlying25; have hu76 := Try.underlying76
 have HR0_2 := Goto.m0 hr0_2
 have HC0_2 := Goto.m0 hc0_2
 clear hr0_2 hc0_2
 have HR0_3 := Goto.m0 hr0_3
 have HC0_3 := Goto.m0 hc0_3
 clear hr0_3 hc0_3
 have HB := Goto.m0 (Below.refl w.heap.size w)
 have H : (if 0 ≤ (l0_3.length : Int) then (if ((l0_3.length : Int) : Int).toNat ≤ 35184372088832 then (some (a0_0, a0_1, (List.replicate ((l0_3.length : Int) : Int).toNat 0))) else (none)) else (none)) = some (r1, r2, r3) := h
 clear h
 by_cases c2 : 0 ≤ (l0_3.length : Int)
 ·
  rw [if_pos c2] at H
  have c2b0 := eq_true c2
  have c2b1 : decide (0 ≤ (l0_3.length : Int)) = true := decide_eq_true c2
  clear c2
  by_cases c3 : ((l0_3.length : Int) : Int).toNat ≤ 35184372088832
  ·
   rw [if_pos c3] at H
   have c3b0 := eq_true c3
   have c3b1 : decide (((l0_3.length : Int) : Int).toNat ≤ 35184372088832) = true := decide_eq_true c3
   clear c3
   obtain ⟨y326, hy326⟩ : ∃ y_ : List Int, y_ = (List.replicate ((l0_3.length : Int) : Int).toNat 0) := ⟨_, rfl⟩
   replace H : (some (a0_0, a0_1, y326)) = some (r1, r2, r3) := by first | (rw [hy326]; with_reducible exact H) | (have H2_ := (Option.bind_some _ _).symm.trans H; rw [hy326]; with_reducible exact H2_) | (have H2_ := (Option.bind_some _ _).symm.trans H; with_reducible exact H2_) | with_reducible exact H | (rw [hy326]; exact H) | exact H
   have Ny326 := Goto.m0 hy326
   clear hy326
   simp only [Option.some.injEq, Prod.mk.injEq] at H
   obtain ⟨rfl, rfl, rfl⟩ := H
   go_enter Try.func16, Try.ntmps16
   try go_wp2_with (first | ((with_reducible refine gate_dst (N := 1) rfl ?_); refine box_event ?hg (N := 1) ?hd (cs := #[.int .i64 a0_0, .int .i64 a0_1, .slice A0_2 l0_2.length c0_2, .slice A0_3 l0_3.length c0_3]) (t := 25) ?hr ?_; (case hd => rfl); (case hg => rfl); (case hr => first | (go_simp; done) | (go_simp; rfl)); intro gb325 hg w4 hbox hb; have BK325 := Goto.m0 (hbox); have GW325 := Goto.gs HB hg; have GE325 := Goto.gs HB hg; replace HB := Goto.hs HB hb; clear hb hbox hg))
   replace BK325 := Goto.m0 (blk_drew BK325.out); replace HB := Goto.m0 (below_drew1 HB.out)
   refine start_ (n := 8) (S := fun w' => w'.cell? ⟨gb325, 0, none⟩ = some (.int .i64 a0_0) ∧ w'.cell? ⟨gb325, 1, none⟩ = some (.int .i64 a0_1) ∧ w'.cell? ⟨gb325, 2, none⟩ = some (.slice A0_2 l0_2.length c0_2) ∧ w'.cell? ⟨gb325, 3, none⟩ = some (.slice A0_3 l0_3.length c0_3)) (ds := []) (.replicate 8 false) (by kernel_rfl) rfl rfl ⟨(blk_cell BK325.out 0).trans rfl, (blk_cell BK325.out 1).trans rfl, (blk_cell BK325.out 2).trans rfl, (blk_cell BK325.out 3).trans rfl⟩ (fun hHeld => ?_); refine with_tabW tontineref15_NewRoutes.tab1 tontineref15_NewRoutes.bits1 (fun HT_ HW_ => ?_)
   generalize w4.drew = w5 at BK325 HB hHeld ⊢
   refine Goto.pu 1 4 8 2 ?_
   refine take_ (i := 0) (N := some 3) (v := ?_) (a' := ?_) (Goto.bs 8 3) rfl rfl (take_ofW HT_.out HW_.out (by kernel_rfl)) (fun _ _ _ h => h) (Or.inl ⟨by rfl, ?_⟩) hHeld ?_ ?_
   rotate_left
   ·
    rintro w' ⟨s0, s1, s2, s3⟩
    go_simp
    with_reducible rfl
   rotate_left
   ·
    exact Goto.ap
   refine take_ (i := 2) (N := some 5) (v := ?_) (a' := ?_) (Goto.bs 8 7) rfl rfl (take_ofW HT_.out HW_.out (by kernel_rfl)) (fun _ _ _ h => h) (Or.inl ⟨by rfl, ?_⟩) hHeld ?_ ?_
   rotate_left
   ·
    rintro w' ⟨s0, s1, s2, s3⟩
    go_simp
    with_reducible rfl
   rotate_left
   ·
    exact Goto.ap
   refine Goto.pu 3 6 8 15 ?_
   refine one_ (i := 4) (N := some 7) (Goto.bs 8 31) rfl rfl (one_of HT_.out (by kernel_rfl)) (by decide) (fun K hK => ?_)
   refine Kd.R_make_step (Kd.int .i64) _ 3 (by rfl) (N := 7) rfl 26 _ _ rfl (l0_3.length : Int) rfl rfl Try.underlying26 (.int .i64 0) 8 info3 rfl (by decide) (by omega) 0 (ok := fun _ => True) (okp := fun _ => True) rfl (fun _ hk => hk) trivial (of_decide_eq_true (by first | (with_reducible assumption) | assumption)) (Nat.le_trans (Nat.mul_le_mul_right _ (of_decide_eq_true (by first | (with_reducible assumption) | assumption) : (l0_3.length : Int).toNat ≤ 35184372088832)) (by omega)) (Below.refl _ _) (Nat.le_refl _) ?_
   intro v327 w6 ho7 hb hg_ hnew_
   clear hg_ hnew_
   (first | rw [← Ny326.out] at ho7 | (simp only [Int.reduceToNat] at ho7; rw [← Ny326.out] at ho7))
   have HO328 := Goto.m0 (Kd.R_lower ho7 (below_size (Goto.hx HB))); replace BK325 := Goto.bb BK325 hb; replace HB := Goto.hs HB hb; clear hb ho7
   obtain ⟨Ao8, co8, eo8⟩ := Kd.R_slice HO328.out
   (first | subst eo8 | (injection eo8 with f1_ f2_ f3_; have f4_ := f1_.symm; have f5_ := f3_.symm; clear f1_ f2_ f3_; subst f4_; subst f5_))
   refine hK.out _ _ ⟨(blk_cell BK325.out 0).trans rfl, (blk_cell BK325.out 1).trans rfl, (blk_cell BK325.out 2).trans rfl, (blk_cell BK325.out 3).trans rfl⟩ (fun hHeld => ?_)
   clear hK K
   refine norm_ (a' := ?_) ?_ ?_
   rotate_left
   ·
    show Act.put _ (some 7) _ = _
    exact Goto.ap
   refine Goto.pu 5 8 8 63 ?_
   refine one_ (i := 6) (N := some 9) (Goto.bs 8 127) rfl rfl (one_of HT_.out (by kernel_rfl)) (by decide) (fun K hK => ?_)
   refine box_step ?hg (N := 9) ?hd (cs := #[.int .i64 a0_0, .int .i64 a0_1, .slice A0_2 l0_2.length c0_2, .slice A0_3 l0_3.length c0_3, .slice Ao8 y326.length co8]) (t := 76) ?hr ?_; (case hd => rfl); (case hg => rfl); (case hr => first | (go_simp; done) | (go_simp; rfl))
   intro gb329 hg w9 hbox hb
   have BK329 := Goto.m0 (hbox); have GW329 := Goto.gs HB hg; have GE329 := Goto.gs HB hg; have NB325_329 := Goto.nl BK325 hg; have NB329_325 := Goto.nr BK325 hg; replace HO328 := Goto.m0 (Kd.R_below (Goto.rk HO328) hb); replace BK325 := Goto.bb BK325 hb; replace HB := Goto.hs HB hb; clear hb hbox hg
   refine hK.out _ _ ⟨(blk_cell BK325.out 0).trans rfl, (blk_cell BK325.out 1).trans rfl, (blk_cell BK325.out 2).trans rfl, (blk_cell BK325.out 3).trans rfl⟩ (fun hHeld => ?_)
   clear hK K
   refine norm_ (a' := ?_) ?_ ?_
   rotate_left
   ·
    show Act.put _ (some 9) _ = _
    exact Goto.ap
   refine Goto.pu 7 2 8 255 ?_
   refine done_ (done_of HT_.out (by kernel_rfl)) ?_
   try go_wp2
   go_ret
   exact ⟨_, _, Goto.er, Goto.rk HO328, by (with_reducible repeat first | refine blk_drewN ?_ _ | refine blk_drew ?_ | refine blk_alloc ?_ _); exact BK329.out, GW329.out, by repeat (first | (with_reducible first | exact HB.out | apply below_alloc | apply pw_below_drewN | apply below_drew1 | refine below_set ?_ GE325.out | refine below_set ?_ GE329.out) | exact HB.out)⟩
  ·
   rw [if_neg c3] at H
   exact absurd H (by simp)
 ·
  rw [if_neg c2] at H
  exact absurd H (by simp)

/-! ### tontineref15_Routes_Now: function 19 -/
def tontineref15_Routes_Now.j0 : Nat → Int → Bool → Int → Int → List (List Int) → List (S44) → List Int → Option (List Int × List Int)
  | 0, _, _, _, _, _, _, _ => none
  | k + 1, x1, x28, x1000, x1001, x1002, x1003, x1004 => if x28 = true then (some (([] : List Int), x1004)) else (if 0 ≤ x1 then (if x1 < (x1003.length : Int) then (if x1 < (x1004.length : Int) then (if 0 ≤ (rd x1004 x1) then (if (rd x1004 x1) < (((rd_T44 x1003 x1).f1).length : Int) then (some (rd_L1 ((rd_T44 x1003 x1).f1) (rd x1004 x1), x1004)) else (none)) else (none)) else (none)) else (none)) else (none))
def tontineref15_Routes_Now.f (k : Nat) (a0_0 : Int) (a0_1 : Int) (l0_2 : List (List Int)) (l0_3 : List (S44)) (l0_4 : List Int) (a1 : Int) : Option (List Int × List Int) := if a1 < 0 then (tontineref15_Routes_Now.j0 k a1 true a0_0 a0_1 l0_2 l0_3 l0_4) else (if a1 ≥ (l0_4.length : Int) then (tontineref15_Routes_Now.j0 k a1 true a0_0 a0_1 l0_2 l0_3 l0_4) else (if 0 ≤ a1 then (if a1 < (l0_3.length : Int) then (tontineref15_Routes_Now.j0 k a1 ((((rd_T44 l0_3 a1).f1).length : Int) == 0) a0_0 a0_1 l0_2 l0_3 l0_4) else (none)) else (none)))
theorem tontineref15_Routes_Now.mono_l : ∀ k, (∀ y0 y1 y2 y3 y4 y5 y6, LeO (tontineref15_Routes_Now.j0 k y0 y1 y2 y3 y4 y5 y6) (tontineref15_Routes_Now.j0 (k + 1) y0 y1 y2 y3 y4 y5 y6))
  | 0 => fun _ _ _ _ _ _ _ r h => by simp [tontineref15_Routes_Now.j0] at h
  | k + 1 => by
    have ih0 := tontineref15_Routes_Now.mono_l k
    · intro y0 y1 y2 y3 y4 y5 y6
      unfold tontineref15_Routes_Now.j0
      repeat' first
      | (with_reducible exact ih0 _ _ _ _ _ _ _)
      | (with_reducible exact LeO.refl _)
      | (with_reducible exact LeO.none _)
      | (with_reducible refine LeO.ite ?_ ?_)
      | (with_reducible refine LeO.bind ?_ (fun _ => ?_))
      | exact ih0 _ _ _ _ _ _ _
      | exact LeO.none _
      | refine LeO.ite ?_ ?_
      | refine LeO.bind ?_ (fun _ => ?_)
theorem tontineref15_Routes_Now.mono : ∀ a0 a1 a2 a3 a4 a5 k, LeO (tontineref15_Routes_Now.f k a0 a1 a2 a3 a4 a5) (tontineref15_Routes_Now.f (k + 1) a0 a1 a2 a3 a4 a5) := by
 intro a0 a1 a2 a3 a4 a5 k
 have ih0 := tontineref15_Routes_Now.mono_l k
 unfold tontineref15_Routes_Now.f
 repeat' first
   | (with_reducible exact ih0 _ _ _ _ _ _ _)
   | (with_reducible exact LeO.refl _)
   | (with_reducible exact LeO.none _)
   | (with_reducible refine LeO.ite ?_ ?_)
   | (with_reducible refine LeO.bind ?_ (fun _ => ?_))
   | exact ih0 _ _ _ _ _ _ _
   | exact LeO.none _
   | refine LeO.ite ?_ ?_
   | refine LeO.bind ?_ (fun _ => ?_)
set_option maxHeartbeats 8000000 in
set_option maxRecDepth 100000 in
theorem tontineref15_Routes_Now.calls (k : Nat) (g : Nat) (a0_0 : Int) (a0_1 : Int) (A0_2 : Option Addr) (c0_2 : Nat) (l0_2 : List (List Int)) (P0_3_ : Nat → Prop) (A0_3 : Option Addr) (c0_3 : Nat) (l0_3 : List (S44)) (P0_4_ : Nat → Prop) (u9000_ : Value) (l0_4 : List Int) (a1 : Int) (r1 : List Int) (r2 : List Int) (w0 w : World) (hI : w.heap[g]? = some (.cells #[.int .i64 a0_0, .int .i64 a0_1, .slice A0_2 l0_2.length c0_2, .slice A0_3 l0_3.length c0_3, u9000_] 76 (0, 0))) (hG : w0.heap.size ≤ g) (hB : Below w0.heap.size w0 w) (hr0_2 : ∀ W_, Kept w W_ (fun k_ => (P0_4_ k_) ∨ k_ = g) → Kd.C (Kd.slice 3 (Kd.int .i64)) W_ A0_2 l0_2.length l0_2) (hc0_2 : l0_2.length ≤ c0_2) (hs0_3 : Kd.V k44 44 w w0.heap.size (fun k_ => P0_3_ k_ ∧ some k_ ≠ (u9000_ : Value).ownBlock ∧ k_ ≠ g) (.slice A0_3 l0_3.length c0_3) l0_3) (ho0_4 : Kd.R (Kd.int .i64) 3 w w0.heap.size P0_4_ u9000_ l0_4) (h : tontineref15_Routes_Now.f k a0_0 a0_1 l0_2 l0_3 l0_4 a1 = some (r1, r2)) :
    Calls Try.prog 19 #[.pointer (some ⟨g, 0, none⟩), .int .i64 a1] w fun e w' => ∃ v0_ v1_ : Value, e = .returned (v0_) ∧ Kd.V (Kd.int .i64) 3 w' w0.heap.size (fun k_ => ((P0_4_ k_ ∨ P0_3_ k_) ∨ w.heap.size ≤ k_) ∧ some k_ ≠ (v1_ : Value).ownBlock) v0_ r1 ∧ Kd.R (Kd.int .i64) 3 w' w0.heap.size (fun k_ => (P0_4_ k_ ∨ w.heap.size ≤ k_)) v1_ r2 ∧ w'.heap[g]? = some (.cells #[.int .i64 a0_0, .int .i64 a0_1, .slice A0_2 l0_2.length c0_2, .slice A0_3 l0_3.length c0_3, v1_] 76 (0, 0)) ∧ Below w0.heap.size w0 w' ∧ Kept w w' (fun k_ => (P0_4_ k_) ∨ k_ = g) := by
 have HR0_2 := Goto.m0 hr0_2
 have HC0_2 := Goto.m0 hc0_2
 clear hr0_2 hc0_2
 have HO0_3 := Goto.m0 (show Kd.V k44 44 w w0.heap.size (fun k_ => ((P0_4_ k_ ∨ P0_3_ k_) ∨ w.heap.size ≤ k_) ∧ some k_ ≠ (u9000_ : Value).ownBlock ∧ k_ ≠ g) (.slice A0_3 l0_3.length c0_3) l0_3 from Kd.V_mono hs0_3 (fun k_ hk => ⟨.inl (.inr hk.1), hk.2⟩))
 have HO0_4 := Goto.m0 (show Kd.R (Kd.int .i64) 3 w w0.heap.size (fun k_ => (P0_4_ k_ ∨ w.heap.size ≤ k_)) u9000_ l0_4 from Kd.R_mono ho0_4 (fun k_ hk => (.inl hk)))
 have BK0 := Goto.m0 hI
 have GE0 := Goto.m0 hG
 clear hI hG
 have HK := Goto.m0 (Kept.refl w (fun k_ => (P0_4_ k_) ∨ k_ = g))
 have HW0 := Goto.m0 hB.size
 have HB := Goto.m0 hB
 clear hB
 have H : (if a1 < 0 then (tontineref15_Routes_Now.j0 k a1 true a0_0 a0_1 l0_2 l0_3 l0_4) else (if a1 ≥ (l0_4.length : Int) then (tontineref15_Routes_Now.j0 k a1 true a0_0 a0_1 l0_2 l0_3 l0_4) else (if 0 ≤ a1 then (if a1 < (l0_3.length : Int) then (tontineref15_Routes_Now.j0 k a1 ((((rd_T44 l0_3 a1).f1).length : Int) == 0) a0_0 a0_1 l0_2 l0_3 l0_4) else (none)) else (none)))) = some (r1, r2) := h
 clear h
 have HC3 := Goto.m0 H
 clear H
 go_enter Try.func19, Try.ntmps19
 go_upto_region 1 with (fail)
 repeat (go_quiet (fail); go_upto_region 1 with (fail))
 go_cut [28] (fun v28 wc => ∃ (kq : Nat) (x28_2 : Bool), v28 = .bool x28_2 ∧ Aside0 (tontineref15_Routes_Now.j0 kq a1 x28_2 a0_0 a0_1 l0_2 l0_3 l0_4 = some (r1, r2)) ∧ Aside0 (kq ≤ k) ∧ Aside0 (Kd.V k44 44 wc w0.heap.size (fun k_ => ((P0_4_ k_ ∨ P0_3_ k_) ∨ w.heap.size ≤ k_) ∧ some k_ ≠ (u9000_ : Value).ownBlock ∧ k_ ≠ g) (.slice A0_3 l0_3.length c0_3) l0_3) ∧ Aside0 (Kd.R (Kd.int .i64) 3 wc w0.heap.size (fun k_ => (P0_4_ k_ ∨ w.heap.size ≤ k_)) u9000_ l0_4) ∧ Aside0 (wc.heap[g]? = some (.cells #[.int .i64 a0_0, .int .i64 a0_1, (.slice A0_2 l0_2.length c0_2), (.slice A0_3 l0_3.length c0_3), u9000_] 76 (0, 0))) ∧ Aside0 (Kept w wc (fun k_ => (P0_4_ k_) ∨ k_ = g)) ∧ Aside0 (Below w0.heap.size w0 wc))
 case first =>
  have H := HC3.out; clear HC3
  by_cases c4 : a1 < 0
  ·
   rw [if_pos c4] at H
   have c4b0 : decide (a1 < 0) = true := decide_eq_true c4
   clear c4
   (first | rw [c4b0] | (simp only [i64_w, i32_w]; rw [c4b0]) | skip)
   have H' := Goto.m0 H
   clear H
   go_wp2
   repeat (go_quiet (fail); try go_wp2)
   go_meet
   case rel => exact ⟨_, (true), (by first | rfl | (simp; done) | (simp [*]; done)), H', ⟨by first | omega | exact Nat.le_refl _⟩, ⟨by (with_reducible repeat (first | apply Kd.V_alloc | apply Kd.V_drewN | apply Kd.V_drew)); exact HO0_3.out⟩, ⟨Goto.rk HO0_4⟩, ⟨Goto.bx BK0⟩, ⟨by repeat (first | (with_reducible first | exact HK.out | apply Kept.alloc | apply Kept.drewN | apply Kept.drew | refine Kept.setCell ?_ (.inl (.inr rfl)) _) | exact HK.out)⟩, ⟨Goto.hx HB⟩⟩
  ·
   rw [if_neg c4] at H
   have c4b0 : decide (a1 < 0) = false := decide_eq_false c4
   clear c4
   (first | rw [c4b0] | (simp only [i64_w, i32_w]; rw [c4b0]) | skip)
   by_cases c5 : a1 ≥ (l0_4.length : Int)
   ·
    rw [if_pos c5] at H
    have c5b0 : decide ((l0_4.length : Int) ≤ a1) = true := decide_eq_true c5
    clear c5
    have H' := Goto.m0 H
    clear H; have hcz6_0 := Goto.bc0 BK0; have hcz6_1 := Goto.bc1 BK0; have hcz6_2 := Goto.bc2 BK0; have hcz6_3 := Goto.bc3 BK0; have hcz6_4 := Goto.bc4 BK0; have hfz6_0 := Goto.bf BK0 0; have hfz6_1 := Goto.bf BK0 1; have hfz6_2 := Goto.bf BK0 2; have hfz6_3 := Goto.bf BK0 3; have hfz6_4 := Goto.bf BK0 4
    obtain ⟨Ao7, co7, eo7⟩ := Kd.R_slice HO0_4.out
    subst eo7
    go_wp2
    repeat (go_quiet (fail); try go_wp2)
    go_meet
    case rel => exact ⟨_, (true), (by first | rfl | (simp; done) | (simp [*]; done)), H', ⟨by first | omega | exact Nat.le_refl _⟩, ⟨by (with_reducible repeat (first | apply Kd.V_alloc | apply Kd.V_drewN | apply Kd.V_drew)); exact HO0_3.out⟩, ⟨Goto.rk HO0_4⟩, ⟨Goto.bx BK0⟩, ⟨by repeat (first | (with_reducible first | exact HK.out | apply Kept.alloc | apply Kept.drewN | apply Kept.drew | refine Kept.setCell ?_ (.inl (.inr rfl)) _) | exact HK.out)⟩, ⟨Goto.hx HB⟩⟩
   ·
    rw [if_neg c5] at H
    have c5b0 : decide ((l0_4.length : Int) ≤ a1) = false := decide_eq_false c5
    clear c5
    by_cases c8 : 0 ≤ a1
    ·
     rw [if_pos c8] at H
     have c8b0 : decide (0 ≤ a1) = true := decide_eq_true c8
     clear c8
     by_cases c9 : a1 < (l0_3.length : Int)
     ·
      rw [if_pos c9] at H
      have c9b0 : decide (a1 < (l0_3.length : Int)) = true := decide_eq_true c9
      clear c9
      have H' := Goto.m0 H
      clear H; have hcz10_0 := Goto.bc0 BK0; have hcz10_1 := Goto.bc1 BK0; have hcz10_2 := Goto.bc2 BK0; have hcz10_3 := Goto.bc3 BK0; have hcz10_4 := Goto.bc4 BK0; have hfz10_0 := Goto.bf BK0 0; have hfz10_1 := Goto.bf BK0 1; have hfz10_2 := Goto.bf BK0 2; have hfz10_3 := Goto.bf BK0 3; have hfz10_4 := Goto.bf BK0 4
      obtain ⟨Ao11, co11, eo11⟩ := Kd.R_slice HO0_4.out
      subst eo11
      have p330 : 0 ≤ (a1 : Int) := Goto.od
      have q330 : a1 < (l0_3.length : Int) := Goto.od
      obtain ⟨ad330, A330_2, c330_2, A330_3, c330_3, e330, hx330_0, hx330_1, hx330_2, hx330_3, hx330_4, hx330_5, hx330_6, hx330_7, hx330_8, hx330_9, hl330_2, hi330_2, hl330_3, hi330_3⟩ := at_T44 (Kd.V_reads' HO0_3.out).2.2 a1 p330 q330
      cases e330
      obtain ⟨ce330, hce330, hMe330, hcc330⟩ := Kd.V_get HO0_3.out z44 a1 p330 (by first | exact q330 | exact of_decide_eq_true (by first | (with_reducible assumption) | assumption) | (have e_ := (Kd.V_reads' HO0_3.out).1; omega))
      obtain ⟨ua330_2, uc330_2, ua330_3, uc330_3, rfl, ul330_2, ge330_2, ul330_3, ge330_3⟩ := k44_openF hMe330
      have hv330_2 := hcc330 2 _ rfl
      rw [add_field _ _ 2 (by omega)] at hv330_2
      replace hv330_2 := Option.some.inj (hv330_2.symm.trans hx330_2)
      injection hv330_2 with hva_ hvn_ hvc_
      rw [hva_] at ge330_2
      rw [hvc_] at ul330_2
      have HL330_2 := Goto.m0 (show Kd.V (Kd.slice 3 (Kd.int .i64)) 26 _ w0.heap.size _ _ ((rd_T44 l0_3 a1).f1) from Kd.V_mk ul330_2 ge330_2)
      clear hva_ hvn_ hvc_ ge330_2 ul330_2
      have hv330_3 := hcc330 3 _ rfl
      rw [add_field _ _ 3 (by omega)] at hv330_3
      replace hv330_3 := Option.some.inj (hv330_3.symm.trans hx330_3)
      injection hv330_3 with hva_ hvn_ hvc_
      rw [hva_] at ge330_3
      rw [hvc_] at ul330_3
      have HL330_3 := Goto.m0 (show Kd.V (Kd.int .i64) 3 _ w0.heap.size _ _ ((rd_T44 l0_3 a1).f2) from Kd.V_mk ul330_3 ge330_3)
      clear hva_ hvn_ hvc_ ge330_3 ul330_3; clear hcc330 hce330
      have HR330_2 := Goto.m0 hi330_2
      have HC330_2 := Goto.m0 hl330_2
      clear hi330_2 hl330_2
      have HR330_3 := Goto.m0 hi330_3
      have HC330_3 := Goto.m0 hl330_3
      clear hi330_3 hl330_3; replace p330 := eq_true p330; replace q330 := eq_true q330
      go_wp2
      repeat (go_quiet (fail); try go_wp2)
      go_meet
      case rel => exact ⟨_, (((((rd_T44 l0_3 a1).f1).length : Int) == 0)), (by first | rfl | (simp; done) | (simp [*]; done)), H', ⟨by first | omega | exact Nat.le_refl _⟩, ⟨by (with_reducible repeat (first | apply Kd.V_alloc | apply Kd.V_drewN | apply Kd.V_drew)); exact HO0_3.out⟩, ⟨Goto.rk HO0_4⟩, ⟨Goto.bx BK0⟩, ⟨by repeat (first | (with_reducible first | exact HK.out | apply Kept.alloc | apply Kept.drewN | apply Kept.drew | refine Kept.setCell ?_ (.inl (.inr rfl)) _) | exact HK.out)⟩, ⟨Goto.hx HB⟩⟩
     ·
      rw [if_neg c9] at H
      exact absurd H (by simp)
    ·
     rw [if_neg c8] at H
     exact absurd H (by simp)
 case rest =>
  clear HC3; try clear c1; try clear p2; try clear c3; try clear p3; try clear q3; try clear hx3; try clear c4; try clear c4b0; try clear c5; try clear c5b0; try clear c8; try clear c8b0; try clear c9; try clear c9b0; try clear hcz10_0; try clear hcz10_1; try clear hcz10_2; try clear hcz10_3; try clear hcz10_4; try clear hcz6_0; try clear hcz6_1; try clear hcz6_2; try clear hcz6_3; try clear hcz6_4; try clear hfz10_0; try clear hfz10_1; try clear hfz10_2; try clear hfz10_3; try clear hfz10_4; try clear hfz6_0; try clear hfz6_1; try clear hfz6_2; try clear hfz6_3; try clear hfz6_4; try clear hx330_0; try clear hx330_1; try clear hx330_2; try clear hx330_3; try clear hx330_4; try clear hx330_5; try clear hx330_6; try clear hx330_7; try clear hx330_8; try clear hx330_9; try clear p330; try clear q330
  obtain ⟨kq, x28_2, rfl, HA, HJ2, HO_1003, HO_1004, BK0, HK, HB⟩ := hcut
  cases kq with
  | zero => exact absurd HA.out (by simp [tontineref15_Routes_Now.j0])
  | succ kj2 =>
   have H := HA.out; clear HA
   simp only [tontineref15_Routes_Now.j0] at H
   by_cases c12 : x28_2 = true
   ·
    subst c12
    rw [if_pos rfl] at H
    simp only [Option.some.injEq, Prod.mk.injEq] at H
    obtain ⟨rfl, rfl⟩ := H
    go_wp2
    repeat (go_quiet (fail); try go_wp2)
    go_ret
    (try simp only [← exists_and_left])
    exact ⟨_, _, Goto.er, Kd.V_nil _ _ _ _ _, Goto.rk HO_1004, by (with_reducible repeat first | refine blk_drewN ?_ _ | refine blk_drew ?_ | refine blk_alloc ?_ _); exact BK0.out, by repeat (first | (with_reducible first | exact HB.out | apply below_alloc | apply pw_below_drewN | apply below_drew1 | refine below_set ?_ GE0.out) | exact HB.out), by repeat (first | (with_reducible first | exact HK.out | apply Kept.alloc | apply Kept.drewN | apply Kept.drew | refine Kept.setCell ?_ (.inl (.inr rfl)) _) | exact HK.out)⟩
   ·
    replace c12 := Bool.eq_false_iff.mpr c12
    subst c12
    rw [if_neg (show ¬ (false = true) by decide)] at H
    by_cases c13 : 0 ≤ a1
    ·
     rw [if_pos c13] at H
     have c13b0 : decide (0 ≤ a1) = true := decide_eq_true c13
     clear c13
     by_cases c14 : a1 < (l0_3.length : Int)
     ·
      rw [if_pos c14] at H
      have c14b0 : decide (a1 < (l0_3.length : Int)) = true := decide_eq_true c14
      clear c14
      by_cases c15 : a1 < (l0_4.length : Int)
      ·
       rw [if_pos c15] at H
       have c15b0 : decide (a1 < (l0_4.length : Int)) = true := decide_eq_true c15
       clear c15
       by_cases c16 : 0 ≤ (rd l0_4 a1)
       ·
        rw [if_pos c16] at H
        have c16b0 : decide (0 ≤ (rd l0_4 a1)) = true := decide_eq_true c16
        clear c16
        by_cases c17 : (rd l0_4 a1) < (((rd_T44 l0_3 a1).f1).length : Int)
        ·
         rw [if_pos c17] at H
         have c17b0 : decide ((rd l0_4 a1) < (((rd_T44 l0_3 a1).f1).length : Int)) = true := decide_eq_true c17
         clear c17
         simp only [Option.some.injEq, Prod.mk.injEq] at H
         obtain ⟨rfl, rfl⟩ := H
         have hcz18_0 := Goto.bc0 BK0; have hcz18_1 := Goto.bc1 BK0; have hcz18_2 := Goto.bc2 BK0; have hcz18_3 := Goto.bc3 BK0; have hcz18_4 := Goto.bc4 BK0; have hfz18_0 := Goto.bf BK0 0; have hfz18_1 := Goto.bf BK0 1; have hfz18_2 := Goto.bf BK0 2; have hfz18_3 := Goto.bf BK0 3; have hfz18_4 := Goto.bf BK0 4
         have p331 : 0 ≤ (a1 : Int) := Goto.od
         have q331 : a1 < (l0_3.length : Int) := Goto.od
         obtain ⟨ad331, A331_2, c331_2, A331_3, c331_3, e331, hx331_0, hx331_1, hx331_2, hx331_3, hx331_4, hx331_5, hx331_6, hx331_7, hx331_8, hx331_9, hl331_2, hi331_2, hl331_3, hi331_3⟩ := at_T44 (Kd.V_reads' HO_1003.out).2.2 a1 p331 q331
         cases e331
         obtain ⟨ce331, hce331, hMe331, hcc331⟩ := Kd.V_get HO_1003.out z44 a1 p331 (by first | exact q331 | exact of_decide_eq_true (by first | (with_reducible assumption) | assumption) | (have e_ := (Kd.V_reads' HO_1003.out).1; omega))
         obtain ⟨ua331_2, uc331_2, ua331_3, uc331_3, rfl, ul331_2, ge331_2, ul331_3, ge331_3⟩ := k44_openF hMe331
         have hv331_2 := hcc331 2 _ rfl
         rw [add_field _ _ 2 (by omega)] at hv331_2
         replace hv331_2 := Option.some.inj (hv331_2.symm.trans hx331_2)
         injection hv331_2 with hva_ hvn_ hvc_
         rw [hva_] at ge331_2
         rw [hvc_] at ul331_2
         have HL331_2 := Goto.m0 (show Kd.V (Kd.slice 3 (Kd.int .i64)) 26 _ w0.heap.size _ _ ((rd_T44 l0_3 a1).f1) from Kd.V_mk ul331_2 ge331_2)
         clear hva_ hvn_ hvc_ ge331_2 ul331_2
         have hv331_3 := hcc331 3 _ rfl
         rw [add_field _ _ 3 (by omega)] at hv331_3
         replace hv331_3 := Option.some.inj (hv331_3.symm.trans hx331_3)
         injection hv331_3 with hva_ hvn_ hvc_
         rw [hva_] at ge331_3
         rw [hvc_] at ul331_3
         have HL331_3 := Goto.m0 (show Kd.V (Kd.int .i64) 3 _ w0.heap.size _ _ ((rd_T44 l0_3 a1).f2) from Kd.V_mk ul331_3 ge331_3)
         clear hva_ hvn_ hvc_ ge331_3 ul331_3; clear hcc331 hce331
         have HR331_2 := Goto.m0 hi331_2
         have HC331_2 := Goto.m0 hl331_2
         clear hi331_2 hl331_2
         have HR331_3 := Goto.m0 hi331_3
         have HC331_3 := Goto.m0 hl331_3
         clear hi331_3 hl331_3; replace p331 := eq_true p331; replace q331 := eq_true q331
         obtain ⟨Ao19, co19, eo19⟩ := Kd.R_slice HO_1004.out
         subst eo19
         have p332 : 0 ≤ (a1 : Int) := Goto.od
         have q332 : a1 < (l0_4.length : Int) := Goto.od
         obtain ⟨ad332, e332, hx332_0⟩ := Kd.at_int (Kd.R_reads' HO_1004.out).2.2 a1 p332 q332
         cases e332
         replace p332 := eq_true p332; replace q332 := eq_true q332
         have p333 : 0 ≤ ((rd l0_4 a1) : Int) := Goto.od
         have q333 : (rd l0_4 a1) < (((rd_T44 l0_3 a1).f1).length : Int) := Goto.od
         obtain ⟨ad333, A333_0, c333_0, e333, hx333_0, hl333_0, hi333_0⟩ := at_L1 (by repeat (first | (with_reducible exact HR331_2.out) | (with_reducible refine Kd.C_alloc ?_ _) | (with_reducible refine Kd.C_drewN ?_ _) | (with_reducible refine Kd.C_drew ?_) | exact HR331_2.out)) (rd l0_4 a1) p333 q333
         cases e333
         obtain ⟨ce333, hce333, hMe333, hcc333⟩ := Kd.V_get HL331_2.out [] (rd l0_4 a1) p333 (by first | exact q333 | exact of_decide_eq_true (by first | (with_reducible assumption) | assumption) | (have e_ := (Kd.V_reads' HL331_2.out).1; omega))
         obtain ⟨ua333_0, uc333_0, rfl, ul333_0, ge333_0⟩ := Kd.FK_slice_open hMe333
         have hv333_0 := hcc333 0 _ rfl
         rw [Nat.add_zero, show ((Kd.slice 3 (Kd.int .i64))).sz = 1 from rfl, Nat.mul_one] at hv333_0
         replace hv333_0 := Option.some.inj (hv333_0.symm.trans hx333_0)
         injection hv333_0 with hva_ hvn_ hvc_
         rw [hva_] at ge333_0
         rw [hvc_] at ul333_0
         have HL333_0 := Goto.m0 (show Kd.V (Kd.int .i64) 3 _ w0.heap.size _ _ (rd_L1 ((rd_T44 l0_3 a1).f1) (rd l0_4 a1)) from Kd.V_mk ul333_0 ge333_0)
         clear hva_ hvn_ hvc_ ge333_0 ul333_0; clear hcc333 hce333
         have HR333_0 := Goto.m0 hi333_0
         have HC333_0 := Goto.m0 hl333_0
         clear hi333_0 hl333_0; replace p333 := eq_true p333; replace q333 := eq_true q333
         go_wp2
         repeat (go_quiet (fail); try go_wp2)
         go_ret
         (try simp only [← exists_and_left])
         exact ⟨_, _, Goto.er, by (with_reducible repeat (first | apply Kd.V_alloc | apply Kd.V_drewN | apply Kd.V_drew)); exact Kd.V_mono HL333_0.out (fun _ hk => ⟨hk.1, hk.2.1⟩), Goto.rk HO_1004, by (with_reducible repeat first | refine blk_drewN ?_ _ | refine blk_drew ?_ | refine blk_alloc ?_ _); exact BK0.out, by repeat (first | (with_reducible first | exact HB.out | apply below_alloc | apply pw_below_drewN | apply below_drew1 | refine below_set ?_ GE0.out) | exact HB.out), by repeat (first | (with_reducible first | exact HK.out | apply Kept.alloc | apply Kept.drewN | apply Kept.drew | refine Kept.setCell ?_ (.inl (.inr rfl)) _) | exact HK.out)⟩
        ·
         rw [if_neg c17] at H
         exact absurd H (by simp)
       ·
        rw [if_neg c16] at H
        exact absurd H (by simp)
      ·
       rw [if_neg c15] at H
       exact absurd H (by simp)
     ·
      rw [if_neg c14] at H
      exact absurd H (by simp)
    ·
     rw [if_neg c13] at H
     exact absurd H (by simp)

end Go.Proofs.Ytbhfkhcedjgpdaa.P
