/- Printed by a program of this workplace (a turned copy of the kit's optional print), out of the translation; not trusted: Lean checks it. -/
import Derived.Test.YtbhfkhcedjgpdaaDoorPx0
namespace Go.Proofs.YtbhfkhcedjgpdaaDoor.P
open Go.RowKit Go.Proofs.YtbhfkhcedjgpdaaDoorW.PrintWords Go.Proofs.YtbhfkhcedjgpdaaDoorW.PrintLast Go.Proofs.YtbhfkhcedjgpdaaDoorW.PrintMore
attribute [local go_sem] max2_int min2_int max_two min_two max_three min_three max_four min_four   -- for this text's walks alone
set_option linter.unusedVariables false
set_option linter.unusedSimpArgs false

/-! ### latch_New: function 18 -/
def latch_New.f (a0_0 : Int) (a0_1 : Int) (l0_2 : List (List Int)) (l0_3 : List (S60)) : Option (Int × Int × Int × List Int × Int × List Int) := if 0 ≤ (l0_3.length : Int) then (if ((l0_3.length : Int) : Int).toNat ≤ 35184372088832 then (some (a0_0, a0_1, 0, (List.replicate ((l0_3.length : Int) : Int).toNat 0), 0, (List.replicate ((l0_3.length : Int) : Int).toNat 0))) else (none)) else (none)
def latch_New.T2 : Bool × List (List Nat × List Nat) := (true, [([], []), ([], []), ([1, 1], [1]), ([2], [2]), ([], []), ([4, 4], [4]), ([5], [5]), ([0, 3, 6], [0, 3, 6]), ([7], [7]), ([8, 0, 1, 2, 3, 4, 5, 6, 7, 8], [8])])
def latch_New.B2 : List Nat := [0, 0, 2, 6, 0, 16, 48, 127, 255, 511]
theorem latch_New.tab2 : rtab .any (opsOf Tryd.f18 2) = latch_New.T2 := by kernel_rfl
theorem latch_New.bits2 : waitsOk latch_New.T2.2 latch_New.B2 = true := by kernel_rfl
set_option maxHeartbeats 8000000 in
set_option maxRecDepth 100000 in
theorem latch_New.calls (a0_0 : Int) (a0_1 : Int) (A0_2 : Option Addr) (c0_2 : Nat) (l0_2 : List (List Int)) (A0_3 : Option Addr) (c0_3 : Nat) (l0_3 : List (S60)) (r1 : Int) (r2 : Int) (r3 : Int) (r4 : List Int) (r5 : Int) (r6 : List Int) (w : World) (hr0_2 : Kd.C (Kd.slice 3 (Kd.int .i64)) w A0_2 l0_2.length l0_2) (hc0_2 : l0_2.length ≤ c0_2) (hr0_3 : Kd.C k60 w A0_3 l0_3.length l0_3) (hc0_3 : l0_3.length ≤ c0_3) (h : latch_New.f a0_0 a0_1 l0_2 l0_3 = some (r1, r2, r3, r4, r5, r6)) :
    Calls Tryd.prog 18 #[.agg #[.int .i64 a0_0, .int .i64 a0_1, .slice A0_2 l0_2.length c0_2, .slice A0_3 l0_3.length c0_3]] w fun e w' => ∃ v3_ v5_ : Value, ∃ g_ : Nat, e = .returned (.pointer (some ⟨g_, 0, none⟩)) ∧ Kd.R (Kd.int .i64) 3 w' w.heap.size (fun k_ => some k_ ≠ (v5_ : Value).ownBlock) v3_ r4 ∧ Kd.R (Kd.int .i64) 3 w' w.heap.size (fun k_ => some k_ ≠ (v3_ : Value).ownBlock) v5_ r6 ∧ w'.heap[g_]? = some (.cells #[.int .i64 r1, .int .i64 r2, .slice A0_2 l0_2.length c0_2, .slice A0_3 l0_3.length c0_3, .int .i64 r3, v3_, .int .i64 r5, v5_] 70 (0, 0)) ∧ w.heap.size ≤ g_ ∧ Below w.heap.size w w' := by
 have hu25 := Tryd.underlying25; have hu68 := Tryd.underlying68; have hu70 := Tryd.underlying70
 have HR0_2 := Goto.m0 hr0_2
 have HC0_2 := Goto.m0 hc0_2
 clear hr0_2 hc0_2
 have HR0_3 := Goto.m0 hr0_3
 have HC0_3 := Goto.m0 hc0_3
 clear hr0_3 hc0_3
 have HB := Goto.m0 (Below.refl w.heap.size w)
 have H : (if 0 ≤ (l0_3.length : Int) then (if ((l0_3.length : Int) : Int).toNat ≤ 35184372088832 then (some (a0_0, a0_1, 0, (List.replicate ((l0_3.length : Int) : Int).toNat 0), 0, (List.replicate ((l0_3.length : Int) : Int).toNat 0))) else (none)) else (none)) = some (r1, r2, r3, r4, r5, r6) := h
 clear h
 by_cases c2 : 0 ≤ (l0_3.length : Int)
 ·
  rw [if_pos c2] at H
  have c2b0 := eq_true c2
  have c2b1 : decide (0 ≤ (l0_3.length : Int)) = true := decide_eq_true c2
  clear c2
  by_cases c3 : ((l0_3.length : Int) : Int).toNat ≤ 35184372088832
  ·
   rw [if_pos c3] at H
   have c3b0 := eq_true c3
   have c3b1 : decide (((l0_3.length : Int) : Int).toNat ≤ 35184372088832) = true := decide_eq_true c3
   clear c3
   obtain ⟨y162, hy162⟩ : ∃ y_ : List Int, y_ = (List.replicate ((l0_3.length : Int) : Int).toNat 0) := ⟨_, rfl⟩
   replace H : (some (a0_0, a0_1, 0, y162, 0, (List.replicate ((l0_3.length : Int) : Int).toNat 0))) = some (r1, r2, r3, r4, r5, r6) := by first | (rw [hy162]; with_reducible exact H) | (have H2_ := (Option.bind_some _ _).symm.trans H; rw [hy162]; with_reducible exact H2_) | (have H2_ := (Option.bind_some _ _).symm.trans H; with_reducible exact H2_) | with_reducible exact H | (rw [hy162]; exact H) | exact H
   have Ny162 := Goto.m0 hy162
   clear hy162
   obtain ⟨y165, hy165⟩ : ∃ y_ : List Int, y_ = (List.replicate ((l0_3.length : Int) : Int).toNat 0) := ⟨_, rfl⟩
   replace H : (some (a0_0, a0_1, 0, y162, 0, y165)) = some (r1, r2, r3, r4, r5, r6) := by first | (rw [hy165]; with_reducible exact H) | (have H2_ := (Option.bind_some _ _).symm.trans H; rw [hy165]; with_reducible exact H2_) | (have H2_ := (Option.bind_some _ _).symm.trans H; with_reducible exact H2_) | with_reducible exact H | (rw [hy165]; exact H) | exact H
   have Ny165 := Goto.m0 hy165
   clear hy165
   simp only [Option.some.injEq, Prod.mk.injEq] at H
   obtain ⟨rfl, rfl, rfl, rfl, rfl, rfl⟩ := H
   go_enter Tryd.func18, Tryd.ntmps18
   try go_wp2_with (first | ((with_reducible refine gate_dst (N := 1) rfl ?_); refine box_event ?hg (N := 1) ?hd (cs := #[.int .i64 a0_0, .int .i64 a0_1, .slice A0_2 l0_2.length c0_2, .slice A0_3 l0_3.length c0_3]) (t := 25) ?hr ?_; (case hd => rfl); (case hg => rfl); (case hr => first | (go_simp; done) | (go_simp; rfl)); intro gb161 hg w4 hbox hb; have BK161 := Goto.m0 (hbox); have GW161 := Goto.gs HB hg; have GE161 := Goto.gs HB hg; replace HB := Goto.hs HB hb; clear hb hbox hg; have hcz5_0 := Goto.bc0 BK161; have hcz5_1 := Goto.bc1 BK161; have hcz5_2 := Goto.bc2 BK161; have hcz5_3 := Goto.bc3 BK161; have hfz5_0 := Goto.bf BK161 0; have hfz5_1 := Goto.bf BK161 1; have hfz5_2 := Goto.bf BK161 2; have hfz5_3 := Goto.bf BK161 3))
   replace BK161 := Goto.m0 (blk_drew BK161.out); replace HB := Goto.m0 (below_drew1 HB.out)
   refine start_ (n := 10) (S := fun w' => w'.cell? ⟨gb161, 0, none⟩ = some (.int .i64 a0_0) ∧ w'.cell? ⟨gb161, 1, none⟩ = some (.int .i64 a0_1) ∧ w'.cell? ⟨gb161, 2, none⟩ = some (.slice A0_2 l0_2.length c0_2) ∧ w'.cell? ⟨gb161, 3, none⟩ = some (.slice A0_3 l0_3.length c0_3)) (ds := []) (.replicate 10 false) (by kernel_rfl) rfl rfl ⟨(blk_cell BK161.out 0).trans rfl, (blk_cell BK161.out 1).trans rfl, (blk_cell BK161.out 2).trans rfl, (blk_cell BK161.out 3).trans rfl⟩ (fun hHeld => ?_); refine with_tabW latch_New.tab2 latch_New.bits2 (fun HT_ HW_ => ?_)
   generalize w4.drew = w6 at BK161 HB hHeld ⊢
   refine Goto.pu 1 8 10 2 ?_
   refine Goto.pu 4 11 10 18 ?_
   refine take_ (i := 0) (N := some 7) (v := ?_) (a' := ?_) (Goto.bs 10 19) rfl rfl (take_ofW HT_.out HW_.out (by kernel_rfl)) (fun _ _ _ h => h) (Or.inl ⟨by rfl, ?_⟩) hHeld ?_ ?_
   rotate_left
   ·
    rintro w' ⟨s0, s1, s2, s3⟩
    go_simp
    with_reducible rfl
   rotate_left
   ·
    exact Goto.ap
   refine join_ (σ := Value × Value) 3 (Goto.bs 10 127) (fun s_ => [(9, s_.1), (12, s_.2), (10, .agg #[.int .i64 0, s_.1]), (13, .agg #[.int .i64 0, s_.2])]) (fun s_ w' => (w'.cell? ⟨gb161, 0, none⟩ = some (.int .i64 a0_0) ∧ w'.cell? ⟨gb161, 1, none⟩ = some (.int .i64 a0_1) ∧ w'.cell? ⟨gb161, 2, none⟩ = some (.slice A0_2 l0_2.length c0_2) ∧ w'.cell? ⟨gb161, 3, none⟩ = some (.slice A0_3 l0_3.length c0_3)) ∧ (Kd.R (Kd.int .i64) 3 w' w.heap.size (fun k_ => some k_ ≠ (s_.2 : Value).ownBlock) s_.1 y162) ∧ (Kd.R (Kd.int .i64) 3 w' w.heap.size (fun k_ => some k_ ≠ (s_.1 : Value).ownBlock) s_.2 y165) ∧ (w'.heap[gb161]? = some (.cells #[.int .i64 a0_0, .int .i64 a0_1, .slice A0_2 l0_2.length c0_2, .slice A0_3 l0_3.length c0_3] 25 (0, 0))) ∧ (Below w.heap.size w w')) ?_ ?_
   rotate_left
   ·
    intro hCont
    refine two_ (i := 2) (j := 5) (Ni := some 9) (Nj := some 12) (Goto.bs 10 23) (Goto.bs 10 51) rfl rfl rfl rfl (two_of HT_.out (by kernel_rfl)) (by decide) (by decide) (fun K hK => ?_) (fun K hK => ?_)
    ·
     skip
     refine Kd.R_make_step (Kd.int .i64) _ 3 (by rfl) (N := 9) rfl 47 _ _ rfl (l0_3.length : Int) rfl rfl Tryd.underlying47 (.int .i64 0) 8 info3 rfl (by decide) (by omega) 0 (ok := fun _ => True) (okp := fun _ => True) rfl (fun _ hk => hk) trivial (of_decide_eq_true (by first | (with_reducible assumption) | assumption)) (Nat.le_trans (Nat.mul_le_mul_right _ (of_decide_eq_true (by first | (with_reducible assumption) | assumption) : (l0_3.length : Int).toNat ≤ 35184372088832)) (by omega)) (Below.refl _ _) (Nat.le_refl _) ?_
     intro v163 w7 ho8 hb hg_ hnew_
     clear hg_ hnew_
     (first | rw [← Ny162.out] at ho8 | (simp only [Int.reduceToNat] at ho8; rw [← Ny162.out] at ho8))
     have HO164 := Goto.m0 (Kd.R_lower ho8 (below_size (Goto.hx HB))); replace BK161 := Goto.bb BK161 hb; replace HB := Goto.hs HB hb; clear hb ho8
     obtain ⟨Ao9, co9, eo9⟩ := Kd.R_slice HO164.out
     (first | subst eo9 | (injection eo9 with f1_ f2_ f3_; have f4_ := f1_.symm; have f5_ := f3_.symm; clear f1_ f2_ f3_; subst f4_; subst f5_))
     refine hK.out _ _ ⟨(blk_cell BK161.out 0).trans rfl, (blk_cell BK161.out 1).trans rfl, (blk_cell BK161.out 2).trans rfl, (blk_cell BK161.out 3).trans rfl⟩ (fun hHeld => ?_)
     clear hK K
     refine norm_ (a' := ?_) ?_ ?_
     rotate_left
     ·
      show Act.put _ (some 9) _ = _
      exact Goto.ap
     refine Goto.pu 3 10 10 31 ?_
     refine one_ (i := 5) (N := some 12) (Goto.bs 10 63) rfl rfl (one_of HT_.out (by kernel_rfl)) (by decide) (fun K hK => ?_)
     refine Kd.R_make_step (Kd.int .i64) _ 3 (by rfl) (N := 12) rfl 47 _ _ rfl (l0_3.length : Int) rfl rfl Tryd.underlying47 (.int .i64 0) 8 info3 rfl (by decide) (by omega) 0 (ok := fun _ => True) (okp := fun _ => True) rfl (fun _ hk => hk) trivial (of_decide_eq_true (by first | (with_reducible assumption) | assumption)) (Nat.le_trans (Nat.mul_le_mul_right _ (of_decide_eq_true (by first | (with_reducible assumption) | assumption) : (l0_3.length : Int).toNat ≤ 35184372088832)) (by omega)) (Below.refl _ _) (Nat.le_refl _) ?_
     intro v166 w10 ho11 hb hg_ hnew_
     clear hg_ hnew_
     (first | rw [← Ny165.out] at ho11 | (simp only [Int.reduceToNat] at ho11; rw [← Ny165.out] at ho11))
     have HO167 := Goto.m0 (Kd.R_lower (Kd.R_new' ho11 (Kd.R_lt (Goto.rk HO164))) (below_size (Goto.hx HB))); replace HO164 := Goto.m0 (Kd.R_elder' (Goto.rk HO164) (Kd.R_base ho11) hb); replace BK161 := Goto.bb BK161 hb; replace HB := Goto.hs HB hb; clear hb ho11
     obtain ⟨Ao12, co12, eo12⟩ := Kd.R_slice HO167.out
     (first | subst eo12 | (injection eo12 with f1_ f2_ f3_; have f4_ := f1_.symm; have f5_ := f3_.symm; clear f1_ f2_ f3_; subst f4_; subst f5_))
     refine hK.out _ _ ⟨(blk_cell BK161.out 0).trans rfl, (blk_cell BK161.out 1).trans rfl, (blk_cell BK161.out 2).trans rfl, (blk_cell BK161.out 3).trans rfl⟩ (fun hHeld => ?_)
     clear hK K
     refine norm_ (a' := ?_) ?_ ?_
     rotate_left
     ·
      show Act.put _ (some 12) _ = _
      exact Goto.ap
     refine Goto.pu 6 13 10 127 ?_
     exact norm_ (by simp only [putAll, Act.put, List.setIfInBounds_toArray, List.set_cons_zero, List.set_cons_succ]) (hCont (.slice Ao9 y162.length co9, .slice Ao12 y165.length co12) _ ⟨hHeld, (by (with_reducible repeat (first | apply Kd.R_alloc | apply Kd.R_drewN | apply Kd.R_drew)); exact Kd.R_mono HO164.out (fun _ hk => hk.2)), (by (with_reducible repeat (first | apply Kd.R_alloc | apply Kd.R_drewN | apply Kd.R_drew)); exact Kd.R_mono HO167.out (fun _ hk => hk.2)), (Goto.bx BK161), (Goto.hx HB)⟩)
    ·
     skip
     refine Kd.R_make_step (Kd.int .i64) _ 3 (by rfl) (N := 12) rfl 47 _ _ rfl (l0_3.length : Int) rfl rfl Tryd.underlying47 (.int .i64 0) 8 info3 rfl (by decide) (by omega) 0 (ok := fun _ => True) (okp := fun _ => True) rfl (fun _ hk => hk) trivial (of_decide_eq_true (by first | (with_reducible assumption) | assumption)) (Nat.le_trans (Nat.mul_le_mul_right _ (of_decide_eq_true (by first | (with_reducible assumption) | assumption) : (l0_3.length : Int).toNat ≤ 35184372088832)) (by omega)) (Below.refl _ _) (Nat.le_refl _) ?_
     intro v166 w7 ho8 hb hg_ hnew_
     clear hg_ hnew_
     (first | rw [← Ny165.out] at ho8 | (simp only [Int.reduceToNat] at ho8; rw [← Ny165.out] at ho8))
     have HO167 := Goto.m0 (Kd.R_lower ho8 (below_size (Goto.hx HB))); replace BK161 := Goto.bb BK161 hb; replace HB := Goto.hs HB hb; clear hb ho8
     obtain ⟨Ao9, co9, eo9⟩ := Kd.R_slice HO167.out
     (first | subst eo9 | (injection eo9 with f1_ f2_ f3_; have f4_ := f1_.symm; have f5_ := f3_.symm; clear f1_ f2_ f3_; subst f4_; subst f5_))
     refine hK.out _ _ ⟨(blk_cell BK161.out 0).trans rfl, (blk_cell BK161.out 1).trans rfl, (blk_cell BK161.out 2).trans rfl, (blk_cell BK161.out 3).trans rfl⟩ (fun hHeld => ?_)
     clear hK K
     refine norm_ (a' := ?_) ?_ ?_
     rotate_left
     ·
      show Act.put _ (some 12) _ = _
      exact Goto.ap
     refine Goto.pu 6 13 10 115 ?_
     refine one_ (i := 2) (N := some 9) (Goto.bs 10 119) rfl rfl (one_of HT_.out (by kernel_rfl)) (by decide) (fun K hK => ?_)
     refine Kd.R_make_step (Kd.int .i64) _ 3 (by rfl) (N := 9) rfl 47 _ _ rfl (l0_3.length : Int) rfl rfl Tryd.underlying47 (.int .i64 0) 8 info3 rfl (by decide) (by omega) 0 (ok := fun _ => True) (okp := fun _ => True) rfl (fun _ hk => hk) trivial (of_decide_eq_true (by first | (with_reducible assumption) | assumption)) (Nat.le_trans (Nat.mul_le_mul_right _ (of_decide_eq_true (by first | (with_reducible assumption) | assumption) : (l0_3.length : Int).toNat ≤ 35184372088832)) (by omega)) (Below.refl _ _) (Nat.le_refl _) ?_
     intro v163 w10 ho11 hb hg_ hnew_
     clear hg_ hnew_
     (first | rw [← Ny162.out] at ho11 | (simp only [Int.reduceToNat] at ho11; rw [← Ny162.out] at ho11))
     have HO164 := Goto.m0 (Kd.R_lower (Kd.R_new' ho11 (Kd.R_lt (Goto.rk HO167))) (below_size (Goto.hx HB))); replace HO167 := Goto.m0 (Kd.R_elder' (Goto.rk HO167) (Kd.R_base ho11) hb); replace BK161 := Goto.bb BK161 hb; replace HB := Goto.hs HB hb; clear hb ho11
     obtain ⟨Ao12, co12, eo12⟩ := Kd.R_slice HO164.out
     (first | subst eo12 | (injection eo12 with f1_ f2_ f3_; have f4_ := f1_.symm; have f5_ := f3_.symm; clear f1_ f2_ f3_; subst f4_; subst f5_))
     refine hK.out _ _ ⟨(blk_cell BK161.out 0).trans rfl, (blk_cell BK161.out 1).trans rfl, (blk_cell BK161.out 2).trans rfl, (blk_cell BK161.out 3).trans rfl⟩ (fun hHeld => ?_)
     clear hK K
     refine norm_ (a' := ?_) ?_ ?_
     rotate_left
     ·
      show Act.put _ (some 9) _ = _
      exact Goto.ap
     refine Goto.pu 3 10 10 127 ?_
     exact norm_ (by simp only [putAll, Act.put, List.setIfInBounds_toArray, List.set_cons_zero, List.set_cons_succ]) (hCont (.slice Ao12 y162.length co12, .slice Ao9 y165.length co9) _ ⟨hHeld, (by (with_reducible repeat (first | apply Kd.R_alloc | apply Kd.R_drewN | apply Kd.R_drew)); exact Kd.R_mono HO164.out (fun _ hk => hk.2)), (by (with_reducible repeat (first | apply Kd.R_alloc | apply Kd.R_drewN | apply Kd.R_drew)); exact Kd.R_mono HO167.out (fun _ hk => hk.2)), (Goto.bx BK161), (Goto.hx HB)⟩)
   rintro ⟨v163, v166⟩ w13 ⟨hS_, h0_, h1_, h2_, h3_⟩
   have n0_ : Aside0 (Kd.R (Kd.int .i64) 3 w13 w.heap.size (fun k_ => some k_ ≠ (v166 : Value).ownBlock) v163 y162) := ⟨h0_⟩
   have n1_ : Aside0 (Kd.R (Kd.int .i64) 3 w13 w.heap.size (fun k_ => some k_ ≠ (v163 : Value).ownBlock) v166 y165) := ⟨h1_⟩
   have n2_ : Aside0 (w13.heap[gb161]? = some (.cells #[.int .i64 a0_0, .int .i64 a0_1, .slice A0_2 l0_2.length c0_2, .slice A0_3 l0_3.length c0_3] 25 (0, 0))) := ⟨h2_⟩
   have n3_ : Aside0 (Below w.heap.size w w13) := ⟨h3_⟩
   clear BK161; clear HB; clear h0_ h1_ h2_ h3_; have HO164 := n0_; have HO167 := n1_; have BK161 := n2_; have HB := n3_; clear n0_ n1_ n2_ n3_
   have hHeld : w13.cell? ⟨gb161, 0, none⟩ = some (.int .i64 a0_0) ∧ w13.cell? ⟨gb161, 1, none⟩ = some (.int .i64 a0_1) ∧ w13.cell? ⟨gb161, 2, none⟩ = some (.slice A0_2 l0_2.length c0_2) ∧ w13.cell? ⟨gb161, 3, none⟩ = some (.slice A0_3 l0_3.length c0_3) := hS_
   obtain ⟨Ao14, co14, eo14⟩ := Kd.R_slice HO164.out
   (first | subst eo14 | (injection eo14 with f1_ f2_ f3_; have f4_ := f1_.symm; have f5_ := f3_.symm; clear f1_ f2_ f3_; subst f4_; subst f5_))
   obtain ⟨Ao15, co15, eo15⟩ := Kd.R_slice HO167.out
   (first | subst eo15 | (injection eo15 with f1_ f2_ f3_; have f4_ := f1_.symm; have f5_ := f3_.symm; clear f1_ f2_ f3_; subst f4_; subst f5_))
   refine norm_ (a' := ?_) ?_ ?_
   rotate_left
   ·
    simp only [putAll, Act.put, List.setIfInBounds_toArray, List.set_cons_zero, List.set_cons_succ]
    rfl
   refine Goto.pu 7 14 10 255 ?_
   refine one_ (i := 8) (N := some 15) (Goto.bs 10 511) rfl rfl (one_of HT_.out (by kernel_rfl)) (by decide) (fun K hK => ?_)
   refine box_step ?hg (N := 15) ?hd (cs := #[.int .i64 a0_0, .int .i64 a0_1, .slice A0_2 l0_2.length c0_2, .slice A0_3 l0_3.length c0_3, .int .i64 0, .slice Ao14 y162.length co14, .int .i64 0, .slice Ao15 y165.length co15]) (t := 70) ?hr ?_; (case hd => rfl); (case hg => rfl); (case hr => first | (go_simp; done) | (go_simp; rfl))
   intro gb168 hg w16 hbox hb
   have BK168 := Goto.m0 (hbox); have GW168 := Goto.gs HB hg; have GE168 := Goto.gs HB hg; have NB161_168 := Goto.nl BK161 hg; have NB168_161 := Goto.nr BK161 hg; replace HO164 := Goto.m0 (Kd.R_below (Goto.rk HO164) hb); replace HO167 := Goto.m0 (Kd.R_below (Goto.rk HO167) hb); replace BK161 := Goto.bb BK161 hb; replace HB := Goto.hs HB hb; clear hb hbox hg
   refine hK.out _ _ ⟨(blk_cell BK161.out 0).trans rfl, (blk_cell BK161.out 1).trans rfl, (blk_cell BK161.out 2).trans rfl, (blk_cell BK161.out 3).trans rfl⟩ (fun hHeld => ?_)
   clear hK K
   refine norm_ (a' := ?_) ?_ ?_
   rotate_left
   ·
    show Act.put _ (some 15) _ = _
    exact Goto.ap
   refine Goto.pu 9 2 10 1023 ?_
   refine done_ (done_of HT_.out (by kernel_rfl)) ?_
   try go_wp2
   go_ret
   exact ⟨_, _, _, Goto.er, Goto.rk HO164, Goto.rk HO167, by (with_reducible repeat first | refine blk_drewN ?_ _ | refine blk_drew ?_ | refine blk_alloc ?_ _); exact BK168.out, GW168.out, by repeat (first | (with_reducible first | exact HB.out | apply below_alloc | apply pw_below_drewN | apply below_drew1 | refine below_set ?_ GE161.out | refine below_set ?_ GE168.out) | exact HB.out)⟩
  ·
   rw [if_neg c3] at H
   exact absurd H (by simp)
 ·
  rw [if_neg c2] at H
  exact absurd H (by simp)

/-! ### latch_Latch_AskPlan: function 21 -/
def latch_Latch_AskPlan.f (a0_0 : Int) (a0_1 : Int) (l0_2 : List (List Int)) (l0_3 : List (S60)) (a0_4 : Int) (l0_5 : List Int) (a0_6 : Int) (l0_7 : List Int) (a1 : Int) : Option (Option Int × Int × List Int × Int × List Int) := if a1 < 0 then (some (some 10, a0_4, l0_5, a0_6, l0_7)) else (if a1 ≥ (l0_2.length : Int) then (some (some 10, a0_4, l0_5, a0_6, l0_7)) else (some (none, a0_4, l0_5, a1, l0_7)))
set_option maxHeartbeats 8000000 in
set_option maxRecDepth 100000 in
theorem latch_Latch_AskPlan.calls (g : Nat) (a0_0 : Int) (a0_1 : Int) (A0_2 : Option Addr) (c0_2 : Nat) (l0_2 : List (List Int)) (A0_3 : Option Addr) (c0_3 : Nat) (l0_3 : List (S60)) (a0_4 : Int) (P0_5_ : Nat → Prop) (u9000_ : Value) (l0_5 : List Int) (a0_6 : Int) (P0_7_ : Nat → Prop) (u9001_ : Value) (l0_7 : List Int) (a1 : Int) (r1 : Option Int) (r2 : Int) (r3 : List Int) (r4 : Int) (r5 : List Int) (w0 w : World) (hI : w.heap[g]? = some (.cells #[.int .i64 a0_0, .int .i64 a0_1, .slice A0_2 l0_2.length c0_2, .slice A0_3 l0_3.length c0_3, .int .i64 a0_4, u9000_, .int .i64 a0_6, u9001_] 70 (0, 0))) (hG : w0.heap.size ≤ g) (hB : Below w0.heap.size w0 w) (hr0_2 : ∀ W_, Kept w W_ (fun k_ => (P0_5_ k_ ∨ P0_7_ k_) ∨ k_ = g) → Kd.C (Kd.slice 3 (Kd.int .i64)) W_ A0_2 l0_2.length l0_2) (hc0_2 : l0_2.length ≤ c0_2) (hr0_3 : ∀ W_, Kept w W_ (fun k_ => (P0_5_ k_ ∨ P0_7_ k_) ∨ k_ = g) → Kd.C k60 W_ A0_3 l0_3.length l0_3) (hc0_3 : l0_3.length ≤ c0_3) (ho0_5 : Kd.R (Kd.int .i64) 3 w w0.heap.size P0_5_ u9000_ l0_5) (hp0_5_0_7 : ∀ k_, P0_5_ k_ → ¬ P0_7_ k_) (ho0_7 : Kd.R (Kd.int .i64) 3 w w0.heap.size P0_7_ u9001_ l0_7) (hp0_7_0_5 : ∀ k_, P0_7_ k_ → ¬ P0_5_ k_) (h : latch_Latch_AskPlan.f a0_0 a0_1 l0_2 l0_3 a0_4 l0_5 a0_6 l0_7 a1 = some (r1, r2, r3, r4, r5)) :
    Calls Tryd.prog 21 #[.pointer (some ⟨g, 0, none⟩), .int .i64 a1] w fun e w' => ∃ v2_ v4_ : Value, e = .returned (errW r1) ∧ Kd.R (Kd.int .i64) 3 w' w0.heap.size (fun k_ => ((P0_5_ k_ ∨ P0_7_ k_) ∨ w.heap.size ≤ k_) ∧ some k_ ≠ (v4_ : Value).ownBlock) v2_ r3 ∧ Kd.R (Kd.int .i64) 3 w' w0.heap.size (fun k_ => ((P0_5_ k_ ∨ P0_7_ k_) ∨ w.heap.size ≤ k_) ∧ some k_ ≠ (v2_ : Value).ownBlock) v4_ r5 ∧ w'.heap[g]? = some (.cells #[.int .i64 a0_0, .int .i64 a0_1, .slice A0_2 l0_2.length c0_2, .slice A0_3 l0_3.length c0_3, .int .i64 r2, v2_, .int .i64 r4, v4_] 70 (0, 0)) ∧ Below w0.heap.size w0 w' ∧ Kept w w' (fun k_ => (P0_5_ k_ ∨ P0_7_ k_) ∨ k_ = g) := by
 have hu31 := Tryd.underlying31; have hu55 := Tryd.underlying55
 have HR0_2 := Goto.m0 hr0_2
 have HC0_2 := Goto.m0 hc0_2
 clear hr0_2 hc0_2
 have HR0_3 := Goto.m0 hr0_3
 have HC0_3 := Goto.m0 hc0_3
 clear hr0_3 hc0_3
 have HO0_5 := Goto.m0 (show Kd.R (Kd.int .i64) 3 w w0.heap.size (fun k_ => ((P0_5_ k_ ∨ P0_7_ k_) ∨ w.heap.size ≤ k_) ∧ some k_ ≠ (u9001_ : Value).ownBlock) u9000_ l0_5 from Kd.R_mono ho0_5 (fun k_ hk => ⟨(.inl (.inl hk)), fun e_ => hp0_5_0_7 k_ hk (ho0_7.1 k_ e_.symm)⟩))
 have HO0_7 := Goto.m0 (show Kd.R (Kd.int .i64) 3 w w0.heap.size (fun k_ => ((P0_5_ k_ ∨ P0_7_ k_) ∨ w.heap.size ≤ k_) ∧ some k_ ≠ (u9000_ : Value).ownBlock) u9001_ l0_7 from Kd.R_mono ho0_7 (fun k_ hk => ⟨(.inl (.inr hk)), fun e_ => hp0_7_0_5 k_ hk (ho0_5.1 k_ e_.symm)⟩))
 have BK0 := Goto.m0 hI
 have GE0 := Goto.m0 hG
 clear hI hG
 have HK := Goto.m0 (Kept.refl w (fun k_ => (P0_5_ k_ ∨ P0_7_ k_) ∨ k_ = g))
 have HW0 := Goto.m0 hB.size
 have HB := Goto.m0 hB
 clear hB
 have H : (if a1 < 0 then (some (some 10, a0_4, l0_5, a0_6, l0_7)) else (if a1 ≥ (l0_2.length : Int) then (some (some 10, a0_4, l0_5, a0_6, l0_7)) else (some (none, a0_4, l0_5, a1, l0_7)))) = some (r1, r2, r3, r4, r5) := h
 clear h
 by_cases c3 : a1 < 0
 ·
  rw [if_pos c3] at H
  have c3b0 : decide (a1 < 0) = true := decide_eq_true c3
  clear c3
  simp only [Option.some.injEq, Prod.mk.injEq] at H
  obtain ⟨rfl, rfl, rfl, rfl, rfl⟩ := H
  go_enter Tryd.func21, Tryd.ntmps21
  go_wp2
  go_ret
  (try simp only [← exists_and_left])
  exact ⟨_, _, Goto.er, Goto.rk HO0_5, Goto.rk HO0_7, by (with_reducible repeat first | refine blk_drewN ?_ _ | refine blk_drew ?_ | refine blk_alloc ?_ _); exact BK0.out, by repeat (first | (with_reducible first | exact HB.out | apply below_alloc | apply pw_below_drewN | apply below_drew1 | refine below_set ?_ GE0.out) | exact HB.out), by repeat (first | (with_reducible first | exact HK.out | apply Kept.alloc | apply Kept.drewN | apply Kept.drew | refine Kept.setCell ?_ (.inl (.inr rfl)) _) | exact HK.out)⟩
 ·
  rw [if_neg c3] at H
  have c3b0 : decide (a1 < 0) = false := decide_eq_false c3
  clear c3
  by_cases c4 : a1 ≥ (l0_2.length : Int)
  ·
   rw [if_pos c4] at H
   have c4b0 : decide ((l0_2.length : Int) ≤ a1) = true := decide_eq_true c4
   clear c4
   simp only [Option.some.injEq, Prod.mk.injEq] at H
   obtain ⟨rfl, rfl, rfl, rfl, rfl⟩ := H
   have hcz5_0 := Goto.bc0 BK0; have hcz5_1 := Goto.bc1 BK0; have hcz5_2 := Goto.bc2 BK0; have hcz5_3 := Goto.bc3 BK0; have hcz5_4 := Goto.bc4 BK0; have hcz5_5 := Goto.bc5 BK0; have hcz5_6 := Goto.bc6 BK0; have hcz5_7 := Goto.bc7 BK0; have hfz5_0 := Goto.bf BK0 0; have hfz5_1 := Goto.bf BK0 1; have hfz5_2 := Goto.bf BK0 2; have hfz5_3 := Goto.bf BK0 3; have hfz5_4 := Goto.bf BK0 4; have hfz5_5 := Goto.bf BK0 5; have hfz5_6 := Goto.bf BK0 6; have hfz5_7 := Goto.bf BK0 7
   go_enter Tryd.func21, Tryd.ntmps21
   go_wp2
   go_ret
   (try simp only [← exists_and_left])
   exact ⟨_, _, Goto.er, Goto.rk HO0_5, Goto.rk HO0_7, by (with_reducible repeat first | refine blk_drewN ?_ _ | refine blk_drew ?_ | refine blk_alloc ?_ _); exact BK0.out, by repeat (first | (with_reducible first | exact HB.out | apply below_alloc | apply pw_below_drewN | apply below_drew1 | refine below_set ?_ GE0.out) | exact HB.out), by repeat (first | (with_reducible first | exact HK.out | apply Kept.alloc | apply Kept.drewN | apply Kept.drew | refine Kept.setCell ?_ (.inl (.inr rfl)) _) | exact HK.out)⟩
  ·
   rw [if_neg c4] at H
   have c4b0 : decide ((l0_2.length : Int) ≤ a1) = false := decide_eq_false c4
   clear c4
   simp only [Option.some.injEq, Prod.mk.injEq] at H
   obtain ⟨rfl, rfl, rfl, rfl, rfl⟩ := H
   have hcz6_0 := Goto.bc0 BK0; have hcz6_1 := Goto.bc1 BK0; have hcz6_2 := Goto.bc2 BK0; have hcz6_3 := Goto.bc3 BK0; have hcz6_4 := Goto.bc4 BK0; have hcz6_5 := Goto.bc5 BK0; have hcz6_6 := Goto.bc6 BK0; have hcz6_7 := Goto.bc7 BK0; have hfz6_0 := Goto.bf BK0 0; have hfz6_1 := Goto.bf BK0 1; have hfz6_2 := Goto.bf BK0 2; have hfz6_3 := Goto.bf BK0 3; have hfz6_4 := Goto.bf BK0 4; have hfz6_5 := Goto.bf BK0 5; have hfz6_6 := Goto.bf BK0 6; have hfz6_7 := Goto.bf BK0 7
   go_enter Tryd.func21, Tryd.ntmps21
   go_wp2_with (first | ((with_reducible refine gate_store (t := 3) (p := 22) rfl ?_); refine store_event (t := 3) (p := 22) (v := ?vo_w7) (w1 := (w.setCell ⟨g, 6, none⟩ (.int .i64 a1))) ?hg ?ho ?hn ?hr ?_; (case ho => rfl); (case hg => rfl); (case hn => rfl); (case hr => first | (go_simp; done) | (go_simp; rfl)); intro w7 hw; have n0_ : Aside0 (Kd.R (Kd.int .i64) 3 w7 w0.heap.size (fun k_ => ((P0_5_ k_ ∨ P0_7_ k_) ∨ w.heap.size ≤ k_) ∧ some k_ ≠ (u9001_ : Value).ownBlock) u9000_ l0_5) := ⟨(by rw [hw]; exact (by (with_reducible repeat (first | apply Kd.R_alloc | apply Kd.R_drewN | apply Kd.R_drew)); exact Kd.R_mono (Kd.R_far (p := ⟨g, 6, none⟩) (Kd.R_types HO0_5.out BK0.out (by decide)) (fun _ hk => hk.2) (.int .i64 a1)) (fun _ hk => ⟨hk.1.1, hk.1.2⟩)))⟩; have n1_ : Aside0 (Kd.R (Kd.int .i64) 3 w7 w0.heap.size (fun k_ => ((P0_5_ k_ ∨ P0_7_ k_) ∨ w.heap.size ≤ k_) ∧ some k_ ≠ (u9000_ : Value).ownBlock) u9001_ l0_7) := ⟨(by rw [hw]; exact (by (with_reducible repeat (first | apply Kd.R_alloc | apply Kd.R_drewN | apply Kd.R_drew)); exact Kd.R_mono (Kd.R_far (p := ⟨g, 6, none⟩) (Kd.R_types HO0_7.out BK0.out (by decide)) (fun _ hk => hk.2) (.int .i64 a1)) (fun _ hk => ⟨hk.1.1, hk.1.2⟩)))⟩; have n2_ : Aside0 (w7.heap[g]? = some (.cells #[.int .i64 a0_0, .int .i64 a0_1, .slice A0_2 l0_2.length c0_2, .slice A0_3 l0_3.length c0_3, .int .i64 a0_4, u9000_, .int .i64 a1, u9001_] 70 (0, 0))) := ⟨(by rw [hw]; exact (Goto.bx BK0))⟩; have n3_ : Aside0 (Kept w w7 (fun k_ => (P0_5_ k_ ∨ P0_7_ k_) ∨ k_ = g)) := ⟨(by rw [hw]; exact (by repeat (first | (with_reducible first | exact HK.out | apply Kept.alloc | apply Kept.drewN | apply Kept.drew | refine Kept.setCell ?_ (.inl (.inr rfl)) _) | exact HK.out)))⟩; have n4_ : Aside0 (Below w0.heap.size w0 w7) := ⟨(by rw [hw]; exact (Goto.hx HB))⟩; clear hw; clear HO0_5; clear HO0_7; clear BK0; clear HK; clear HB; have HO0_5 := n0_; have HO0_7 := n1_; have BK0 := n2_; have HK := n3_; have HB := n4_; clear n0_ n1_ n2_ n3_ n4_))
   go_ret
   (try simp only [← exists_and_left])
   exact ⟨_, _, Goto.er, Goto.rk HO0_5, Goto.rk HO0_7, by (with_reducible repeat first | refine blk_drewN ?_ _ | refine blk_drew ?_ | refine blk_alloc ?_ _); exact BK0.out, by repeat (first | (with_reducible first | exact HB.out | apply below_alloc | apply pw_below_drewN | apply below_drew1 | refine below_set ?_ GE0.out) | exact HB.out), by repeat (first | (with_reducible first | exact HK.out | apply Kept.alloc | apply Kept.drewN | apply Kept.drew | refine Kept.setCell ?_ (.inl (.inr rfl)) _) | exact HK.out)⟩

end Go.Proofs.YtbhfkhcedjgpdaaDoor.P
