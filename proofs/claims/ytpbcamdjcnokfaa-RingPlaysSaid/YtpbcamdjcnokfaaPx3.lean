/- Printed by a program of this workplace (a turned copy of the kit's optional print), out of the translation; not trusted: Lean checks it. -/
import Derived.Test.YtpbcamdjcnokfaaPx0
import Derived.Test.YtpbcamdjcnokfaaExt
namespace Go.Proofs.Ytpbcamdjcnokfaa.P
open Go.RowKit Go.Proofs.YtpbcamdjcnokfaaW.PrintWords Go.Proofs.YtpbcamdjcnokfaaW.PrintLast Go.Proofs.YtpbcamdjcnokfaaW.PrintMore
attribute [local go_sem] max2_int min2_int max_two min_two max_three min_three max_four min_four   -- for this text's walks alone
set_option linter.unusedVariables false
set_option linter.unusedSimpArgs false

/-! ### ring_Ring_Add: function 29 -/
def ring_Ring_Add.f (l0_0 : List (S43)) (a0_1 : Int) (a0_2 : Int) (a1 : Int) (a2 : Int) (a3 : Int) : Option ((List (S43)) × Int × Int) := if l0_0.length < 4398046511104 then ((some (l0_0 ++ [(⟨wrap64 (a0_2 + 1), a1, a2, a3⟩ : S43)] : List (S43))).bind fun y102 => (if (y102.length : Int) > a0_1 then ((ext_51.f y102 0 1).bind fun t105 => (some (t105, a0_1, wrap64 (a0_2 + 1)))) else (some (y102, a0_1, wrap64 (a0_2 + 1))))) else (none)
def ring_Ring_Add.T1 : Bool × List (List Nat × List Nat) := (true, [([], []), ([], []), ([1], [1]), ([2], [2]), ([3], [3]), ([], []), ([5], [5]), ([6], [6]), ([7], [7]), ([], []), ([], []), ([], []), ([8, 9, 10, 11], [8, 9, 10, 11]), ([12], [12]), ([4, 13], [4, 13]), ([0, 0, 1, 2, 3, 4, 5, 6, 7, 8, 9, 10, 11, 12, 13, 14], [0]), ([15, 0, 1, 2, 3, 4, 5, 6, 7, 8, 9, 10, 11, 12, 13, 14], [15]), ([16, 14, 14, 0, 1, 2, 3, 4, 5, 6, 7, 8, 9, 10, 11, 12, 13, 14], [14, 16])])
def ring_Ring_Add.B1 : List Nat := [0, 0, 2, 6, 14, 0, 32, 96, 224, 0, 0, 0, 4064, 8160, 16382, 32767, 65535, 131071]
theorem ring_Ring_Add.tab1 : rtab .any (opsOf Try.f29 1) = ring_Ring_Add.T1 := by kernel_rfl
theorem ring_Ring_Add.bits1 : waitsOk ring_Ring_Add.T1.2 ring_Ring_Add.B1 = true := by kernel_rfl
def ring_Ring_Add.T2 : Bool × List (List Nat × List Nat) := (true, [([], []), ([0], [0]), ([1], [1]), ([2], [2]), ([3], [3]), ([], []), ([5], [5]), ([6], [6]), ([7], [7]), ([4, 8], [4, 8])])
def ring_Ring_Add.B2 : List Nat := [0, 1, 3, 7, 15, 0, 32, 96, 224, 511]
theorem ring_Ring_Add.tab2 : rtab .any (opsOf Try.f29 2) = ring_Ring_Add.T2 := by kernel_rfl
theorem ring_Ring_Add.bits2 : waitsOk ring_Ring_Add.T2.2 ring_Ring_Add.B2 = true := by kernel_rfl
set_option maxHeartbeats 8000000 in
set_option maxRecDepth 100000 in
theorem ring_Ring_Add.calls (g : Nat) (P0_0_ : Nat → Prop) (u9000_ : Value) (l0_0 : List (S43)) (a0_1 : Int) (a0_2 : Int) (a1 : Int) (a2 : Int) (a3 : Int) (r1 : List (S43)) (r2 : Int) (r3 : Int) (w0 w : World) (hI : w.heap[g]? = some (.cells #[u9000_, .int .i64 a0_1, .int .i64 a0_2] 79 (0, 0))) (hG : w0.heap.size ≤ g) (hB : Below w0.heap.size w0 w) (ho0_0 : Kd.R k43 43 w w0.heap.size P0_0_ u9000_ l0_0) (h : ring_Ring_Add.f l0_0 a0_1 a0_2 a1 a2 a3 = some (r1, r2, r3)) :
    Calls Try.prog 29 #[.pointer (some ⟨g, 0, none⟩), .int .i64 a1, .int .i64 a2, .int .i64 a3] w fun e w' => ∃ v0_ : Value, e = .returned (.tuple #[]) ∧ Kd.R k43 43 w' w0.heap.size (fun k_ => (P0_0_ k_ ∨ w.heap.size ≤ k_)) v0_ r1 ∧ w'.heap[g]? = some (.cells #[v0_, .int .i64 r2, .int .i64 r3] 79 (0, 0)) ∧ Below w0.heap.size w0 w' ∧ Kept w w' (fun k_ => (P0_0_ k_) ∨ k_ = g) := by
 have hu43 := Try.underlying43
 have HO0_0 := Goto.m0 (show Kd.R k43 43 w w0.heap.size (fun k_ => (P0_0_ k_ ∨ w.heap.size ≤ k_)) u9000_ l0_0 from Kd.R_mono ho0_0 (fun k_ hk => (.inl hk)))
 have BK0 := Goto.m0 hI
 have GE0 := Goto.m0 hG
 clear hI hG
 have HK := Goto.m0 (Kept.refl w (fun k_ => (P0_0_ k_) ∨ k_ = g))
 have HW0 := Goto.m0 hB.size
 have HB := Goto.m0 hB
 clear hB
 have H : (if l0_0.length < 4398046511104 then ((some (l0_0 ++ [(⟨wrap64 (a0_2 + 1), a1, a2, a3⟩ : S43)] : List (S43))).bind fun y102 => (if (y102.length : Int) > a0_1 then ((ext_51.f y102 0 1).bind fun t105 => (some (t105, a0_1, wrap64 (a0_2 + 1)))) else (some (y102, a0_1, wrap64 (a0_2 + 1))))) else (none)) = some (r1, r2, r3) := h
 clear h
 by_cases c5 : l0_0.length < 4398046511104
 ·
  rw [if_pos c5] at H
  have LMc5 := Goto.m0 c5
  clear c5
  obtain ⟨y102, hy102⟩ : ∃ y_ : List (S43), y_ = (l0_0 ++ [(⟨wrap64 (a0_2 + 1), a1, a2, a3⟩ : S43)]) := ⟨_, rfl⟩
  replace H : (if (y102.length : Int) > a0_1 then ((ext_51.f y102 0 1).bind fun t105 => (some (t105, a0_1, wrap64 (a0_2 + 1)))) else (some (y102, a0_1, wrap64 (a0_2 + 1)))) = some (r1, r2, r3) := by first | (rw [hy102]; with_reducible exact H) | (have H2_ := (Option.bind_some _ _).symm.trans H; rw [hy102]; with_reducible exact H2_) | (have H2_ := (Option.bind_some _ _).symm.trans H; with_reducible exact H2_) | with_reducible exact H | (rw [hy102]; exact H) | exact H
  have Ny102 := Goto.m0 hy102
  clear hy102
  by_cases c6 : (y102.length : Int) > a0_1
  ·
   rw [if_pos c6] at H
   have c6b0 : decide (a0_1 < (y102.length : Int)) = true := decide_eq_true c6
   clear c6
   replace H := Option.bind_eq_some_iff.mp H
   obtain ⟨t105, A70, H⟩ := H
   have A7 := Goto.m0 A70
   clear A70
   simp only [Option.some.injEq, Prod.mk.injEq] at H
   obtain ⟨rfl, rfl, rfl⟩ := H
   have hcz8_0 : w.cell? ⟨g, 0, none⟩ = some (u9000_) := (blk_cell BK0.out 0).trans rfl; have hcz8_1 : w.cell? ⟨g, 1, none⟩ = some (.int .i64 a0_1) := (blk_cell BK0.out 1).trans rfl; have hcz8_2 : w.cell? ⟨g, 2, none⟩ = some (.int .i64 a0_2) := (blk_cell BK0.out 2).trans rfl; have hfz8_0 := blk_frozen BK0.out 0; have hfz8_1 := blk_frozen BK0.out 1; have hfz8_2 := blk_frozen BK0.out 2
   go_enter Try.func29, Try.ntmps29
   try go_wp2
   have n0_ : Aside0 (Kd.R k43 43 (w.setCell ⟨g, 2, none⟩ (.int .i64 (wrap64 (a0_2 + 1)))) w0.heap.size (fun k_ => (P0_0_ k_ ∨ w.heap.size ≤ k_)) u9000_ l0_0) := ⟨by (with_reducible repeat (first | apply Kd.R_alloc | apply Kd.R_drewN | apply Kd.R_drew)); exact Kd.R_mono (Kd.R_far (p := ⟨g, 2, none⟩) (Kd.R_types HO0_0.out BK0.out (by decide)) (fun _ hk => hk.2) (.int .i64 (wrap64 (a0_2 + 1)))) (fun _ hk => hk.1)⟩
   have n1_ : Aside0 ((w.setCell ⟨g, 2, none⟩ (.int .i64 (wrap64 (a0_2 + 1)))).heap[g]? = some (.cells #[u9000_, .int .i64 a0_1, .int .i64 (wrap64 (a0_2 + 1))] 79 (0, 0))) := ⟨Goto.bx BK0⟩
   have n2_ : Aside0 (Kept w (w.setCell ⟨g, 2, none⟩ (.int .i64 (wrap64 (a0_2 + 1)))) (fun k_ => (P0_0_ k_) ∨ k_ = g)) := ⟨by repeat (first | (with_reducible first | exact HK.out | apply Kept.alloc | apply Kept.drewN | apply Kept.drew | refine Kept.setCell ?_ (.inl (.inr rfl)) _) | exact HK.out)⟩
   have n3_ : Aside0 (Below w0.heap.size w0 (w.setCell ⟨g, 2, none⟩ (.int .i64 (wrap64 (a0_2 + 1))))) := ⟨Goto.hx HB⟩
   (try clear HO0_0)
   (try clear BK0)
   (try clear HK)
   (try clear HB)
   generalize (w.setCell ⟨g, 2, none⟩ (.int .i64 (wrap64 (a0_2 + 1)))) = w9 at n0_ n1_ n2_ n3_ ⊢
   have HO0_0 := n0_; have BK0 := n1_; have HK := n2_; have HB := n3_; clear n0_ n1_ n2_ n3_
   replace HO0_0 := Goto.m0 (Kd.R_drew HO0_0.out); replace BK0 := Goto.m0 (blk_drew BK0.out); replace HK := Goto.m0 (Kept.drew HK.out); replace HB := Goto.m0 (below_drew1 HB.out)
   refine start_ (n := 18) (S := fun w' => w'.cell? ⟨g, 0, none⟩ = some (u9000_) ∧ w'.cell? ⟨g, 1, none⟩ = some (.int .i64 a0_1) ∧ w'.cell? ⟨g, 2, none⟩ = some (.int .i64 (wrap64 (a0_2 + 1)))) (ds := [17]) (.replicate 18 false) (by kernel_rfl) rfl rfl ⟨(blk_cell BK0.out 0).trans rfl, (blk_cell BK0.out 1).trans rfl, (blk_cell BK0.out 2).trans rfl⟩ (fun hHeld => ?_); refine with_tabW ring_Ring_Add.tab1 ring_Ring_Add.bits1 (fun HT_ HW_ => ?_)
   generalize w9.drew = w10 at HO0_0 BK0 HK HB hHeld ⊢
   refine pure_ (i := 0) (N := some 15) (v := ?_) (a' := ?_) (Goto.bs 18 1) rfl rfl (any_of HT_.out (by kernel_rfl)) (fun _ _ _ h => h) (Or.inl ⟨by rfl, ?_⟩) ?_ ?_
   rotate_left
   ·
    intro w'
    go_simp
    with_reducible rfl
   rotate_left
   ·
    exact Goto.ap
   refine pure_ (i := 1) (N := some 16) (v := ?_) (a' := ?_) (Goto.bs 18 3) rfl rfl (any_of HT_.out (by kernel_rfl)) (fun _ _ _ h => h) (Or.inl ⟨by rfl, ?_⟩) ?_ ?_
   rotate_left
   ·
    intro w'
    go_simp
    with_reducible rfl
   rotate_left
   ·
    exact Goto.ap
   refine pure_ (i := 2) (N := some 17) (v := ?_) (a' := ?_) (Goto.bs 18 7) rfl rfl (any_of HT_.out (by kernel_rfl)) (fun _ _ _ h => h) (Or.inl ⟨by rfl, ?_⟩) ?_ ?_
   rotate_left
   ·
    intro w'
    go_simp
    with_reducible rfl
   rotate_left
   ·
    exact Goto.ap
   refine pure_ (i := 3) (N := some 18) (v := ?_) (a' := ?_) (Goto.bs 18 15) rfl rfl (any_of HT_.out (by kernel_rfl)) (fun _ _ _ h => h) (Or.inl ⟨by rfl, ?_⟩) ?_ ?_
   rotate_left
   ·
    intro w'
    go_simp
    with_reducible rfl
   rotate_left
   ·
    exact Goto.ap
   refine pure_ (i := 5) (N := some 20) (v := ?_) (a' := ?_) (Goto.bs 18 47) rfl rfl (any_of HT_.out (by kernel_rfl)) (fun _ _ _ h => h) (Or.inl ⟨by rfl, ?_⟩) ?_ ?_
   rotate_left
   ·
    intro w'
    go_simp
    with_reducible rfl
   rotate_left
   ·
    exact Goto.ap
   refine pure_ (i := 6) (N := some 21) (v := ?_) (a' := ?_) (Goto.bs 18 111) rfl rfl (any_of HT_.out (by kernel_rfl)) (fun _ _ _ h => h) (Or.inl ⟨by rfl, ?_⟩) ?_ ?_
   rotate_left
   ·
    intro w'
    go_simp
    with_reducible rfl
   rotate_left
   ·
    exact Goto.ap
   refine pure_ (i := 7) (N := some 22) (v := ?_) (a' := ?_) (Goto.bs 18 239) rfl rfl (any_of HT_.out (by kernel_rfl)) (fun _ _ _ h => h) (Or.inl ⟨by rfl, ?_⟩) ?_ ?_
   rotate_left
   ·
    intro w'
    go_simp
    with_reducible rfl
   rotate_left
   ·
    exact Goto.ap
   refine pure_ (i := 9) (N := some 24) (v := ?_) (a' := ?_) (Goto.bs 18 751) rfl rfl (any_of HT_.out (by kernel_rfl)) (fun _ _ _ h => h) (Or.inl ⟨by rfl, ?_⟩) ?_ ?_
   rotate_left
   ·
    intro w'
    go_simp
    with_reducible rfl
   rotate_left
   ·
    exact Goto.ap
   refine pure_ (i := 10) (N := some 25) (v := ?_) (a' := ?_) (Goto.bs 18 1775) rfl rfl (any_of HT_.out (by kernel_rfl)) (fun _ _ _ h => h) (Or.inl ⟨by rfl, ?_⟩) ?_ ?_
   rotate_left
   ·
    intro w'
    go_simp
    with_reducible rfl
   rotate_left
   ·
    exact Goto.ap
   refine pure_ (i := 11) (N := some 26) (v := ?_) (a' := ?_) (Goto.bs 18 3823) rfl rfl (any_of HT_.out (by kernel_rfl)) (fun _ _ _ h => h) (Or.inl ⟨by rfl, ?_⟩) ?_ ?_
   rotate_left
   ·
    intro w'
    go_simp
    with_reducible rfl
   rotate_left
   ·
    exact Goto.ap
   refine take_ (i := 4) (N := some 19) (v := ?_) (a' := ?_) (Goto.bs 18 3839) rfl rfl (take_ofW HT_.out HW_.out (by kernel_rfl)) (fun _ _ _ h => h) (Or.inl ⟨by rfl, ?_⟩) hHeld ?_ ?_
   rotate_left
   ·
    rintro w' ⟨s0, s1, s2⟩
    go_simp
    with_reducible rfl
   rotate_left
   ·
    exact Goto.ap
   refine take_ (i := 8) (N := some 23) (v := ?_) (a' := ?_) (Goto.bs 18 4095) rfl rfl (take_ofW HT_.out HW_.out (by kernel_rfl)) (fun _ _ _ h => h) (Or.inl ⟨by rfl, ?_⟩) hHeld ?_ ?_
   rotate_left
   ·
    rintro w' ⟨s0, s1, s2⟩
    go_simp
    with_reducible rfl
   rotate_left
   ·
    exact Goto.ap
   refine pure_ (i := 12) (N := some 27) (v := ?_) (a' := ?_) (Goto.bs 18 8191) rfl rfl (any_of HT_.out (by kernel_rfl)) (fun _ _ _ h => h) (Or.inl ⟨by rfl, ?_⟩) ?_ ?_
   rotate_left
   ·
    intro w'
    go_simp
    with_reducible rfl
   rotate_left
   ·
    exact Goto.ap
   refine one_ (i := 13) (N := some 28) (Goto.bs 18 16383) rfl rfl (one_of HT_.out (by kernel_rfl)) (by decide) (fun K hK => ?_)
   refine value_ (w1 := ?_) (v := ?_) (by rfl) rfl ?_ ?_
   rotate_left 2
   ·
    go_simp
    constructor
    ·
     rfl
    ·
     rfl
   refine hK.out _ _ ⟨(blk_cell (blk_alloc BK0.out _) 0).trans rfl, (blk_cell (blk_alloc BK0.out _) 1).trans rfl, (blk_cell (blk_alloc BK0.out _) 2).trans rfl⟩ (fun hHeld => ?_)
   clear hK K
   refine norm_ (a' := ?_) ?_ ?_
   rotate_left
   ·
    show Act.put _ (some 28) _ = _
    exact Goto.ap
   refine one_ (i := 14) (N := some 29) (Goto.bs 18 32767) rfl rfl (one_of HT_.out (by kernel_rfl)) (by decide) (fun K hK => ?_)
   refine Kd.R_append_step k43 (w0 := w0) w0.heap.size (by rfl) (.tmp 19) (.tmp 28) 35 43 (.agg #[(.int .i64 0), (.int .i64 0), (.int .i64 0), (.int .i64 0)]) 32 rfl Try.underlying35 info43 rfl (by decide) (by omega) u9000_ l0_0 (⟨wrap64 (a0_2 + 1), a1, a2, a3⟩ : S43) [.int .i64 (wrap64 (a0_2 + 1)), .int .i64 a1, .int .i64 a2, .int .i64 a3] (fun k_ => (P0_0_ k_ ∨ w.heap.size ≤ k_)) (fun _ => False) rfl rfl ?aP (fun _ hk => hk.elim) ?aF ?aO ?aB ?aS ?aL ?_
   (case aP => exact k43_mkM _ _ _ (⟨wrap64 (a0_2 + 1), a1, a2, a3⟩ : S43))
   (case aB => exact (Goto.hx HB))
   (case aF => exact (fun k_ hk => (.inr (Nat.le_trans (by first | exact HK.out.1 | exact (show Kept w _ (fun k_ => (P0_0_ k_) ∨ k_ = g) from by repeat (first | (with_reducible first | exact HK.out | apply Kept.alloc | apply Kept.drewN | apply Kept.drew | refine Kept.setCell ?_ (.inl (.inr rfl)) _) | exact HK.out)).1) hk))))
   (case aO => exact (by (with_reducible repeat (first | apply Kd.R_alloc | apply Kd.R_drewN | apply Kd.R_drew)); exact HO0_0.out))
   (case aS => exact (below_size (Goto.hx HB)))
   (case aL => have := LMc5.out; omega)
   intro v103 w11 ho hb hg hat
   rw [← Ny102.out] at ho
   have n0_ := Goto.m0 (blk_grown (g := g) (o := .cells #[u9000_, .int .i64 a0_1, .int .i64 (wrap64 (a0_2 + 1))] 79 (0, 0)) (Goto.bx BK0) hg (Kd.R_ne HO0_0.out BK0.out (by decide)))
   have n1_ := Goto.m0 (hb)
   have n2_ := Goto.m0 (Kept.of_grown (S := (fun k_ => (P0_0_ k_) ∨ k_ = g)) hg (by repeat (first | (with_reducible first | exact HK.out | apply Kept.alloc | apply Kept.drewN | apply Kept.drew | refine Kept.setCell ?_ (.inl (.inr rfl)) _) | exact HK.out)) (fun k_ e_ => Or.imp_left Or.inl ((HO0_0.out.1 k_ e_))))
   have n3_ := Goto.m0 (ho)
   clear BK0; clear HB; clear HK; clear HO0_0; have BK0 := n0_; have HB := n1_; have HK := n2_; have HO104 := n3_; clear n0_ n1_ n2_ n3_; clear ho hb hg hat
   obtain ⟨Ao12, co12, eo12⟩ := Kd.R_slice HO104.out
   (first | subst eo12 | (injection eo12 with f1_ f2_ f3_; have f4_ := f1_.symm; have f5_ := f3_.symm; clear f1_ f2_ f3_; subst f4_; subst f5_))
   refine hK.out _ _ ⟨(blk_cell BK0.out 0).trans rfl, (blk_cell BK0.out 1).trans rfl, (blk_cell BK0.out 2).trans rfl⟩ (fun hHeld => ?_)
   clear hK K
   refine norm_ (a' := ?_) ?_ ?_
   rotate_left
   ·
    show Act.put _ (some 29) _ = _
    exact Goto.ap
   refine pure_ (i := 15) (N := some 30) (v := ?_) (a' := ?_) (Goto.bs 18 65535) rfl rfl (any_of HT_.out (by kernel_rfl)) (fun _ _ _ h => h) (Or.inl ⟨by rfl, ?_⟩) ?_ ?_
   rotate_left
   ·
    intro w'
    go_simp
    with_reducible rfl
   rotate_left
   ·
    exact Goto.ap
   refine pure_ (i := 16) (N := some 31) (v := ?_) (a' := ?_) (Goto.bs 18 131071) rfl rfl (any_of HT_.out (by kernel_rfl)) (fun _ _ _ h => h) (Or.inl ⟨by rfl, ?_⟩) ?_ ?_
   rotate_left
   ·
    intro w'
    go_simp
    with_reducible rfl
   rotate_left
   ·
    exact Goto.ap
   refine last_ (i := 17) (N := none) (Goto.bs 18 262143) rfl rfl (one_of HT_.out (by kernel_rfl)) (by decide) (fun K hK => ?_)
   have hs13 : w11.cell? ⟨g, 0, none⟩ = some (u9000_) := (blk_cell BK0.out 0).trans rfl; have hfs13 := blk_frozen BK0.out 0
   refine skip_ (w1 := ?_) (by rfl) rfl ?_ ?_
   rotate_left
   ·
    go_simp
    rfl
   refine hK.out _ _ ?_
   clear hK K
   refine done_ (done_of HT_.out (by kernel_rfl)) ?_
   try go_wp2
   have n0_ : Aside0 (Kd.R k43 43 (w11.setCell ⟨g, 0, none⟩ (.slice Ao12 y102.length co12)) w0.heap.size (fun k_ => (P0_0_ k_ ∨ w.heap.size ≤ k_)) (.slice Ao12 y102.length co12) y102) := ⟨by (with_reducible repeat (first | apply Kd.R_alloc | apply Kd.R_drewN | apply Kd.R_drew)); exact Kd.R_mono (Kd.R_far (p := ⟨g, 0, none⟩) (Kd.R_types HO104.out BK0.out (by decide)) (fun _ hk => hk.2) (.slice Ao12 y102.length co12)) (fun _ hk => hk.1)⟩
   have n1_ : Aside0 ((w11.setCell ⟨g, 0, none⟩ (.slice Ao12 y102.length co12)).heap[g]? = some (.cells #[.slice Ao12 y102.length co12, .int .i64 a0_1, .int .i64 (wrap64 (a0_2 + 1))] 79 (0, 0))) := ⟨Goto.bx BK0⟩
   have n2_ : Aside0 (Kept w (w11.setCell ⟨g, 0, none⟩ (.slice Ao12 y102.length co12)) (fun k_ => (P0_0_ k_) ∨ k_ = g)) := ⟨by repeat (first | (with_reducible first | exact HK.out | apply Kept.alloc | apply Kept.drewN | apply Kept.drew | refine Kept.setCell ?_ (.inl (.inr rfl)) _) | exact HK.out)⟩
   have n3_ : Aside0 (Below w0.heap.size w0 (w11.setCell ⟨g, 0, none⟩ (.slice Ao12 y102.length co12))) := ⟨Goto.hx HB⟩
   (try clear HO104)
   (try clear BK0)
   (try clear HK)
   (try clear HB)
   generalize (w11.setCell ⟨g, 0, none⟩ (.slice Ao12 y102.length co12)) = w14 at n0_ n1_ n2_ n3_ ⊢
   have HO104 := n0_; have BK0 := n1_; have HK := n2_; have HB := n3_; clear n0_ n1_ n2_ n3_
   replace HO104 := Goto.m0 (Kd.R_drew HO104.out); replace BK0 := Goto.m0 (blk_drew BK0.out); replace HK := Goto.m0 (Kept.drew HK.out); replace HB := Goto.m0 (below_drew1 HB.out)
   refine start_ (n := 10) (S := fun w' => w'.cell? ⟨g, 0, none⟩ = some (.slice Ao12 y102.length co12) ∧ w'.cell? ⟨g, 1, none⟩ = some (.int .i64 a0_1) ∧ w'.cell? ⟨g, 2, none⟩ = some (.int .i64 (wrap64 (a0_2 + 1)))) (ds := []) (.replicate 10 false) (by kernel_rfl) rfl rfl ⟨(blk_cell BK0.out 0).trans rfl, (blk_cell BK0.out 1).trans rfl, (blk_cell BK0.out 2).trans rfl⟩ (fun hHeld => ?_); refine with_tabW ring_Ring_Add.tab2 ring_Ring_Add.bits2 (fun HT_ HW_ => ?_)
   generalize w14.drew = w15 at HO104 BK0 HK HB hHeld ⊢
   refine pure_ (i := 0) (N := some 32) (v := ?_) (a' := ?_) (Goto.bs 10 1) rfl rfl (any_of HT_.out (by kernel_rfl)) (fun _ _ _ h => h) (Or.inl ⟨by rfl, ?_⟩) ?_ ?_
   rotate_left
   ·
    intro w'
    go_simp
    with_reducible rfl
   rotate_left
   ·
    exact Goto.ap
   refine pure_ (i := 1) (N := some 33) (v := ?_) (a' := ?_) (Goto.bs 10 3) rfl rfl (any_of HT_.out (by kernel_rfl)) (fun _ _ _ h => h) (Or.inl ⟨by rfl, ?_⟩) ?_ ?_
   rotate_left
   ·
    intro w'
    go_simp
    with_reducible rfl
   rotate_left
   ·
    exact Goto.ap
   refine pure_ (i := 2) (N := some 34) (v := ?_) (a' := ?_) (Goto.bs 10 7) rfl rfl (any_of HT_.out (by kernel_rfl)) (fun _ _ _ h => h) (Or.inl ⟨by rfl, ?_⟩) ?_ ?_
   rotate_left
   ·
    intro w'
    go_simp
    with_reducible rfl
   rotate_left
   ·
    exact Goto.ap
   refine pure_ (i := 5) (N := some 37) (v := ?_) (a' := ?_) (Goto.bs 10 39) rfl rfl (any_of HT_.out (by kernel_rfl)) (fun _ _ _ h => h) (Or.inl ⟨by rfl, ?_⟩) ?_ ?_
   rotate_left
   ·
    intro w'
    go_simp
    with_reducible rfl
   rotate_left
   ·
    exact Goto.ap
   refine pure_ (i := 6) (N := some 38) (v := ?_) (a' := ?_) (Goto.bs 10 103) rfl rfl (any_of HT_.out (by kernel_rfl)) (fun _ _ _ h => h) (Or.inl ⟨by rfl, ?_⟩) ?_ ?_
   rotate_left
   ·
    intro w'
    go_simp
    with_reducible rfl
   rotate_left
   ·
    exact Goto.ap
   refine pure_ (i := 7) (N := some 39) (v := ?_) (a' := ?_) (Goto.bs 10 231) rfl rfl (any_of HT_.out (by kernel_rfl)) (fun _ _ _ h => h) (Or.inl ⟨by rfl, ?_⟩) ?_ ?_
   rotate_left
   ·
    intro w'
    go_simp
    with_reducible rfl
   rotate_left
   ·
    exact Goto.ap
   refine take_ (i := 3) (N := some 35) (v := ?_) (a' := ?_) (Goto.bs 10 239) rfl rfl (take_ofW HT_.out HW_.out (by kernel_rfl)) (fun _ _ _ h => h) (Or.inl ⟨by rfl, ?_⟩) hHeld ?_ ?_
   rotate_left
   ·
    rintro w' ⟨s0, s1, s2⟩
    go_simp
    with_reducible rfl
   rotate_left
   ·
    exact Goto.ap
   refine pure_ (i := 4) (N := some 36) (v := ?_) (a' := ?_) (Goto.bs 10 255) rfl rfl (any_of HT_.out (by kernel_rfl)) (fun _ _ _ h => h) (Or.inl ⟨by rfl, ?_⟩) ?_ ?_
   rotate_left
   ·
    intro w'
    go_simp
    with_reducible rfl
   rotate_left
   ·
    exact Goto.ap
   refine take_ (i := 8) (N := some 40) (v := ?_) (a' := ?_) (Goto.bs 10 511) rfl rfl (take_ofW HT_.out HW_.out (by kernel_rfl)) (fun _ _ _ h => h) (Or.inl ⟨by rfl, ?_⟩) hHeld ?_ ?_
   rotate_left
   ·
    rintro w' ⟨s0, s1, s2⟩
    go_simp
    with_reducible rfl
   rotate_left
   ·
    exact Goto.ap
   refine pure_ (i := 9) (N := some 41) (v := ?_) (a' := ?_) (Goto.bs 10 1023) rfl rfl (any_of HT_.out (by kernel_rfl)) (fun _ _ _ h => h) (Or.inl ⟨by rfl, ?_⟩) ?_ ?_
   rotate_left
   ·
    intro w'
    go_simp
    with_reducible rfl
   rotate_left
   ·
    exact Goto.ap
   refine done_ (done_of HT_.out (by kernel_rfl)) ?_
   have hcz16_0 : w15.cell? ⟨g, 0, none⟩ = some (.slice Ao12 y102.length co12) := (blk_cell BK0.out 0).trans rfl; have hcz16_1 : w15.cell? ⟨g, 1, none⟩ = some (.int .i64 a0_1) := (blk_cell BK0.out 1).trans rfl
   have hcz16_2 : w15.cell? ⟨g, 2, none⟩ = some (.int .i64 (wrap64 (a0_2 + 1))) := (blk_cell BK0.out 2).trans rfl
   have hfz16_0 := blk_frozen BK0.out 0; have hfz16_1 := blk_frozen BK0.out 1; have hfz16_2 := blk_frozen BK0.out 2
   try go_wp2_with (first | ((with_reducible refine gate_callee (f := 51) rfl ?_); refine goesL_ (some 47) rfl rfl Try.func51 (by kernel_rfl) rfl #[.slice Ao12 y102.length co12, .int .i64 0, .int .i64 1] rfl (by (try simp only [List.map_toArray, List.map_cons, List.map_nil]); first | done | rfl | (simp only [List.length_drop, List.length_take]; rfl)) ?_; (with_reducible refine (ext_51.calls (fun k_ => some k_ = (.slice Ao12 y102.length co12 : Value).ownBlock) (.slice Ao12 y102.length co12) y102 0 1 t105 w0 _ ?side1 ?side2 A7.out).mono ?_); (case side1 => repeat (first | (with_reducible first | exact HB.out | apply below_alloc | apply pw_below_drewN | apply below_drew1 | refine below_set ?_ GE0.out) | exact HB.out)); (case side2 => exact Kd.R_tight rfl HO104.out); rintro e w17 ⟨v106, rfl, ho0, hb, hkp⟩; refine ⟨_, rfl, ?_⟩; have n0_ := Goto.m0 (blk_kept (Goto.bx BK0) hkp (fun hs_ => (fun e_ => (Kd.R_ne HO104.out BK0.out (by decide)) e_) hs_)); have n1_ := Goto.m0 (Kd.R_mono (ok' := fun k_ => (P0_0_ k_ ∨ w.heap.size ≤ k_)) ho0 (fun k_ hk_ => Or.elim hk_ (fun hs_ => (HO104.out.1 k_ (hs_).symm)) (fun hn_ => (.inr (Nat.le_trans (by first | exact HK.out.1 | exact (show Kept w _ (fun k_ => (P0_0_ k_) ∨ k_ = g) from by repeat (first | (with_reducible first | exact HK.out | apply Kept.alloc | apply Kept.drewN | apply Kept.drew | refine Kept.setCell ?_ (.inl (.inr rfl)) _) | exact HK.out)).1) hn_))))); have n2_ := Goto.m0 (Kept.then_ (S := (fun k_ => (P0_0_ k_) ∨ k_ = g)) (by repeat (first | (with_reducible first | exact HK.out | apply Kept.alloc | apply Kept.drewN | apply Kept.drew | refine Kept.setCell ?_ (.inl (.inr rfl)) _) | exact HK.out)) hkp (fun k_ hs_ => (fun e_ => Or.imp_left Or.inl ((HO104.out.1 k_ e_.symm))) hs_)); have n3_ := Goto.m0 (hb); clear BK0; clear HK; clear HB; clear HO104; have BK0 := n0_; have HO107 := n1_; have HK := n2_; have HB := n3_; clear n0_ n1_ n2_ n3_; (try clear hb); (try clear hkp); (try clear ho0); obtain ⟨Ao18, co18, eo18⟩ := Kd.R_slice HO107.out; subst eo18; have hcz19_0 : w17.cell? ⟨g, 0, none⟩ = some (.slice Ao12 y102.length co12) := (blk_cell BK0.out 0).trans rfl; have hcz19_1 : w17.cell? ⟨g, 1, none⟩ = some (.int .i64 a0_1) := (blk_cell BK0.out 1).trans rfl; have hcz19_2 : w17.cell? ⟨g, 2, none⟩ = some (.int .i64 (wrap64 (a0_2 + 1))) := (blk_cell BK0.out 2).trans rfl; have hfz19_0 := blk_frozen BK0.out 0; have hfz19_1 := blk_frozen BK0.out 1; have hfz19_2 := blk_frozen BK0.out 2))
   first | go_end0 | ((try simp only [Exit.inBlock, Exit.then]); refine bodyPost_ret (results_none rfl _ _ _) rfl ?_)
   (try simp only [← exists_and_left])
   exact ⟨_, by first | rfl | (simp [errW_none, errW_some] <;> rfl) | (simp [*, errW_none, errW_some] <;> rfl), by (with_reducible repeat (first | apply Kd.R_alloc | apply Kd.R_drewN | apply Kd.R_drew)); exact Kd.R_mono (Kd.R_far (p := ⟨g, 0, none⟩) (Kd.R_types HO107.out BK0.out (by decide)) (fun _ hk => hk.2) (.slice Ao18 t105.length co18)) (fun _ hk => hk.1), by (with_reducible repeat first | refine blk_drewN ?_ _ | refine blk_drew ?_ | refine blk_alloc ?_ _); refine blk_put (cs := #[.slice Ao12 y102.length co12, .int .i64 a0_1, .int .i64 (wrap64 (a0_2 + 1))]) ?_ 0 _ rfl; (with_reducible repeat first | refine blk_drewN ?_ _ | refine blk_drew ?_ | refine blk_alloc ?_ _); exact BK0.out, by repeat (first | (with_reducible first | exact HB.out | apply below_alloc | apply pw_below_drewN | apply below_drew1 | refine below_set ?_ GE0.out) | exact HB.out), by repeat (first | (with_reducible first | exact HK.out | apply Kept.alloc | apply Kept.drewN | apply Kept.drew | refine Kept.setCell ?_ (.inl (.inr rfl)) _) | exact HK.out)⟩
  ·
   rw [if_neg c6] at H
   have c6b0 : decide (a0_1 < (y102.length : Int)) = false := decide_eq_false c6
   clear c6
   simp only [Option.some.injEq, Prod.mk.injEq] at H
   obtain ⟨rfl, rfl, rfl⟩ := H
   have hcz20_0 : w.cell? ⟨g, 0, none⟩ = some (u9000_) := (blk_cell BK0.out 0).trans rfl; have hcz20_1 : w.cell? ⟨g, 1, none⟩ = some (.int .i64 a0_1) := (blk_cell BK0.out 1).trans rfl; have hcz20_2 : w.cell? ⟨g, 2, none⟩ = some (.int .i64 a0_2) := (blk_cell BK0.out 2).trans rfl; have hfz20_0 := blk_frozen BK0.out 0; have hfz20_1 := blk_frozen BK0.out 1; have hfz20_2 := blk_frozen BK0.out 2
   go_enter Try.func29, Try.ntmps29
   try go_wp2
   have n0_ : Aside0 (Kd.R k43 43 (w.setCell ⟨g, 2, none⟩ (.int .i64 (wrap64 (a0_2 + 1)))) w0.heap.size (fun k_ => (P0_0_ k_ ∨ w.heap.size ≤ k_)) u9000_ l0_0) := ⟨by (with_reducible repeat (first | apply Kd.R_alloc | apply Kd.R_drewN | apply Kd.R_drew)); exact Kd.R_mono (Kd.R_far (p := ⟨g, 2, none⟩) (Kd.R_types HO0_0.out BK0.out (by decide)) (fun _ hk => hk.2) (.int .i64 (wrap64 (a0_2 + 1)))) (fun _ hk => hk.1)⟩
   have n1_ : Aside0 ((w.setCell ⟨g, 2, none⟩ (.int .i64 (wrap64 (a0_2 + 1)))).heap[g]? = some (.cells #[u9000_, .int .i64 a0_1, .int .i64 (wrap64 (a0_2 + 1))] 79 (0, 0))) := ⟨Goto.bx BK0⟩
   have n2_ : Aside0 (Kept w (w.setCell ⟨g, 2, none⟩ (.int .i64 (wrap64 (a0_2 + 1)))) (fun k_ => (P0_0_ k_) ∨ k_ = g)) := ⟨by repeat (first | (with_reducible first | exact HK.out | apply Kept.alloc | apply Kept.drewN | apply Kept.drew | refine Kept.setCell ?_ (.inl (.inr rfl)) _) | exact HK.out)⟩
   have n3_ : Aside0 (Below w0.heap.size w0 (w.setCell ⟨g, 2, none⟩ (.int .i64 (wrap64 (a0_2 + 1))))) := ⟨Goto.hx HB⟩
   (try clear HO0_0)
   (try clear BK0)
   (try clear HK)
   (try clear HB)
   generalize (w.setCell ⟨g, 2, none⟩ (.int .i64 (wrap64 (a0_2 + 1)))) = w21 at n0_ n1_ n2_ n3_ ⊢
   have HO0_0 := n0_; have BK0 := n1_; have HK := n2_; have HB := n3_; clear n0_ n1_ n2_ n3_
   replace HO0_0 := Goto.m0 (Kd.R_drew HO0_0.out); replace BK0 := Goto.m0 (blk_drew BK0.out); replace HK := Goto.m0 (Kept.drew HK.out); replace HB := Goto.m0 (below_drew1 HB.out)
   refine start_ (n := 18) (S := fun w' => w'.cell? ⟨g, 0, none⟩ = some (u9000_) ∧ w'.cell? ⟨g, 1, none⟩ = some (.int .i64 a0_1) ∧ w'.cell? ⟨g, 2, none⟩ = some (.int .i64 (wrap64 (a0_2 + 1)))) (ds := [17]) (.replicate 18 false) (by kernel_rfl) rfl rfl ⟨(blk_cell BK0.out 0).trans rfl, (blk_cell BK0.out 1).trans rfl, (blk_cell BK0.out 2).trans rfl⟩ (fun hHeld => ?_); refine with_tabW ring_Ring_Add.tab1 ring_Ring_Add.bits1 (fun HT_ HW_ => ?_)
   generalize w21.drew = w22 at HO0_0 BK0 HK HB hHeld ⊢
   refine pure_ (i := 0) (N := some 15) (v := ?_) (a' := ?_) (Goto.bs 18 1) rfl rfl (any_of HT_.out (by kernel_rfl)) (fun _ _ _ h => h) (Or.inl ⟨by rfl, ?_⟩) ?_ ?_
   rotate_left
   ·
    intro w'
    go_simp
    with_reducible rfl
   rotate_left
   ·
    exact Goto.ap
   refine pure_ (i := 1) (N := some 16) (v := ?_) (a' := ?_) (Goto.bs 18 3) rfl rfl (any_of HT_.out (by kernel_rfl)) (fun _ _ _ h => h) (Or.inl ⟨by rfl, ?_⟩) ?_ ?_
   rotate_left
   ·
    intro w'
    go_simp
    with_reducible rfl
   rotate_left
   ·
    exact Goto.ap
   refine pure_ (i := 2) (N := some 17) (v := ?_) (a' := ?_) (Goto.bs 18 7) rfl rfl (any_of HT_.out (by kernel_rfl)) (fun _ _ _ h => h) (Or.inl ⟨by rfl, ?_⟩) ?_ ?_
   rotate_left
   ·
    intro w'
    go_simp
    with_reducible rfl
   rotate_left
   ·
    exact Goto.ap
   refine pure_ (i := 3) (N := some 18) (v := ?_) (a' := ?_) (Goto.bs 18 15) rfl rfl (any_of HT_.out (by kernel_rfl)) (fun _ _ _ h => h) (Or.inl ⟨by rfl, ?_⟩) ?_ ?_
   rotate_left
   ·
    intro w'
    go_simp
    with_reducible rfl
   rotate_left
   ·
    exact Goto.ap
   refine pure_ (i := 5) (N := some 20) (v := ?_) (a' := ?_) (Goto.bs 18 47) rfl rfl (any_of HT_.out (by kernel_rfl)) (fun _ _ _ h => h) (Or.inl ⟨by rfl, ?_⟩) ?_ ?_
   rotate_left
   ·
    intro w'
    go_simp
    with_reducible rfl
   rotate_left
   ·
    exact Goto.ap
   refine pure_ (i := 6) (N := some 21) (v := ?_) (a' := ?_) (Goto.bs 18 111) rfl rfl (any_of HT_.out (by kernel_rfl)) (fun _ _ _ h => h) (Or.inl ⟨by rfl, ?_⟩) ?_ ?_
   rotate_left
   ·
    intro w'
    go_simp
    with_reducible rfl
   rotate_left
   ·
    exact Goto.ap
   refine pure_ (i := 7) (N := some 22) (v := ?_) (a' := ?_) (Goto.bs 18 239) rfl rfl (any_of HT_.out (by kernel_rfl)) (fun _ _ _ h => h) (Or.inl ⟨by rfl, ?_⟩) ?_ ?_
   rotate_left
   ·
    intro w'
    go_simp
    with_reducible rfl
   rotate_left
   ·
    exact Goto.ap
   refine pure_ (i := 9) (N := some 24) (v := ?_) (a' := ?_) (Goto.bs 18 751) rfl rfl (any_of HT_.out (by kernel_rfl)) (fun _ _ _ h => h) (Or.inl ⟨by rfl, ?_⟩) ?_ ?_
   rotate_left
   ·
    intro w'
    go_simp
    with_reducible rfl
   rotate_left
   ·
    exact Goto.ap
   refine pure_ (i := 10) (N := some 25) (v := ?_) (a' := ?_) (Goto.bs 18 1775) rfl rfl (any_of HT_.out (by kernel_rfl)) (fun _ _ _ h => h) (Or.inl ⟨by rfl, ?_⟩) ?_ ?_
   rotate_left
   ·
    intro w'
    go_simp
    with_reducible rfl
   rotate_left
   ·
    exact Goto.ap
   refine pure_ (i := 11) (N := some 26) (v := ?_) (a' := ?_) (Goto.bs 18 3823) rfl rfl (any_of HT_.out (by kernel_rfl)) (fun _ _ _ h => h) (Or.inl ⟨by rfl, ?_⟩) ?_ ?_
   rotate_left
   ·
    intro w'
    go_simp
    with_reducible rfl
   rotate_left
   ·
    exact Goto.ap
   refine take_ (i := 4) (N := some 19) (v := ?_) (a' := ?_) (Goto.bs 18 3839) rfl rfl (take_ofW HT_.out HW_.out (by kernel_rfl)) (fun _ _ _ h => h) (Or.inl ⟨by rfl, ?_⟩) hHeld ?_ ?_
   rotate_left
   ·
    rintro w' ⟨s0, s1, s2⟩
    go_simp
    with_reducible rfl
   rotate_left
   ·
    exact Goto.ap
   refine take_ (i := 8) (N := some 23) (v := ?_) (a' := ?_) (Goto.bs 18 4095) rfl rfl (take_ofW HT_.out HW_.out (by kernel_rfl)) (fun _ _ _ h => h) (Or.inl ⟨by rfl, ?_⟩) hHeld ?_ ?_
   rotate_left
   ·
    rintro w' ⟨s0, s1, s2⟩
    go_simp
    with_reducible rfl
   rotate_left
   ·
    exact Goto.ap
   refine pure_ (i := 12) (N := some 27) (v := ?_) (a' := ?_) (Goto.bs 18 8191) rfl rfl (any_of HT_.out (by kernel_rfl)) (fun _ _ _ h => h) (Or.inl ⟨by rfl, ?_⟩) ?_ ?_
   rotate_left
   ·
    intro w'
    go_simp
    with_reducible rfl
   rotate_left
   ·
    exact Goto.ap
   refine one_ (i := 13) (N := some 28) (Goto.bs 18 16383) rfl rfl (one_of HT_.out (by kernel_rfl)) (by decide) (fun K hK => ?_)
   refine value_ (w1 := ?_) (v := ?_) (by rfl) rfl ?_ ?_
   rotate_left 2
   ·
    go_simp
    constructor
    ·
     rfl
    ·
     rfl
   refine hK.out _ _ ⟨(blk_cell (blk_alloc BK0.out _) 0).trans rfl, (blk_cell (blk_alloc BK0.out _) 1).trans rfl, (blk_cell (blk_alloc BK0.out _) 2).trans rfl⟩ (fun hHeld => ?_)
   clear hK K
   refine norm_ (a' := ?_) ?_ ?_
   rotate_left
   ·
    show Act.put _ (some 28) _ = _
    exact Goto.ap
   refine one_ (i := 14) (N := some 29) (Goto.bs 18 32767) rfl rfl (one_of HT_.out (by kernel_rfl)) (by decide) (fun K hK => ?_)
   refine Kd.R_append_step k43 (w0 := w0) w0.heap.size (by rfl) (.tmp 19) (.tmp 28) 35 43 (.agg #[(.int .i64 0), (.int .i64 0), (.int .i64 0), (.int .i64 0)]) 32 rfl Try.underlying35 info43 rfl (by decide) (by omega) u9000_ l0_0 (⟨wrap64 (a0_2 + 1), a1, a2, a3⟩ : S43) [.int .i64 (wrap64 (a0_2 + 1)), .int .i64 a1, .int .i64 a2, .int .i64 a3] (fun k_ => (P0_0_ k_ ∨ w.heap.size ≤ k_)) (fun _ => False) rfl rfl ?aP (fun _ hk => hk.elim) ?aF ?aO ?aB ?aS ?aL ?_
   (case aP => exact k43_mkM _ _ _ (⟨wrap64 (a0_2 + 1), a1, a2, a3⟩ : S43))
   (case aB => exact (Goto.hx HB))
   (case aF => exact (fun k_ hk => (.inr (Nat.le_trans (by first | exact HK.out.1 | exact (show Kept w _ (fun k_ => (P0_0_ k_) ∨ k_ = g) from by repeat (first | (with_reducible first | exact HK.out | apply Kept.alloc | apply Kept.drewN | apply Kept.drew | refine Kept.setCell ?_ (.inl (.inr rfl)) _) | exact HK.out)).1) hk))))
   (case aO => exact (by (with_reducible repeat (first | apply Kd.R_alloc | apply Kd.R_drewN | apply Kd.R_drew)); exact HO0_0.out))
   (case aS => exact (below_size (Goto.hx HB)))
   (case aL => have := LMc5.out; omega)
   intro v103 w23 ho hb hg hat
   rw [← Ny102.out] at ho
   have n0_ := Goto.m0 (blk_grown (g := g) (o := .cells #[u9000_, .int .i64 a0_1, .int .i64 (wrap64 (a0_2 + 1))] 79 (0, 0)) (Goto.bx BK0) hg (Kd.R_ne HO0_0.out BK0.out (by decide)))
   have n1_ := Goto.m0 (hb)
   have n2_ := Goto.m0 (Kept.of_grown (S := (fun k_ => (P0_0_ k_) ∨ k_ = g)) hg (by repeat (first | (with_reducible first | exact HK.out | apply Kept.alloc | apply Kept.drewN | apply Kept.drew | refine Kept.setCell ?_ (.inl (.inr rfl)) _) | exact HK.out)) (fun k_ e_ => Or.imp_left Or.inl ((HO0_0.out.1 k_ e_))))
   have n3_ := Goto.m0 (ho)
   clear BK0; clear HB; clear HK; clear HO0_0; have BK0 := n0_; have HB := n1_; have HK := n2_; have HO104 := n3_; clear n0_ n1_ n2_ n3_; clear ho hb hg hat
   obtain ⟨Ao24, co24, eo24⟩ := Kd.R_slice HO104.out
   (first | subst eo24 | (injection eo24 with f1_ f2_ f3_; have f4_ := f1_.symm; have f5_ := f3_.symm; clear f1_ f2_ f3_; subst f4_; subst f5_))
   refine hK.out _ _ ⟨(blk_cell BK0.out 0).trans rfl, (blk_cell BK0.out 1).trans rfl, (blk_cell BK0.out 2).trans rfl⟩ (fun hHeld => ?_)
   clear hK K
   refine norm_ (a' := ?_) ?_ ?_
   rotate_left
   ·
    show Act.put _ (some 29) _ = _
    exact Goto.ap
   refine pure_ (i := 15) (N := some 30) (v := ?_) (a' := ?_) (Goto.bs 18 65535) rfl rfl (any_of HT_.out (by kernel_rfl)) (fun _ _ _ h => h) (Or.inl ⟨by rfl, ?_⟩) ?_ ?_
   rotate_left
   ·
    intro w'
    go_simp
    with_reducible rfl
   rotate_left
   ·
    exact Goto.ap
   refine pure_ (i := 16) (N := some 31) (v := ?_) (a' := ?_) (Goto.bs 18 131071) rfl rfl (any_of HT_.out (by kernel_rfl)) (fun _ _ _ h => h) (Or.inl ⟨by rfl, ?_⟩) ?_ ?_
   rotate_left
   ·
    intro w'
    go_simp
    with_reducible rfl
   rotate_left
   ·
    exact Goto.ap
   refine last_ (i := 17) (N := none) (Goto.bs 18 262143) rfl rfl (one_of HT_.out (by kernel_rfl)) (by decide) (fun K hK => ?_)
   have hs25 : w23.cell? ⟨g, 0, none⟩ = some (u9000_) := (blk_cell BK0.out 0).trans rfl; have hfs25 := blk_frozen BK0.out 0
   refine skip_ (w1 := ?_) (by rfl) rfl ?_ ?_
   rotate_left
   ·
    go_simp
    rfl
   refine hK.out _ _ ?_
   clear hK K
   refine done_ (done_of HT_.out (by kernel_rfl)) ?_
   try go_wp2
   have n0_ : Aside0 (Kd.R k43 43 (w23.setCell ⟨g, 0, none⟩ (.slice Ao24 y102.length co24)) w0.heap.size (fun k_ => (P0_0_ k_ ∨ w.heap.size ≤ k_)) (.slice Ao24 y102.length co24) y102) := ⟨by (with_reducible repeat (first | apply Kd.R_alloc | apply Kd.R_drewN | apply Kd.R_drew)); exact Kd.R_mono (Kd.R_far (p := ⟨g, 0, none⟩) (Kd.R_types HO104.out BK0.out (by decide)) (fun _ hk => hk.2) (.slice Ao24 y102.length co24)) (fun _ hk => hk.1)⟩
   have n1_ : Aside0 ((w23.setCell ⟨g, 0, none⟩ (.slice Ao24 y102.length co24)).heap[g]? = some (.cells #[.slice Ao24 y102.length co24, .int .i64 a0_1, .int .i64 (wrap64 (a0_2 + 1))] 79 (0, 0))) := ⟨Goto.bx BK0⟩
   have n2_ : Aside0 (Kept w (w23.setCell ⟨g, 0, none⟩ (.slice Ao24 y102.length co24)) (fun k_ => (P0_0_ k_) ∨ k_ = g)) := ⟨by repeat (first | (with_reducible first | exact HK.out | apply Kept.alloc | apply Kept.drewN | apply Kept.drew | refine Kept.setCell ?_ (.inl (.inr rfl)) _) | exact HK.out)⟩
   have n3_ : Aside0 (Below w0.heap.size w0 (w23.setCell ⟨g, 0, none⟩ (.slice Ao24 y102.length co24))) := ⟨Goto.hx HB⟩
   (try clear HO104)
   (try clear BK0)
   (try clear HK)
   (try clear HB)
   generalize (w23.setCell ⟨g, 0, none⟩ (.slice Ao24 y102.length co24)) = w26 at n0_ n1_ n2_ n3_ ⊢
   have HO104 := n0_; have BK0 := n1_; have HK := n2_; have HB := n3_; clear n0_ n1_ n2_ n3_
   replace HO104 := Goto.m0 (Kd.R_drew HO104.out); replace BK0 := Goto.m0 (blk_drew BK0.out); replace HK := Goto.m0 (Kept.drew HK.out); replace HB := Goto.m0 (below_drew1 HB.out)
   refine start_ (n := 10) (S := fun w' => w'.cell? ⟨g, 0, none⟩ = some (.slice Ao24 y102.length co24) ∧ w'.cell? ⟨g, 1, none⟩ = some (.int .i64 a0_1) ∧ w'.cell? ⟨g, 2, none⟩ = some (.int .i64 (wrap64 (a0_2 + 1)))) (ds := []) (.replicate 10 false) (by kernel_rfl) rfl rfl ⟨(blk_cell BK0.out 0).trans rfl, (blk_cell BK0.out 1).trans rfl, (blk_cell BK0.out 2).trans rfl⟩ (fun hHeld => ?_); refine with_tabW ring_Ring_Add.tab2 ring_Ring_Add.bits2 (fun HT_ HW_ => ?_)
   generalize w26.drew = w27 at HO104 BK0 HK HB hHeld ⊢
   refine pure_ (i := 0) (N := some 32) (v := ?_) (a' := ?_) (Goto.bs 10 1) rfl rfl (any_of HT_.out (by kernel_rfl)) (fun _ _ _ h => h) (Or.inl ⟨by rfl, ?_⟩) ?_ ?_
   rotate_left
   ·
    intro w'
    go_simp
    with_reducible rfl
   rotate_left
   ·
    exact Goto.ap
   refine pure_ (i := 1) (N := some 33) (v := ?_) (a' := ?_) (Goto.bs 10 3) rfl rfl (any_of HT_.out (by kernel_rfl)) (fun _ _ _ h => h) (Or.inl ⟨by rfl, ?_⟩) ?_ ?_
   rotate_left
   ·
    intro w'
    go_simp
    with_reducible rfl
   rotate_left
   ·
    exact Goto.ap
   refine pure_ (i := 2) (N := some 34) (v := ?_) (a' := ?_) (Goto.bs 10 7) rfl rfl (any_of HT_.out (by kernel_rfl)) (fun _ _ _ h => h) (Or.inl ⟨by rfl, ?_⟩) ?_ ?_
   rotate_left
   ·
    intro w'
    go_simp
    with_reducible rfl
   rotate_left
   ·
    exact Goto.ap
   refine pure_ (i := 5) (N := some 37) (v := ?_) (a' := ?_) (Goto.bs 10 39) rfl rfl (any_of HT_.out (by kernel_rfl)) (fun _ _ _ h => h) (Or.inl ⟨by rfl, ?_⟩) ?_ ?_
   rotate_left
   ·
    intro w'
    go_simp
    with_reducible rfl
   rotate_left
   ·
    exact Goto.ap
   refine pure_ (i := 6) (N := some 38) (v := ?_) (a' := ?_) (Goto.bs 10 103) rfl rfl (any_of HT_.out (by kernel_rfl)) (fun _ _ _ h => h) (Or.inl ⟨by rfl, ?_⟩) ?_ ?_
   rotate_left
   ·
    intro w'
    go_simp
    with_reducible rfl
   rotate_left
   ·
    exact Goto.ap
   refine pure_ (i := 7) (N := some 39) (v := ?_) (a' := ?_) (Goto.bs 10 231) rfl rfl (any_of HT_.out (by kernel_rfl)) (fun _ _ _ h => h) (Or.inl ⟨by rfl, ?_⟩) ?_ ?_
   rotate_left
   ·
    intro w'
    go_simp
    with_reducible rfl
   rotate_left
   ·
    exact Goto.ap
   refine take_ (i := 3) (N := some 35) (v := ?_) (a' := ?_) (Goto.bs 10 239) rfl rfl (take_ofW HT_.out HW_.out (by kernel_rfl)) (fun _ _ _ h => h) (Or.inl ⟨by rfl, ?_⟩) hHeld ?_ ?_
   rotate_left
   ·
    rintro w' ⟨s0, s1, s2⟩
    go_simp
    with_reducible rfl
   rotate_left
   ·
    exact Goto.ap
   refine pure_ (i := 4) (N := some 36) (v := ?_) (a' := ?_) (Goto.bs 10 255) rfl rfl (any_of HT_.out (by kernel_rfl)) (fun _ _ _ h => h) (Or.inl ⟨by rfl, ?_⟩) ?_ ?_
   rotate_left
   ·
    intro w'
    go_simp
    with_reducible rfl
   rotate_left
   ·
    exact Goto.ap
   refine take_ (i := 8) (N := some 40) (v := ?_) (a' := ?_) (Goto.bs 10 511) rfl rfl (take_ofW HT_.out HW_.out (by kernel_rfl)) (fun _ _ _ h => h) (Or.inl ⟨by rfl, ?_⟩) hHeld ?_ ?_
   rotate_left
   ·
    rintro w' ⟨s0, s1, s2⟩
    go_simp
    with_reducible rfl
   rotate_left
   ·
    exact Goto.ap
   refine pure_ (i := 9) (N := some 41) (v := ?_) (a' := ?_) (Goto.bs 10 1023) rfl rfl (any_of HT_.out (by kernel_rfl)) (fun _ _ _ h => h) (Or.inl ⟨by rfl, ?_⟩) ?_ ?_
   rotate_left
   ·
    intro w'
    go_simp
    with_reducible rfl
   rotate_left
   ·
    exact Goto.ap
   refine done_ (done_of HT_.out (by kernel_rfl)) ?_
   try go_wp2
   first | go_end0 | ((try simp only [Exit.inBlock, Exit.then]); refine bodyPost_ret (results_none rfl _ _ _) rfl ?_)
   (try simp only [← exists_and_left])
   exact ⟨_, by first | rfl | (simp [errW_none, errW_some] <;> rfl) | (simp [*, errW_none, errW_some] <;> rfl), by (with_reducible repeat (first | apply Kd.R_alloc | apply Kd.R_drewN | apply Kd.R_drew)); exact HO104.out, by (with_reducible repeat first | refine blk_drewN ?_ _ | refine blk_drew ?_ | refine blk_alloc ?_ _); exact BK0.out, by repeat (first | (with_reducible first | exact HB.out | apply below_alloc | apply pw_below_drewN | apply below_drew1 | refine below_set ?_ GE0.out) | exact HB.out), by repeat (first | (with_reducible first | exact HK.out | apply Kept.alloc | apply Kept.drewN | apply Kept.drew | refine Kept.setCell ?_ (.inl (.inr rfl)) _) | exact HK.out)⟩
 ·
  rw [if_neg c5] at H
  exact absurd H (by simp)

end Go.Proofs.Ytpbcamdjcnokfaa.P
