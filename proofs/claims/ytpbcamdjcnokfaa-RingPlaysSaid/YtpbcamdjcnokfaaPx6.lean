/- Printed by a program of this workplace (a turned copy of the kit's optional print), out of the translation; not trusted: Lean checks it. -/
import Derived.Test.YtpbcamdjcnokfaaPx0
namespace Go.Proofs.Ytpbcamdjcnokfaa.P
open Go.RowKit Go.Proofs.YtpbcamdjcnokfaaW.PrintWords Go.Proofs.YtpbcamdjcnokfaaW.PrintLast Go.Proofs.YtpbcamdjcnokfaaW.PrintMore
attribute [local go_sem] max2_int min2_int max_two min_two max_three min_three max_four min_four   -- for this text's walks alone
set_option linter.unusedVariables false
set_option linter.unusedSimpArgs false

/-! ### tontineref15_Ring_Add: function 30 -/
def tontineref15_Ring_Add.f (a0_0 : Int) (l0_1 : List (S43)) (a0_2 : Int) (a1 : Int) (a2 : Int) (a3 : Int) : Option (Int × (List (S43)) × Int) := if ([] : List (S43)).length + l0_1.length < 4398046511104 then ((some (([] : List (S43)) ++ l0_1 : List (S43))).bind fun y200 => ((some (([(⟨wrap64 (a0_2 + 1), a1, a2, a3⟩ : S43)] : List (S43)) : List (S43))).bind fun y203 => (if y200.length + y203.length < 4398046511104 then ((some (y200 ++ y203 : List (S43))).bind fun y206 => (if (y206.length : Int) > a0_0 then (if 1 ≤ (y206.length : Int) then (some (a0_0, (y206.drop (1 : Int).toNat), wrap64 (a0_2 + 1))) else (none)) else (some (a0_0, y206, wrap64 (a0_2 + 1))))) else (none)))) else (none)
def tontineref15_Ring_Add.T1 : Bool × List (List Nat × List Nat) := (true, [([], []), ([], []), ([1], [1]), ([2], [2]), ([3], [3]), ([4], [4]), ([], []), ([6], [6]), ([7], [7]), ([8], [8]), ([], []), ([], []), ([], []), ([9, 10, 11, 12], [9, 10, 11, 12]), ([13], [13]), ([5, 14, 5], [5, 14]), ([0, 0, 1, 2, 3, 4, 5, 6, 7, 8, 9, 10, 11, 12, 13, 14, 15], [0]), ([16, 0, 1, 2, 3, 4, 5, 6, 7, 8, 9, 10, 11, 12, 13, 14, 15], [16]), ([17, 15, 15, 0, 1, 2, 3, 4, 5, 6, 7, 8, 9, 10, 11, 12, 13, 14, 15], [15, 17])])
def tontineref15_Ring_Add.B1 : List Nat := [0, 0, 2, 6, 14, 30, 0, 64, 192, 448, 0, 0, 0, 8128, 16320, 32766, 65535, 131071, 262143]
theorem tontineref15_Ring_Add.tab1 : rtab .any (opsOf Try.f30 1) = tontineref15_Ring_Add.T1 := by kernel_rfl
theorem tontineref15_Ring_Add.bits1 : waitsOk tontineref15_Ring_Add.T1.2 tontineref15_Ring_Add.B1 = true := by kernel_rfl
def tontineref15_Ring_Add.T2 : Bool × List (List Nat × List Nat) := (true, [([], []), ([0], [0]), ([1], [1]), ([2], [2]), ([3], [3]), ([], []), ([5], [5]), ([6], [6]), ([7], [7]), ([4, 8], [4, 8])])
def tontineref15_Ring_Add.B2 : List Nat := [0, 1, 3, 7, 15, 0, 32, 96, 224, 511]
theorem tontineref15_Ring_Add.tab2 : rtab .any (opsOf Try.f30 2) = tontineref15_Ring_Add.T2 := by kernel_rfl
theorem tontineref15_Ring_Add.bits2 : waitsOk tontineref15_Ring_Add.T2.2 tontineref15_Ring_Add.B2 = true := by kernel_rfl
set_option maxHeartbeats 8000000 in
set_option maxRecDepth 100000 in
theorem tontineref15_Ring_Add.calls (g : Nat) (a0_0 : Int) (P0_1_ : Nat → Prop) (u9000_ : Value) (l0_1 : List (S43)) (a0_2 : Int) (a1 : Int) (a2 : Int) (a3 : Int) (r1 : Int) (r2 : List (S43)) (r3 : Int) (w0 w : World) (hI : w.heap[g]? = some (.cells #[.int .i64 a0_0, u9000_, .int .i64 a0_2] 47 (0, 0))) (hG : w0.heap.size ≤ g) (hB : Below w0.heap.size w0 w) (ho0_1 : Kd.Q k43 43 w w0.heap.size P0_1_ u9000_ l0_1) (h : tontineref15_Ring_Add.f a0_0 l0_1 a0_2 a1 a2 a3 = some (r1, r2, r3)) :
    Calls Try.prog 30 #[.pointer (some ⟨g, 0, none⟩), .int .i64 a1, .int .i64 a2, .int .i64 a3] w fun e w' => ∃ v1_ : Value, e = .returned (.tuple #[]) ∧ Kd.Q k43 43 w' w0.heap.size (fun k_ => (P0_1_ k_ ∨ w.heap.size ≤ k_)) v1_ r2 ∧ w'.heap[g]? = some (.cells #[.int .i64 r1, v1_, .int .i64 r3] 47 (0, 0)) ∧ Below w0.heap.size w0 w' ∧ Kept w w' (fun k_ => (P0_1_ k_) ∨ k_ = g) := by
 have hu43 := Try.underlying43
 have HO0_1 := Goto.m0 (show Kd.Q k43 43 w w0.heap.size (fun k_ => (P0_1_ k_ ∨ w.heap.size ≤ k_)) u9000_ l0_1 from Kd.Q_mono ho0_1 (fun k_ hk => (.inl hk)))
 have BK0 := Goto.m0 hI
 have GE0 := Goto.m0 hG
 clear hI hG
 have HK := Goto.m0 (Kept.refl w (fun k_ => (P0_1_ k_) ∨ k_ = g))
 have HW0 := Goto.m0 hB.size
 have HB := Goto.m0 hB
 clear hB
 have H : (if ([] : List (S43)).length + l0_1.length < 4398046511104 then ((some (([] : List (S43)) ++ l0_1 : List (S43))).bind fun y200 => ((some (([(⟨wrap64 (a0_2 + 1), a1, a2, a3⟩ : S43)] : List (S43)) : List (S43))).bind fun y203 => (if y200.length + y203.length < 4398046511104 then ((some (y200 ++ y203 : List (S43))).bind fun y206 => (if (y206.length : Int) > a0_0 then (if 1 ≤ (y206.length : Int) then (some (a0_0, (y206.drop (1 : Int).toNat), wrap64 (a0_2 + 1))) else (none)) else (some (a0_0, y206, wrap64 (a0_2 + 1))))) else (none)))) else (none)) = some (r1, r2, r3) := h
 clear h
 by_cases c5 : ([] : List (S43)).length + l0_1.length < 4398046511104
 ·
  rw [if_pos c5] at H
  have LMc5 := Goto.m0 c5
  clear c5
  obtain ⟨y200, hy200⟩ : ∃ y_ : List (S43), y_ = (([] : List (S43)) ++ l0_1) := ⟨_, rfl⟩
  replace H : ((some (([(⟨wrap64 (a0_2 + 1), a1, a2, a3⟩ : S43)] : List (S43)) : List (S43))).bind fun y203 => (if y200.length + y203.length < 4398046511104 then ((some (y200 ++ y203 : List (S43))).bind fun y206 => (if (y206.length : Int) > a0_0 then (if 1 ≤ (y206.length : Int) then (some (a0_0, (y206.drop (1 : Int).toNat), wrap64 (a0_2 + 1))) else (none)) else (some (a0_0, y206, wrap64 (a0_2 + 1))))) else (none))) = some (r1, r2, r3) := by first | (rw [hy200]; with_reducible exact H) | (have H2_ := (Option.bind_some _ _).symm.trans H; rw [hy200]; with_reducible exact H2_) | (have H2_ := (Option.bind_some _ _).symm.trans H; with_reducible exact H2_) | with_reducible exact H | (rw [hy200]; exact H) | exact H
  have Ny200 := Goto.m0 hy200
  clear hy200
  obtain ⟨y203, hy203⟩ : ∃ y_ : List (S43), y_ = (([(⟨wrap64 (a0_2 + 1), a1, a2, a3⟩ : S43)] : List (S43))) := ⟨_, rfl⟩
  replace H : (if y200.length + y203.length < 4398046511104 then ((some (y200 ++ y203 : List (S43))).bind fun y206 => (if (y206.length : Int) > a0_0 then (if 1 ≤ (y206.length : Int) then (some (a0_0, (y206.drop (1 : Int).toNat), wrap64 (a0_2 + 1))) else (none)) else (some (a0_0, y206, wrap64 (a0_2 + 1))))) else (none)) = some (r1, r2, r3) := by first | (rw [hy203]; with_reducible exact H) | (have H2_ := (Option.bind_some _ _).symm.trans H; rw [hy203]; with_reducible exact H2_) | (have H2_ := (Option.bind_some _ _).symm.trans H; with_reducible exact H2_) | with_reducible exact H | (rw [hy203]; exact H) | exact H
  have Ny203 := Goto.m0 hy203
  clear hy203
  by_cases c6 : y200.length + y203.length < 4398046511104
  ·
   rw [if_pos c6] at H
   have LMc6 := Goto.m0 c6
   clear c6
   obtain ⟨y206, hy206⟩ : ∃ y_ : List (S43), y_ = (y200 ++ y203) := ⟨_, rfl⟩
   replace H : (if (y206.length : Int) > a0_0 then (if 1 ≤ (y206.length : Int) then (some (a0_0, (y206.drop (1 : Int).toNat), wrap64 (a0_2 + 1))) else (none)) else (some (a0_0, y206, wrap64 (a0_2 + 1)))) = some (r1, r2, r3) := by first | (rw [hy206]; with_reducible exact H) | (have H2_ := (Option.bind_some _ _).symm.trans H; rw [hy206]; with_reducible exact H2_) | (have H2_ := (Option.bind_some _ _).symm.trans H; with_reducible exact H2_) | with_reducible exact H | (rw [hy206]; exact H) | exact H
   have Ny206 := Goto.m0 hy206
   clear hy206
   by_cases c7 : (y206.length : Int) > a0_0
   ·
    rw [if_pos c7] at H
    have c7b0 : decide (a0_0 < (y206.length : Int)) = true := decide_eq_true c7
    clear c7
    by_cases c8 : 1 ≤ (y206.length : Int)
    ·
     rw [if_pos c8] at H
     have c8b0 := eq_true c8
     have c8b1 : decide (1 ≤ (y206.length : Int)) = true := decide_eq_true c8
     clear c8
     obtain ⟨y209, hy209⟩ : ∃ y_ : List (S43), y_ = (y206.drop (1 : Int).toNat) := ⟨_, rfl⟩
     replace H : (some (a0_0, y209, wrap64 (a0_2 + 1))) = some (r1, r2, r3) := by first | (rw [hy209]; with_reducible exact H) | (have H2_ := (Option.bind_some _ _).symm.trans H; rw [hy209]; with_reducible exact H2_) | (have H2_ := (Option.bind_some _ _).symm.trans H; with_reducible exact H2_) | with_reducible exact H | (rw [hy209]; exact H) | exact H
     have Ny209 := Goto.m0 hy209
     clear hy209
     simp only [Option.some.injEq, Prod.mk.injEq] at H
     obtain ⟨rfl, rfl, rfl⟩ := H
     have hcz9_0 : w.cell? ⟨g, 0, none⟩ = some (.int .i64 a0_0) := (blk_cell BK0.out 0).trans rfl; have hcz9_1 : w.cell? ⟨g, 1, none⟩ = some (u9000_) := (blk_cell BK0.out 1).trans rfl; have hcz9_2 : w.cell? ⟨g, 2, none⟩ = some (.int .i64 a0_2) := (blk_cell BK0.out 2).trans rfl; have hfz9_0 := blk_frozen BK0.out 0; have hfz9_1 := blk_frozen BK0.out 1; have hfz9_2 := blk_frozen BK0.out 2
     obtain ⟨Ao10, co10, eo10, _⟩ := Kd.Q_slice HO0_1.out
     subst eo10
     go_enter Try.func30, Try.ntmps30
     try go_wp2
     have n0_ : Aside0 (Kd.Q k43 43 (w.setCell ⟨g, 2, none⟩ (.int .i64 (wrap64 (a0_2 + 1)))) w0.heap.size (fun k_ => (P0_1_ k_ ∨ w.heap.size ≤ k_)) (.slice Ao10 l0_1.length co10) l0_1) := ⟨by (with_reducible repeat (first | apply Kd.Q_alloc | apply Kd.Q_drewN | apply Kd.Q_drew)); exact Kd.Q_mono (Kd.Q_far (p := ⟨g, 2, none⟩) (Kd.Q_types HO0_1.out BK0.out (by decide)) (fun _ hk => hk.2) (.int .i64 (wrap64 (a0_2 + 1)))) (fun _ hk => hk.1)⟩
     have n1_ : Aside0 ((w.setCell ⟨g, 2, none⟩ (.int .i64 (wrap64 (a0_2 + 1)))).heap[g]? = some (.cells #[.int .i64 a0_0, .slice Ao10 l0_1.length co10, .int .i64 (wrap64 (a0_2 + 1))] 47 (0, 0))) := ⟨Goto.bx BK0⟩
     have n2_ : Aside0 (Kept w (w.setCell ⟨g, 2, none⟩ (.int .i64 (wrap64 (a0_2 + 1)))) (fun k_ => (P0_1_ k_) ∨ k_ = g)) := ⟨by repeat (first | (with_reducible first | exact HK.out | apply Kept.alloc | apply Kept.drewN | apply Kept.drew | refine Kept.setCell ?_ (.inl (.inr rfl)) _) | exact HK.out)⟩
     have n3_ : Aside0 (Below w0.heap.size w0 (w.setCell ⟨g, 2, none⟩ (.int .i64 (wrap64 (a0_2 + 1))))) := ⟨Goto.hx HB⟩
     (try clear HO0_1)
     (try clear BK0)
     (try clear HK)
     (try clear HB)
     generalize (w.setCell ⟨g, 2, none⟩ (.int .i64 (wrap64 (a0_2 + 1)))) = w11 at n0_ n1_ n2_ n3_ ⊢
     have HO0_1 := n0_; have BK0 := n1_; have HK := n2_; have HB := n3_; clear n0_ n1_ n2_ n3_
     replace HO0_1 := Goto.m0 (Kd.Q_drew HO0_1.out); replace BK0 := Goto.m0 (blk_drew BK0.out); replace HK := Goto.m0 (Kept.drew HK.out); replace HB := Goto.m0 (below_drew1 HB.out)
     refine start_ (n := 19) (S := fun w' => w'.cell? ⟨g, 0, none⟩ = some (.int .i64 a0_0) ∧ w'.cell? ⟨g, 1, none⟩ = some (.slice Ao10 l0_1.length co10) ∧ w'.cell? ⟨g, 2, none⟩ = some (.int .i64 (wrap64 (a0_2 + 1)))) (ds := [18]) (.replicate 19 false) (by kernel_rfl) rfl rfl ⟨(blk_cell BK0.out 0).trans rfl, (blk_cell BK0.out 1).trans rfl, (blk_cell BK0.out 2).trans rfl⟩ (fun hHeld => ?_); refine with_tabW tontineref15_Ring_Add.tab1 tontineref15_Ring_Add.bits1 (fun HT_ HW_ => ?_)
     generalize w11.drew = w12 at HO0_1 BK0 HK HB hHeld ⊢
     refine pure_ (i := 0) (N := some 16) (v := ?_) (a' := ?_) (Goto.bs 19 1) rfl rfl (any_of HT_.out (by kernel_rfl)) (fun _ _ _ h => h) (Or.inl ⟨by rfl, ?_⟩) ?_ ?_
     rotate_left
     ·
      intro w'
      go_simp
      with_reducible rfl
     rotate_left
     ·
      exact Goto.ap
     refine pure_ (i := 1) (N := some 17) (v := ?_) (a' := ?_) (Goto.bs 19 3) rfl rfl (any_of HT_.out (by kernel_rfl)) (fun _ _ _ h => h) (Or.inl ⟨by rfl, ?_⟩) ?_ ?_
     rotate_left
     ·
      intro w'
      go_simp
      with_reducible rfl
     rotate_left
     ·
      exact Goto.ap
     refine pure_ (i := 2) (N := some 18) (v := ?_) (a' := ?_) (Goto.bs 19 7) rfl rfl (any_of HT_.out (by kernel_rfl)) (fun _ _ _ h => h) (Or.inl ⟨by rfl, ?_⟩) ?_ ?_
     rotate_left
     ·
      intro w'
      go_simp
      with_reducible rfl
     rotate_left
     ·
      exact Goto.ap
     refine pure_ (i := 3) (N := some 19) (v := ?_) (a' := ?_) (Goto.bs 19 15) rfl rfl (any_of HT_.out (by kernel_rfl)) (fun _ _ _ h => h) (Or.inl ⟨by rfl, ?_⟩) ?_ ?_
     rotate_left
     ·
      intro w'
      go_simp
      with_reducible rfl
     rotate_left
     ·
      exact Goto.ap
     refine pure_ (i := 6) (N := some 22) (v := ?_) (a' := ?_) (Goto.bs 19 79) rfl rfl (any_of HT_.out (by kernel_rfl)) (fun _ _ _ h => h) (Or.inl ⟨by rfl, ?_⟩) ?_ ?_
     rotate_left
     ·
      intro w'
      go_simp
      with_reducible rfl
     rotate_left
     ·
      exact Goto.ap
     refine pure_ (i := 7) (N := some 23) (v := ?_) (a' := ?_) (Goto.bs 19 207) rfl rfl (any_of HT_.out (by kernel_rfl)) (fun _ _ _ h => h) (Or.inl ⟨by rfl, ?_⟩) ?_ ?_
     rotate_left
     ·
      intro w'
      go_simp
      with_reducible rfl
     rotate_left
     ·
      exact Goto.ap
     refine pure_ (i := 8) (N := some 24) (v := ?_) (a' := ?_) (Goto.bs 19 463) rfl rfl (any_of HT_.out (by kernel_rfl)) (fun _ _ _ h => h) (Or.inl ⟨by rfl, ?_⟩) ?_ ?_
     rotate_left
     ·
      intro w'
      go_simp
      with_reducible rfl
     rotate_left
     ·
      exact Goto.ap
     refine pure_ (i := 10) (N := some 26) (v := ?_) (a' := ?_) (Goto.bs 19 1487) rfl rfl (any_of HT_.out (by kernel_rfl)) (fun _ _ _ h => h) (Or.inl ⟨by rfl, ?_⟩) ?_ ?_
     rotate_left
     ·
      intro w'
      go_simp
      with_reducible rfl
     rotate_left
     ·
      exact Goto.ap
     refine pure_ (i := 11) (N := some 27) (v := ?_) (a' := ?_) (Goto.bs 19 3535) rfl rfl (any_of HT_.out (by kernel_rfl)) (fun _ _ _ h => h) (Or.inl ⟨by rfl, ?_⟩) ?_ ?_
     rotate_left
     ·
      intro w'
      go_simp
      with_reducible rfl
     rotate_left
     ·
      exact Goto.ap
     refine pure_ (i := 12) (N := some 28) (v := ?_) (a' := ?_) (Goto.bs 19 7631) rfl rfl (any_of HT_.out (by kernel_rfl)) (fun _ _ _ h => h) (Or.inl ⟨by rfl, ?_⟩) ?_ ?_
     rotate_left
     ·
      intro w'
      go_simp
      with_reducible rfl
     rotate_left
     ·
      exact Goto.ap
     refine take_ (i := 4) (N := some 20) (v := ?_) (a' := ?_) (Goto.bs 19 7647) rfl rfl (take_ofW HT_.out HW_.out (by kernel_rfl)) (fun _ _ _ h => h) (Or.inl ⟨by rfl, ?_⟩) hHeld ?_ ?_
     rotate_left
     ·
      rintro w' ⟨s0, s1, s2⟩
      go_simp
      with_reducible rfl
     rotate_left
     ·
      exact Goto.ap
     refine take_ (i := 9) (N := some 25) (v := ?_) (a' := ?_) (Goto.bs 19 8159) rfl rfl (take_ofW HT_.out HW_.out (by kernel_rfl)) (fun _ _ _ h => h) (Or.inl ⟨by rfl, ?_⟩) hHeld ?_ ?_
     rotate_left
     ·
      rintro w' ⟨s0, s1, s2⟩
      go_simp
      with_reducible rfl
     rotate_left
     ·
      exact Goto.ap
     refine pure_ (i := 13) (N := some 29) (v := ?_) (a' := ?_) (Goto.bs 19 16351) rfl rfl (any_of HT_.out (by kernel_rfl)) (fun _ _ _ h => h) (Or.inl ⟨by rfl, ?_⟩) ?_ ?_
     rotate_left
     ·
      intro w'
      go_simp
      with_reducible rfl
     rotate_left
     ·
      exact Goto.ap
     refine join_ (σ := Value × Value) 4 (Goto.bs 19 32767) (fun s_ => [(21, s_.1), (30, s_.2)]) (fun s_ w' => (w'.cell? ⟨g, 0, none⟩ = some (.int .i64 a0_0) ∧ w'.cell? ⟨g, 1, none⟩ = some (.slice Ao10 l0_1.length co10) ∧ w'.cell? ⟨g, 2, none⟩ = some (.int .i64 (wrap64 (a0_2 + 1)))) ∧ (Kd.Q k43 43 w' w0.heap.size (fun k_ => (P0_1_ k_ ∨ w.heap.size ≤ k_) ∧ some k_ ≠ (s_.1 : Value).ownBlock ∧ some k_ ≠ (s_.2 : Value).ownBlock) (.slice Ao10 l0_1.length co10) l0_1) ∧ (Kd.R k43 43 w' w0.heap.size (fun k_ => (P0_1_ k_ ∨ w.heap.size ≤ k_) ∧ some k_ ≠ (.slice Ao10 l0_1.length co10 : Value).ownBlock ∧ some k_ ≠ (s_.2 : Value).ownBlock) s_.1 y200) ∧ (Kd.R k43 43 w' w0.heap.size (fun k_ => (P0_1_ k_ ∨ w.heap.size ≤ k_) ∧ some k_ ≠ (.slice Ao10 l0_1.length co10 : Value).ownBlock ∧ some k_ ≠ (s_.1 : Value).ownBlock) s_.2 y203) ∧ (w'.heap[g]? = some (.cells #[.int .i64 a0_0, .slice Ao10 l0_1.length co10, .int .i64 (wrap64 (a0_2 + 1))] 47 (0, 0))) ∧ (Kept w w' (fun k_ => (P0_1_ k_) ∨ k_ = g)) ∧ (Below w0.heap.size w0 w')) ?_ ?_
     rotate_left
     ·
      intro hCont
      refine two_ (i := 5) (j := 14) (Ni := some 21) (Nj := some 30) (Goto.bs 19 16383) (Goto.bs 19 32735) rfl rfl rfl rfl (two_of HT_.out (by kernel_rfl)) (by decide) (by decide) (fun K hK => ?_) (fun K hK => ?_)
      ·
       skip
       refine Kd.R_append_rows_step k43 (w0 := w0) w0.heap.size rfl (.const (.slice none 0 0)) (.tmp 20) 35 43 (.agg #[(.int .i64 0), (.int .i64 0), (.int .i64 0), (.int .i64 0)]) 32 rfl Try.underlying35 info43 rfl (by decide) (by omega) (.slice none 0 0) ([] : List (S43)) l0_1 _ _ _ (fun k_ => (P0_1_ k_ ∨ w.heap.size ≤ k_) ∧ some k_ ≠ (.slice Ao10 l0_1.length co10 : Value).ownBlock) (fun _ => False) rfl rfl ?aO ?aR (fun _ _ h => h) (fun _ h => h.elim) ?aF ?aB ?aS ?aL ?_
       (case aR => repeat (first | exact (Kd.Q_reads' HO0_1.out).2.2 | (with_reducible refine Kd.C_alloc ?_ _) | (with_reducible refine Kd.C_drewN ?_ _) | (with_reducible refine Kd.C_drew ?_)))
       (case aB => exact (Goto.hx HB))
       (case aF => exact (fun k_ hk => ⟨(.inr (Nat.le_trans (by first | exact HK.out.1 | exact (show Kept w _ (fun k_ => (P0_1_ k_) ∨ k_ = g) from by repeat (first | (with_reducible first | exact HK.out | apply Kept.alloc | apply Kept.drewN | apply Kept.drew | refine Kept.setCell ?_ (.inl (.inr rfl)) _) | exact HK.out)).1) hk)), Kd.fresh' (Kd.Q_lt (by (with_reducible repeat (first | apply Kd.Q_alloc | apply Kd.Q_drewN | apply Kd.Q_drew)); exact HO0_1.out)) k_ hk⟩))
       (case aO => exact ((Kd.R_nil _ _ _ _ (fun k_ => (P0_1_ k_ ∨ w.heap.size ≤ k_) ∧ some k_ ≠ (.slice Ao10 l0_1.length co10 : Value).ownBlock))))
       (case aS => exact (below_size (Goto.hx HB)))
       (case aL => have := LMc5.out; omega)
       intro v201 w13 ho hb hg hat
       rw [← Ny200.out] at ho
       have HO202 := Goto.m0 (ho); replace BK0 := Goto.m0 (blk_grown (g := g) (o := .cells #[.int .i64 a0_0, .slice Ao10 l0_1.length co10, .int .i64 (wrap64 (a0_2 + 1))] 47 (0, 0)) (Goto.bx BK0) hg (by simp [Value.ownBlock])); replace HO0_1 := Goto.m0 (Kd.Q_after (Kd.Q_apart_nil (by (with_reducible repeat (first | apply Kd.Q_alloc | apply Kd.Q_drewN | apply Kd.Q_drew)); exact HO0_1.out)) hg hat); replace HB := Goto.m0 (hb); replace HK := Goto.m0 (Kept.of_grown (S := (fun k_ => (P0_1_ k_) ∨ k_ = g)) hg (by repeat (first | (with_reducible first | exact HK.out | apply Kept.alloc | apply Kept.drewN | apply Kept.drew | refine Kept.setCell ?_ (.inl (.inr rfl)) _) | exact HK.out)) (fun k_ e_ => by simp [Value.ownBlock] at e_)); clear ho hb hg hat
       refine hK.out _ _ ⟨(blk_cell BK0.out 0).trans rfl, (blk_cell BK0.out 1).trans rfl, (blk_cell BK0.out 2).trans rfl⟩ (fun hHeld => ?_)
       clear hK K
       refine norm_ (a' := ?_) ?_ ?_
       rotate_left
       ·
        show Act.put _ (some 21) _ = _
        exact Goto.ap
       refine one_ (i := 14) (N := some 30) (Goto.bs 19 32767) rfl rfl (one_of HT_.out (by kernel_rfl)) (by decide) (fun K hK => ?_)
       refine Kd.R_lit_step k43 _ 43 ?hg (N := 30) ?hd (xs := ([(⟨wrap64 (a0_2 + 1), a1, a2, a3⟩ : S43)] : List (S43))) (inner := [.int .i64 (wrap64 (a0_2 + 1)), .int .i64 a1, .int .i64 a2, .int .i64 a3]) (ok := fun _ => True) (okp := fun _ => True) ?hr ?hp (fun _ hk => hk) trivial (Below.refl _ _) (Nat.le_refl _) (by simp) ?_; (case hd => rfl); (case hg => rfl); (case hr => first | (go_simp; done) | (go_simp; rfl)); (case hp => exact (Reps.c4 (show Kd.M k43 _ _ _ (⟨wrap64 (a0_2 + 1), a1, a2, a3⟩ : S43) [.int .i64 (wrap64 (a0_2 + 1)), .int .i64 a1, .int .i64 a2, .int .i64 a3] from (k43_mkM _ _ _ (⟨wrap64 (a0_2 + 1), a1, a2, a3⟩ : S43) )) (Reps.none _ _)))
       intro v204 w14 ho15 hb hg_ hnew_
       clear hg_ hnew_
       (first | rw [← Ny203.out] at ho15 | (simp only [Int.reduceToNat] at ho15; rw [← Ny203.out] at ho15))
       have HO205 := Goto.m0 (Kd.R_lower (Kd.R_new' (Kd.R_new' (Kd.R_newM (M := fun k_ => (P0_1_ k_ ∨ w.heap.size ≤ k_)) ho15 (by first | exact HK.out.1 | exact (show Kept w _ (fun k_ => (P0_1_ k_) ∨ k_ = g) from by repeat (first | (with_reducible first | exact HK.out | apply Kept.alloc | apply Kept.drewN | apply Kept.drew | refine Kept.setCell ?_ (.inl (.inr rfl)) _) | exact HK.out)).1) (fun k_ h_ => .inr h_)) (Kd.Q_lt (by (with_reducible repeat (first | apply Kd.Q_alloc | apply Kd.Q_drewN | apply Kd.Q_drew)); exact HO0_1.out))) (Kd.R_lt (by (with_reducible repeat (first | apply Kd.R_alloc | apply Kd.R_drewN | apply Kd.R_drew)); exact HO202.out))) (below_size (Goto.hx HB))); replace HO0_1 := Goto.m0 (Kd.Q_elder' (by (with_reducible repeat (first | apply Kd.Q_alloc | apply Kd.Q_drewN | apply Kd.Q_drew)); exact HO0_1.out) (Kd.R_base ho15) hb); replace HO202 := Goto.m0 (Kd.R_elder' (by (with_reducible repeat (first | apply Kd.R_alloc | apply Kd.R_drewN | apply Kd.R_drew)); exact HO202.out) (Kd.R_base ho15) hb); replace BK0 := Goto.bb BK0 hb; replace HK := Goto.m0 (Kept.below (S := (fun k_ => (P0_1_ k_) ∨ k_ = g)) (by repeat (first | (with_reducible first | exact HK.out | apply Kept.alloc | apply Kept.drewN | apply Kept.drew | refine Kept.setCell ?_ (.inl (.inr rfl)) _) | exact HK.out)) hb); replace HB := Goto.hs HB hb; clear hb ho15
       refine hK.out _ _ ⟨(blk_cell BK0.out 0).trans rfl, (blk_cell BK0.out 1).trans rfl, (blk_cell BK0.out 2).trans rfl⟩ (fun hHeld => ?_)
       clear hK K
       refine norm_ (a' := ?_) ?_ ?_
       rotate_left
       ·
        show Act.put _ (some 30) _ = _
        exact Goto.ap
       exact norm_ (by simp only [putAll, Act.put, List.setIfInBounds_toArray, List.set_cons_zero, List.set_cons_succ]) (hCont (v201, v204) _ ⟨hHeld, (by (with_reducible repeat (first | apply Kd.Q_alloc | apply Kd.Q_drewN | apply Kd.Q_drew)); exact Kd.Q_mono HO0_1.out (fun _ hk => ⟨hk.1.1, ⟨hk.1.2, hk.2⟩⟩)), (by (with_reducible repeat (first | apply Kd.R_alloc | apply Kd.R_drewN | apply Kd.R_drew)); exact Kd.R_mono HO202.out (fun _ hk => ⟨hk.1.1, ⟨hk.1.2, hk.2⟩⟩)), (by (with_reducible repeat (first | apply Kd.R_alloc | apply Kd.R_drewN | apply Kd.R_drew)); exact Kd.R_mono HO205.out (fun _ hk => ⟨hk.1.1.1, ⟨hk.1.2, hk.2⟩⟩)), (Goto.bx BK0), (by repeat (first | (with_reducible first | exact HK.out | apply Kept.alloc | apply Kept.drewN | apply Kept.drew | refine Kept.setCell ?_ (.inl (.inr rfl)) _) | exact HK.out)), (Goto.hx HB)⟩)
      ·
       skip
       refine Kd.R_lit_step k43 _ 43 ?hg (N := 30) ?hd (xs := ([(⟨wrap64 (a0_2 + 1), a1, a2, a3⟩ : S43)] : List (S43))) (inner := [.int .i64 (wrap64 (a0_2 + 1)), .int .i64 a1, .int .i64 a2, .int .i64 a3]) (ok := fun _ => True) (okp := fun _ => True) ?hr ?hp (fun _ hk => hk) trivial (Below.refl _ _) (Nat.le_refl _) (by simp) ?_; (case hd => rfl); (case hg => rfl); (case hr => first | (go_simp; done) | (go_simp; rfl)); (case hp => exact (Reps.c4 (show Kd.M k43 _ _ _ (⟨wrap64 (a0_2 + 1), a1, a2, a3⟩ : S43) [.int .i64 (wrap64 (a0_2 + 1)), .int .i64 a1, .int .i64 a2, .int .i64 a3] from (k43_mkM _ _ _ (⟨wrap64 (a0_2 + 1), a1, a2, a3⟩ : S43) )) (Reps.none _ _)))
       intro v204 w13 ho14 hb hg_ hnew_
       clear hg_ hnew_
       (first | rw [← Ny203.out] at ho14 | (simp only [Int.reduceToNat] at ho14; rw [← Ny203.out] at ho14))
       have HO205 := Goto.m0 (Kd.R_lower (Kd.R_new' (Kd.R_newM (M := fun k_ => (P0_1_ k_ ∨ w.heap.size ≤ k_)) ho14 (by first | exact HK.out.1 | exact (show Kept w _ (fun k_ => (P0_1_ k_) ∨ k_ = g) from by repeat (first | (with_reducible first | exact HK.out | apply Kept.alloc | apply Kept.drewN | apply Kept.drew | refine Kept.setCell ?_ (.inl (.inr rfl)) _) | exact HK.out)).1) (fun k_ h_ => .inr h_)) (Kd.Q_lt (by (with_reducible repeat (first | apply Kd.Q_alloc | apply Kd.Q_drewN | apply Kd.Q_drew)); exact HO0_1.out))) (below_size (Goto.hx HB))); replace HO0_1 := Goto.m0 (Kd.Q_elder' (by (with_reducible repeat (first | apply Kd.Q_alloc | apply Kd.Q_drewN | apply Kd.Q_drew)); exact HO0_1.out) (Kd.R_base ho14) hb); replace BK0 := Goto.bb BK0 hb; replace HK := Goto.m0 (Kept.below (S := (fun k_ => (P0_1_ k_) ∨ k_ = g)) (by repeat (first | (with_reducible first | exact HK.out | apply Kept.alloc | apply Kept.drewN | apply Kept.drew | refine Kept.setCell ?_ (.inl (.inr rfl)) _) | exact HK.out)) hb); replace HB := Goto.hs HB hb; clear hb ho14
       refine hK.out _ _ ⟨(blk_cell BK0.out 0).trans rfl, (blk_cell BK0.out 1).trans rfl, (blk_cell BK0.out 2).trans rfl⟩ (fun hHeld => ?_)
       clear hK K
       refine norm_ (a' := ?_) ?_ ?_
       rotate_left
       ·
        show Act.put _ (some 30) _ = _
        exact Goto.ap
       refine one_ (i := 5) (N := some 21) (Goto.bs 19 32767) rfl rfl (one_of HT_.out (by kernel_rfl)) (by decide) (fun K hK => ?_)
       refine Kd.R_append_rows_step k43 (w0 := w0) w0.heap.size rfl (.const (.slice none 0 0)) (.tmp 20) 35 43 (.agg #[(.int .i64 0), (.int .i64 0), (.int .i64 0), (.int .i64 0)]) 32 rfl Try.underlying35 info43 rfl (by decide) (by omega) (.slice none 0 0) ([] : List (S43)) l0_1 _ _ _ (fun k_ => (P0_1_ k_ ∨ w.heap.size ≤ k_) ∧ some k_ ≠ (.slice Ao10 l0_1.length co10 : Value).ownBlock ∧ some k_ ≠ (v204 : Value).ownBlock) (fun _ => False) rfl rfl ?aO ?aR (fun _ _ h => h) (fun _ h => h.elim) ?aF ?aB ?aS ?aL ?_
       (case aR => repeat (first | exact (Kd.Q_reads' HO0_1.out).2.2 | (with_reducible refine Kd.C_alloc ?_ _) | (with_reducible refine Kd.C_drewN ?_ _) | (with_reducible refine Kd.C_drew ?_)))
       (case aB => exact (Goto.hx HB))
       (case aF => exact (fun k_ hk => ⟨(.inr (Nat.le_trans (by first | exact HK.out.1 | exact (show Kept w _ (fun k_ => (P0_1_ k_) ∨ k_ = g) from by repeat (first | (with_reducible first | exact HK.out | apply Kept.alloc | apply Kept.drewN | apply Kept.drew | refine Kept.setCell ?_ (.inl (.inr rfl)) _) | exact HK.out)).1) hk)), Kd.fresh' (Kd.Q_lt (by (with_reducible repeat (first | apply Kd.Q_alloc | apply Kd.Q_drewN | apply Kd.Q_drew)); exact HO0_1.out)) k_ hk, Kd.fresh' (Kd.R_lt (by (with_reducible repeat (first | apply Kd.R_alloc | apply Kd.R_drewN | apply Kd.R_drew)); exact HO205.out)) k_ hk⟩))
       (case aO => exact ((Kd.R_nil _ _ _ _ (fun k_ => (P0_1_ k_ ∨ w.heap.size ≤ k_) ∧ some k_ ≠ (.slice Ao10 l0_1.length co10 : Value).ownBlock ∧ some k_ ≠ (v204 : Value).ownBlock))))
       (case aS => exact (below_size (Goto.hx HB)))
       (case aL => have := LMc5.out; omega)
       intro v201 w15 ho hb hg hat
       rw [← Ny200.out] at ho
       have HO202 := Goto.m0 (ho); replace BK0 := Goto.m0 (blk_grown (g := g) (o := .cells #[.int .i64 a0_0, .slice Ao10 l0_1.length co10, .int .i64 (wrap64 (a0_2 + 1))] 47 (0, 0)) (Goto.bx BK0) hg (by simp [Value.ownBlock])); replace HO0_1 := Goto.m0 (Kd.Q_after (Kd.Q_apart_nil (by (with_reducible repeat (first | apply Kd.Q_alloc | apply Kd.Q_drewN | apply Kd.Q_drew)); exact HO0_1.out)) hg hat); replace HO205 := Goto.m0 (Kd.R_after (Kd.R_apart_nil (by (with_reducible repeat (first | apply Kd.R_alloc | apply Kd.R_drewN | apply Kd.R_drew)); exact HO205.out)) hg hat); replace HB := Goto.m0 (hb); replace HK := Goto.m0 (Kept.of_grown (S := (fun k_ => (P0_1_ k_) ∨ k_ = g)) hg (by repeat (first | (with_reducible first | exact HK.out | apply Kept.alloc | apply Kept.drewN | apply Kept.drew | refine Kept.setCell ?_ (.inl (.inr rfl)) _) | exact HK.out)) (fun k_ e_ => by simp [Value.ownBlock] at e_)); clear ho hb hg hat
       refine hK.out _ _ ⟨(blk_cell BK0.out 0).trans rfl, (blk_cell BK0.out 1).trans rfl, (blk_cell BK0.out 2).trans rfl⟩ (fun hHeld => ?_)
       clear hK K
       refine norm_ (a' := ?_) ?_ ?_
       rotate_left
       ·
        show Act.put _ (some 21) _ = _
        exact Goto.ap
       exact norm_ (by simp only [putAll, Act.put, List.setIfInBounds_toArray, List.set_cons_zero, List.set_cons_succ]) (hCont (v201, v204) _ ⟨hHeld, (by (with_reducible repeat (first | apply Kd.Q_alloc | apply Kd.Q_drewN | apply Kd.Q_drew)); exact Kd.Q_mono HO0_1.out (fun _ hk => ⟨hk.1.1, ⟨hk.2, hk.1.2⟩⟩)), (by (with_reducible repeat (first | apply Kd.R_alloc | apply Kd.R_drewN | apply Kd.R_drew)); exact HO202.out), (by (with_reducible repeat (first | apply Kd.R_alloc | apply Kd.R_drewN | apply Kd.R_drew)); exact Kd.R_mono HO205.out (fun _ hk => ⟨hk.1.1.1, ⟨hk.1.2, hk.2⟩⟩)), (Goto.bx BK0), (by repeat (first | (with_reducible first | exact HK.out | apply Kept.alloc | apply Kept.drewN | apply Kept.drew | refine Kept.setCell ?_ (.inl (.inr rfl)) _) | exact HK.out)), (Goto.hx HB)⟩)
     rintro ⟨v201, v204⟩ w16 ⟨hS_, h0_, h1_, h2_, h3_, h4_, h5_⟩
     have n0_ : Aside0 (Kd.Q k43 43 w16 w0.heap.size (fun k_ => (P0_1_ k_ ∨ w.heap.size ≤ k_) ∧ some k_ ≠ (v201 : Value).ownBlock ∧ some k_ ≠ (v204 : Value).ownBlock) (.slice Ao10 l0_1.length co10) l0_1) := ⟨h0_⟩
     have n1_ : Aside0 (Kd.R k43 43 w16 w0.heap.size (fun k_ => (P0_1_ k_ ∨ w.heap.size ≤ k_) ∧ some k_ ≠ (.slice Ao10 l0_1.length co10 : Value).ownBlock ∧ some k_ ≠ (v204 : Value).ownBlock) v201 y200) := ⟨h1_⟩
     have n2_ : Aside0 (Kd.R k43 43 w16 w0.heap.size (fun k_ => (P0_1_ k_ ∨ w.heap.size ≤ k_) ∧ some k_ ≠ (.slice Ao10 l0_1.length co10 : Value).ownBlock ∧ some k_ ≠ (v201 : Value).ownBlock) v204 y203) := ⟨h2_⟩
     have n3_ : Aside0 (w16.heap[g]? = some (.cells #[.int .i64 a0_0, .slice Ao10 l0_1.length co10, .int .i64 (wrap64 (a0_2 + 1))] 47 (0, 0))) := ⟨h3_⟩
     have n4_ : Aside0 (Kept w w16 (fun k_ => (P0_1_ k_) ∨ k_ = g)) := ⟨h4_⟩
     have n5_ : Aside0 (Below w0.heap.size w0 w16) := ⟨h5_⟩
     clear HO0_1; clear BK0; clear HK; clear HB; clear h0_ h1_ h2_ h3_ h4_ h5_; have HO0_1 := n0_; have HO202 := n1_; have HO205 := n2_; have BK0 := n3_; have HK := n4_; have HB := n5_; clear n0_ n1_ n2_ n3_ n4_ n5_
     have hHeld : w16.cell? ⟨g, 0, none⟩ = some (.int .i64 a0_0) ∧ w16.cell? ⟨g, 1, none⟩ = some (.slice Ao10 l0_1.length co10) ∧ w16.cell? ⟨g, 2, none⟩ = some (.int .i64 (wrap64 (a0_2 + 1))) := hS_
     obtain ⟨Ao18, co18, eo18⟩ := Kd.R_slice HO205.out
     (first | subst eo18 | (injection eo18 with f1_ f2_ f3_; have f4_ := f1_.symm; have f5_ := f3_.symm; clear f1_ f2_ f3_; subst f4_; subst f5_))
     refine norm_ (a' := ?_) ?_ ?_
     rotate_left
     ·
      simp only [putAll, Act.put, List.setIfInBounds_toArray, List.set_cons_zero, List.set_cons_succ]
      rfl
     refine one_ (i := 15) (N := some 31) (Goto.bs 19 65535) rfl rfl (one_of HT_.out (by kernel_rfl)) (by decide) (fun K hK => ?_)
     refine Kd.R_append_rows_step k43 (w0 := w0) w0.heap.size (by rfl) (.tmp 21) (.tmp 30) 35 43 (.agg #[(.int .i64 0), (.int .i64 0), (.int .i64 0), (.int .i64 0)]) 32 rfl Try.underlying35 info43 rfl (by decide) (by omega) v201 y200 y203 _ _ _ (fun k_ => (P0_1_ k_ ∨ w.heap.size ≤ k_) ∧ some k_ ≠ (.slice Ao10 l0_1.length co10 : Value).ownBlock ∧ some k_ ≠ (.slice Ao18 y203.length co18 : Value).ownBlock) (fun _ => False) rfl rfl ?aO ?aR (fun _ _ h => h) (fun _ h => h.elim) ?aF ?aB ?aS ?aL ?_
     (case aR => repeat (first | exact (Kd.R_reads' HO205.out).2.2 | (with_reducible refine Kd.C_alloc ?_ _) | (with_reducible refine Kd.C_drewN ?_ _) | (with_reducible refine Kd.C_drew ?_)))
     (case aB => exact (Goto.hx HB))
     (case aF => exact (fun k_ hk => ⟨(.inr (Nat.le_trans (by first | exact HK.out.1 | exact (show Kept w _ (fun k_ => (P0_1_ k_) ∨ k_ = g) from by repeat (first | (with_reducible first | exact HK.out | apply Kept.alloc | apply Kept.drewN | apply Kept.drew | refine Kept.setCell ?_ (.inl (.inr rfl)) _) | exact HK.out)).1) hk)), Kd.fresh' (Kd.Q_lt (by (with_reducible repeat (first | apply Kd.Q_alloc | apply Kd.Q_drewN | apply Kd.Q_drew)); exact HO0_1.out)) k_ hk, Kd.fresh' (Kd.R_lt (by (with_reducible repeat (first | apply Kd.R_alloc | apply Kd.R_drewN | apply Kd.R_drew)); exact HO205.out)) k_ hk⟩))
     (case aO => exact (by (with_reducible repeat (first | apply Kd.R_alloc | apply Kd.R_drewN | apply Kd.R_drew)); exact HO202.out))
     (case aS => exact (below_size (Goto.hx HB)))
     (case aL => have := LMc6.out; omega)
     intro v207 w17 ho hb hg hat
     rw [← Ny206.out] at ho
     have n0_ := Goto.m0 (blk_grown (g := g) (o := .cells #[.int .i64 a0_0, .slice Ao10 l0_1.length co10, .int .i64 (wrap64 (a0_2 + 1))] 47 (0, 0)) (Goto.bx BK0) hg (Kd.R_ne HO202.out BK0.out (by decide)))
     have n1_ := Goto.m0 (Kd.Q_after (ok := (fun k_ => (P0_1_ k_ ∨ w.heap.size ≤ k_) ∧ some k_ ≠ (.slice Ao18 y203.length co18 : Value).ownBlock)) (by (with_reducible repeat (first | apply Kd.Q_alloc | apply Kd.Q_drewN | apply Kd.Q_drew)); exact Kd.Q_mono HO0_1.out (fun _ hk => ⟨⟨hk.1, hk.2.2⟩, hk.2.1⟩)) hg hat)
     have n2_ := Goto.m0 (Kd.R_after (ok := (fun k_ => (P0_1_ k_ ∨ w.heap.size ≤ k_) ∧ some k_ ≠ (.slice Ao10 l0_1.length co10 : Value).ownBlock)) (by (with_reducible repeat (first | apply Kd.R_alloc | apply Kd.R_drewN | apply Kd.R_drew)); exact Kd.R_mono HO205.out (fun _ hk => ⟨⟨hk.1, hk.2.1⟩, hk.2.2⟩)) hg hat)
     have n3_ := Goto.m0 (hb)
     have n4_ := Goto.m0 (Kept.of_grown (S := (fun k_ => (P0_1_ k_) ∨ k_ = g)) hg (by repeat (first | (with_reducible first | exact HK.out | apply Kept.alloc | apply Kept.drewN | apply Kept.drew | refine Kept.setCell ?_ (.inl (.inr rfl)) _) | exact HK.out)) (fun k_ e_ => Or.imp_left Or.inl ((HO202.out.1 k_ e_).1)))
     have n5_ := Goto.m0 (ho)
     clear BK0; clear HO0_1; clear HO205; clear HB; clear HK; clear HO202; have BK0 := n0_; have HO0_1 := n1_; have HO205 := n2_; have HB := n3_; have HK := n4_; have HO208 := n5_; clear n0_ n1_ n2_ n3_ n4_ n5_; clear ho hb hg hat
     obtain ⟨Ao19, co19, eo19⟩ := Kd.R_slice HO208.out
     (first | subst eo19 | (injection eo19 with f1_ f2_ f3_; have f4_ := f1_.symm; have f5_ := f3_.symm; clear f1_ f2_ f3_; subst f4_; subst f5_))
     refine hK.out _ _ ⟨(blk_cell BK0.out 0).trans rfl, (blk_cell BK0.out 1).trans rfl, (blk_cell BK0.out 2).trans rfl⟩ (fun hHeld => ?_)
     clear hK K
     refine norm_ (a' := ?_) ?_ ?_
     rotate_left
     ·
      show Act.put _ (some 31) _ = _
      exact Goto.ap
     refine pure_ (i := 16) (N := some 32) (v := ?_) (a' := ?_) (Goto.bs 19 131071) rfl rfl (any_of HT_.out (by kernel_rfl)) (fun _ _ _ h => h) (Or.inl ⟨by rfl, ?_⟩) ?_ ?_
     rotate_left
     ·
      intro w'
      go_simp
      with_reducible rfl
     rotate_left
     ·
      exact Goto.ap
     refine pure_ (i := 17) (N := some 33) (v := ?_) (a' := ?_) (Goto.bs 19 262143) rfl rfl (any_of HT_.out (by kernel_rfl)) (fun _ _ _ h => h) (Or.inl ⟨by rfl, ?_⟩) ?_ ?_
     rotate_left
     ·
      intro w'
      go_simp
      with_reducible rfl
     rotate_left
     ·
      exact Goto.ap
     refine last_ (i := 18) (N := none) (Goto.bs 19 524287) rfl rfl (one_of HT_.out (by kernel_rfl)) (by decide) (fun K hK => ?_)
     have hs20 : w17.cell? ⟨g, 1, none⟩ = some (.slice Ao10 l0_1.length co10) := (blk_cell BK0.out 1).trans rfl; have hfs20 := blk_frozen BK0.out 1
     refine skip_ (w1 := ?_) (by rfl) rfl ?_ ?_
     rotate_left
     ·
      go_simp
      rfl
     refine hK.out _ _ ?_
     clear hK K
     refine done_ (done_of HT_.out (by kernel_rfl)) ?_
     try go_wp2
     have n0_ : Aside0 (Kd.Q k43 43 (w17.setCell ⟨g, 1, none⟩ (.slice Ao19 y206.length co19)) w0.heap.size (fun k_ => (P0_1_ k_ ∨ w.heap.size ≤ k_) ∧ some k_ ≠ (.slice Ao18 y203.length co18 : Value).ownBlock ∧ some k_ ≠ (.slice Ao19 y206.length co19 : Value).ownBlock) (.slice Ao10 l0_1.length co10) l0_1) := ⟨by (with_reducible repeat (first | apply Kd.Q_alloc | apply Kd.Q_drewN | apply Kd.Q_drew)); exact Kd.Q_mono (Kd.Q_far (p := ⟨g, 1, none⟩) (Kd.Q_types HO0_1.out BK0.out (by decide)) (fun _ hk => hk.2) (.slice Ao19 y206.length co19)) (fun _ hk => ⟨hk.1.1.1, ⟨hk.1.1.2, hk.1.2⟩⟩)⟩
     have n1_ : Aside0 (Kd.R k43 43 (w17.setCell ⟨g, 1, none⟩ (.slice Ao19 y206.length co19)) w0.heap.size (fun k_ => (P0_1_ k_ ∨ w.heap.size ≤ k_) ∧ some k_ ≠ (.slice Ao10 l0_1.length co10 : Value).ownBlock ∧ some k_ ≠ (.slice Ao19 y206.length co19 : Value).ownBlock) (.slice Ao18 y203.length co18) y203) := ⟨by (with_reducible repeat (first | apply Kd.R_alloc | apply Kd.R_drewN | apply Kd.R_drew)); exact Kd.R_mono (Kd.R_far (p := ⟨g, 1, none⟩) (Kd.R_types HO205.out BK0.out (by decide)) (fun _ hk => hk.2) (.slice Ao19 y206.length co19)) (fun _ hk => ⟨hk.1.1.1, ⟨hk.1.1.2, hk.1.2⟩⟩)⟩
     have n2_ : Aside0 (Kd.R k43 43 (w17.setCell ⟨g, 1, none⟩ (.slice Ao19 y206.length co19)) w0.heap.size (fun k_ => (P0_1_ k_ ∨ w.heap.size ≤ k_) ∧ some k_ ≠ (.slice Ao10 l0_1.length co10 : Value).ownBlock ∧ some k_ ≠ (.slice Ao18 y203.length co18 : Value).ownBlock) (.slice Ao19 y206.length co19) y206) := ⟨by (with_reducible repeat (first | apply Kd.R_alloc | apply Kd.R_drewN | apply Kd.R_drew)); exact Kd.R_mono (Kd.R_far (p := ⟨g, 1, none⟩) (Kd.R_types HO208.out BK0.out (by decide)) (fun _ hk => hk.2) (.slice Ao19 y206.length co19)) (fun _ hk => ⟨hk.1.1, ⟨hk.1.2.1, hk.1.2.2⟩⟩)⟩
     have n3_ : Aside0 ((w17.setCell ⟨g, 1, none⟩ (.slice Ao19 y206.length co19)).heap[g]? = some (.cells #[.int .i64 a0_0, .slice Ao19 y206.length co19, .int .i64 (wrap64 (a0_2 + 1))] 47 (0, 0))) := ⟨Goto.bx BK0⟩
     have n4_ : Aside0 (Kept w (w17.setCell ⟨g, 1, none⟩ (.slice Ao19 y206.length co19)) (fun k_ => (P0_1_ k_) ∨ k_ = g)) := ⟨by repeat (first | (with_reducible first | exact HK.out | apply Kept.alloc | apply Kept.drewN | apply Kept.drew | refine Kept.setCell ?_ (.inl (.inr rfl)) _) | exact HK.out)⟩
     have n5_ : Aside0 (Below w0.heap.size w0 (w17.setCell ⟨g, 1, none⟩ (.slice Ao19 y206.length co19))) := ⟨Goto.hx HB⟩
     (try clear HO0_1)
     (try clear HO205)
     (try clear HO208)
     (try clear BK0)
     (try clear HK)
     (try clear HB)
     generalize (w17.setCell ⟨g, 1, none⟩ (.slice Ao19 y206.length co19)) = w21 at n0_ n1_ n2_ n3_ n4_ n5_ ⊢
     have HO0_1 := n0_; have HO205 := n1_; have HO208 := n2_; have BK0 := n3_; have HK := n4_; have HB := n5_; clear n0_ n1_ n2_ n3_ n4_ n5_
     replace HO0_1 := Goto.m0 (Kd.Q_drew HO0_1.out); replace HO205 := Goto.m0 (Kd.R_drew HO205.out); replace HO208 := Goto.m0 (Kd.R_drew HO208.out); replace BK0 := Goto.m0 (blk_drew BK0.out); replace HK := Goto.m0 (Kept.drew HK.out); replace HB := Goto.m0 (below_drew1 HB.out)
     refine start_ (n := 10) (S := fun w' => w'.cell? ⟨g, 0, none⟩ = some (.int .i64 a0_0) ∧ w'.cell? ⟨g, 1, none⟩ = some (.slice Ao19 y206.length co19) ∧ w'.cell? ⟨g, 2, none⟩ = some (.int .i64 (wrap64 (a0_2 + 1)))) (ds := []) (.replicate 10 false) (by kernel_rfl) rfl rfl ⟨(blk_cell BK0.out 0).trans rfl, (blk_cell BK0.out 1).trans rfl, (blk_cell BK0.out 2).trans rfl⟩ (fun hHeld => ?_); refine with_tabW tontineref15_Ring_Add.tab2 tontineref15_Ring_Add.bits2 (fun HT_ HW_ => ?_)
     generalize w21.drew = w22 at HO0_1 HO205 HO208 BK0 HK HB hHeld ⊢
     refine pure_ (i := 0) (N := some 34) (v := ?_) (a' := ?_) (Goto.bs 10 1) rfl rfl (any_of HT_.out (by kernel_rfl)) (fun _ _ _ h => h) (Or.inl ⟨by rfl, ?_⟩) ?_ ?_
     rotate_left
     ·
      intro w'
      go_simp
      with_reducible rfl
     rotate_left
     ·
      exact Goto.ap
     refine pure_ (i := 1) (N := some 35) (v := ?_) (a' := ?_) (Goto.bs 10 3) rfl rfl (any_of HT_.out (by kernel_rfl)) (fun _ _ _ h => h) (Or.inl ⟨by rfl, ?_⟩) ?_ ?_
     rotate_left
     ·
      intro w'
      go_simp
      with_reducible rfl
     rotate_left
     ·
      exact Goto.ap
     refine pure_ (i := 2) (N := some 36) (v := ?_) (a' := ?_) (Goto.bs 10 7) rfl rfl (any_of HT_.out (by kernel_rfl)) (fun _ _ _ h => h) (Or.inl ⟨by rfl, ?_⟩) ?_ ?_
     rotate_left
     ·
      intro w'
      go_simp
      with_reducible rfl
     rotate_left
     ·
      exact Goto.ap
     refine pure_ (i := 5) (N := some 39) (v := ?_) (a' := ?_) (Goto.bs 10 39) rfl rfl (any_of HT_.out (by kernel_rfl)) (fun _ _ _ h => h) (Or.inl ⟨by rfl, ?_⟩) ?_ ?_
     rotate_left
     ·
      intro w'
      go_simp
      with_reducible rfl
     rotate_left
     ·
      exact Goto.ap
     refine pure_ (i := 6) (N := some 40) (v := ?_) (a' := ?_) (Goto.bs 10 103) rfl rfl (any_of HT_.out (by kernel_rfl)) (fun _ _ _ h => h) (Or.inl ⟨by rfl, ?_⟩) ?_ ?_
     rotate_left
     ·
      intro w'
      go_simp
      with_reducible rfl
     rotate_left
     ·
      exact Goto.ap
     refine pure_ (i := 7) (N := some 41) (v := ?_) (a' := ?_) (Goto.bs 10 231) rfl rfl (any_of HT_.out (by kernel_rfl)) (fun _ _ _ h => h) (Or.inl ⟨by rfl, ?_⟩) ?_ ?_
     rotate_left
     ·
      intro w'
      go_simp
      with_reducible rfl
     rotate_left
     ·
      exact Goto.ap
     refine take_ (i := 3) (N := some 37) (v := ?_) (a' := ?_) (Goto.bs 10 239) rfl rfl (take_ofW HT_.out HW_.out (by kernel_rfl)) (fun _ _ _ h => h) (Or.inl ⟨by rfl, ?_⟩) hHeld ?_ ?_
     rotate_left
     ·
      rintro w' ⟨s0, s1, s2⟩
      go_simp
      with_reducible rfl
     rotate_left
     ·
      exact Goto.ap
     refine pure_ (i := 4) (N := some 38) (v := ?_) (a' := ?_) (Goto.bs 10 255) rfl rfl (any_of HT_.out (by kernel_rfl)) (fun _ _ _ h => h) (Or.inl ⟨by rfl, ?_⟩) ?_ ?_
     rotate_left
     ·
      intro w'
      go_simp
      with_reducible rfl
     rotate_left
     ·
      exact Goto.ap
     refine take_ (i := 8) (N := some 42) (v := ?_) (a' := ?_) (Goto.bs 10 511) rfl rfl (take_ofW HT_.out HW_.out (by kernel_rfl)) (fun _ _ _ h => h) (Or.inl ⟨by rfl, ?_⟩) hHeld ?_ ?_
     rotate_left
     ·
      rintro w' ⟨s0, s1, s2⟩
      go_simp
      with_reducible rfl
     rotate_left
     ·
      exact Goto.ap
     refine pure_ (i := 9) (N := some 43) (v := ?_) (a' := ?_) (Goto.bs 10 1023) rfl rfl (any_of HT_.out (by kernel_rfl)) (fun _ _ _ h => h) (Or.inl ⟨by rfl, ?_⟩) ?_ ?_
     rotate_left
     ·
      intro w'
      go_simp
      with_reducible rfl
     rotate_left
     ·
      exact Goto.ap
     refine done_ (done_of HT_.out (by kernel_rfl)) ?_
     have hcz23_0 : w22.cell? ⟨g, 0, none⟩ = some (.int .i64 a0_0) := (blk_cell BK0.out 0).trans rfl; have hcz23_1 : w22.cell? ⟨g, 1, none⟩ = some (.slice Ao19 y206.length co19) := (blk_cell BK0.out 1).trans rfl
     have hcz23_2 : w22.cell? ⟨g, 2, none⟩ = some (.int .i64 (wrap64 (a0_2 + 1))) := (blk_cell BK0.out 2).trans rfl
     have hfz23_0 := blk_frozen BK0.out 0; have hfz23_1 := blk_frozen BK0.out 1; have hfz23_2 := blk_frozen BK0.out 2
     have q24 : (1 : Int) ≤ ((y206.length : Int) : Int) := of_decide_eq_true (by first | (with_reducible assumption) | assumption)
     obtain ⟨i024, hi024, _, hsz24, _⟩ := info_parts info43
     have hcut24 := cut_from (P := Try.prog) 35 43 .i64 Try.underlying35 hi024 4 hsz24 Ao19 y206.length co19 1 (by omega) q24
     have hr24 := Kd.Q_drop (k := (1 : Int).toNat) (Kd.Q_of_R HO208.out) (by omega)
     obtain ⟨A24, hA24⟩ : ∃ A1, A1 = (if co19 = (1 : Int).toNat then Ao19 else (Ao19 : Option Addr).map (·.add ((1 : Int).toNat * 4))) := ⟨_, rfl⟩
     obtain ⟨c24, hc24⟩ : ∃ c1, c1 = co19 - (1 : Int).toNat := ⟨_, rfl⟩
     have hy24 : y209.length = y206.length - (1 : Int).toNat := (by rw [Ny209.out, List.length_drop])
     rw [← Ny209.out] at hr24
     rw [← hy24, ← hA24, ← hc24] at hcut24
     replace hr24 : Kd.Q k43 43 w22 w0.heap.size (fun k_ => (P0_1_ k_ ∨ w.heap.size ≤ k_) ∧ some k_ ≠ (.slice Ao10 l0_1.length co10 : Value).ownBlock ∧ some k_ ≠ (.slice Ao18 y203.length co18 : Value).ownBlock) (.slice A24 y209.length c24) y209 := (by rw [hA24, hc24, hy24]; exact hr24)
     have HE24 : Aside0 ((Value.slice A24 y209.length c24).ownBlock = (.slice Ao19 y206.length co19 : Value).ownBlock) := ⟨by rw [hA24]; split <;> (cases (Ao19 : Option Addr) <;> rfl)⟩
     clear hy24 hi024 hsz24 HO208 hA24 hc24
     have HO211 := Goto.m0 hr24
     clear hr24; replace q24 := eq_true q24
     have n_ := Goto.m0 (Kd.Q_mono (ok' := fun k_ => (((P0_1_ k_ ∨ w.heap.size ≤ k_)) ∧ (some k_ ≠ (.slice Ao18 y203.length co18 : Value).ownBlock ∧ some k_ ≠ (.slice A24 y209.length c24 : Value).ownBlock))) HO0_1.out (fun k_ hk => ⟨hk.1, ⟨hk.2.1, (by rw [HE24.out]; exact hk.2.2)⟩⟩))
     clear HO0_1; have HO0_1 := n_; clear n_
     have n_ := Goto.m0 (Kd.R_mono (ok' := fun k_ => (((P0_1_ k_ ∨ w.heap.size ≤ k_)) ∧ (some k_ ≠ (.slice Ao10 l0_1.length co10 : Value).ownBlock ∧ some k_ ≠ (.slice A24 y209.length c24 : Value).ownBlock))) HO205.out (fun k_ hk => ⟨hk.1, ⟨hk.2.1, (by rw [HE24.out]; exact hk.2.2)⟩⟩))
     clear HO205; have HO205 := n_; clear n_
     try go_wp2
     first | go_end0 | ((try simp only [Exit.inBlock, Exit.then]); refine bodyPost_ret (results_none rfl _ _ _) rfl ?_)
     (try simp only [← exists_and_left])
     exact ⟨_, by first | rfl | (simp [errW_none, errW_some] <;> rfl) | (simp [*, errW_none, errW_some] <;> rfl), by (with_reducible repeat (first | apply Kd.Q_alloc | apply Kd.Q_drewN | apply Kd.Q_drew)); exact Kd.Q_mono (Kd.Q_far (p := ⟨g, 1, none⟩) (Kd.Q_types HO211.out BK0.out (by decide)) (fun _ hk => hk.2) (.slice A24 y209.length c24)) (fun _ hk => hk.1.1), by (with_reducible repeat first | refine blk_drewN ?_ _ | refine blk_drew ?_ | refine blk_alloc ?_ _); refine blk_put (cs := #[.int .i64 a0_0, .slice Ao19 y206.length co19, .int .i64 (wrap64 (a0_2 + 1))]) ?_ 1 _ rfl; (with_reducible repeat first | refine blk_drewN ?_ _ | refine blk_drew ?_ | refine blk_alloc ?_ _); exact BK0.out, by repeat (first | (with_reducible first | exact HB.out | apply below_alloc | apply pw_below_drewN | apply below_drew1 | refine below_set ?_ GE0.out) | exact HB.out), by repeat (first | (with_reducible first | exact HK.out | apply Kept.alloc | apply Kept.drewN | apply Kept.drew | refine Kept.setCell ?_ (.inl (.inr rfl)) _) | exact HK.out)⟩
    ·
     rw [if_neg c8] at H
     exact absurd H (by simp)
   ·
    rw [if_neg c7] at H
    have c7b0 : decide (a0_0 < (y206.length : Int)) = false := decide_eq_false c7
    clear c7
    simp only [Option.some.injEq, Prod.mk.injEq] at H
    obtain ⟨rfl, rfl, rfl⟩ := H
    have hcz25_0 : w.cell? ⟨g, 0, none⟩ = some (.int .i64 a0_0) := (blk_cell BK0.out 0).trans rfl; have hcz25_1 : w.cell? ⟨g, 1, none⟩ = some (u9000_) := (blk_cell BK0.out 1).trans rfl; have hcz25_2 : w.cell? ⟨g, 2, none⟩ = some (.int .i64 a0_2) := (blk_cell BK0.out 2).trans rfl; have hfz25_0 := blk_frozen BK0.out 0; have hfz25_1 := blk_frozen BK0.out 1; have hfz25_2 := blk_frozen BK0.out 2
    obtain ⟨Ao26, co26, eo26, _⟩ := Kd.Q_slice HO0_1.out
    subst eo26
    go_enter Try.func30, Try.ntmps30
    try go_wp2
    have n0_ : Aside0 (Kd.Q k43 43 (w.setCell ⟨g, 2, none⟩ (.int .i64 (wrap64 (a0_2 + 1)))) w0.heap.size (fun k_ => (P0_1_ k_ ∨ w.heap.size ≤ k_)) (.slice Ao26 l0_1.length co26) l0_1) := ⟨by (with_reducible repeat (first | apply Kd.Q_alloc | apply Kd.Q_drewN | apply Kd.Q_drew)); exact Kd.Q_mono (Kd.Q_far (p := ⟨g, 2, none⟩) (Kd.Q_types HO0_1.out BK0.out (by decide)) (fun _ hk => hk.2) (.int .i64 (wrap64 (a0_2 + 1)))) (fun _ hk => hk.1)⟩
    have n1_ : Aside0 ((w.setCell ⟨g, 2, none⟩ (.int .i64 (wrap64 (a0_2 + 1)))).heap[g]? = some (.cells #[.int .i64 a0_0, .slice Ao26 l0_1.length co26, .int .i64 (wrap64 (a0_2 + 1))] 47 (0, 0))) := ⟨Goto.bx BK0⟩
    have n2_ : Aside0 (Kept w (w.setCell ⟨g, 2, none⟩ (.int .i64 (wrap64 (a0_2 + 1)))) (fun k_ => (P0_1_ k_) ∨ k_ = g)) := ⟨by repeat (first | (with_reducible first | exact HK.out | apply Kept.alloc | apply Kept.drewN | apply Kept.drew | refine Kept.setCell ?_ (.inl (.inr rfl)) _) | exact HK.out)⟩
    have n3_ : Aside0 (Below w0.heap.size w0 (w.setCell ⟨g, 2, none⟩ (.int .i64 (wrap64 (a0_2 + 1))))) := ⟨Goto.hx HB⟩
    (try clear HO0_1)
    (try clear BK0)
    (try clear HK)
    (try clear HB)
    generalize (w.setCell ⟨g, 2, none⟩ (.int .i64 (wrap64 (a0_2 + 1)))) = w27 at n0_ n1_ n2_ n3_ ⊢
    have HO0_1 := n0_; have BK0 := n1_; have HK := n2_; have HB := n3_; clear n0_ n1_ n2_ n3_
    replace HO0_1 := Goto.m0 (Kd.Q_drew HO0_1.out); replace BK0 := Goto.m0 (blk_drew BK0.out); replace HK := Goto.m0 (Kept.drew HK.out); replace HB := Goto.m0 (below_drew1 HB.out)
    refine start_ (n := 19) (S := fun w' => w'.cell? ⟨g, 0, none⟩ = some (.int .i64 a0_0) ∧ w'.cell? ⟨g, 1, none⟩ = some (.slice Ao26 l0_1.length co26) ∧ w'.cell? ⟨g, 2, none⟩ = some (.int .i64 (wrap64 (a0_2 + 1)))) (ds := [18]) (.replicate 19 false) (by kernel_rfl) rfl rfl ⟨(blk_cell BK0.out 0).trans rfl, (blk_cell BK0.out 1).trans rfl, (blk_cell BK0.out 2).trans rfl⟩ (fun hHeld => ?_); refine with_tabW tontineref15_Ring_Add.tab1 tontineref15_Ring_Add.bits1 (fun HT_ HW_ => ?_)
    generalize w27.drew = w28 at HO0_1 BK0 HK HB hHeld ⊢
    refine pure_ (i := 0) (N := some 16) (v := ?_) (a' := ?_) (Goto.bs 19 1) rfl rfl (any_of HT_.out (by kernel_rfl)) (fun _ _ _ h => h) (Or.inl ⟨by rfl, ?_⟩) ?_ ?_
    rotate_left
    ·
     intro w'
     go_simp
     with_reducible rfl
    rotate_left
    ·
     exact Goto.ap
    refine pure_ (i := 1) (N := some 17) (v := ?_) (a' := ?_) (Goto.bs 19 3) rfl rfl (any_of HT_.out (by kernel_rfl)) (fun _ _ _ h => h) (Or.inl ⟨by rfl, ?_⟩) ?_ ?_
    rotate_left
    ·
     intro w'
     go_simp
     with_reducible rfl
    rotate_left
    ·
     exact Goto.ap
    refine pure_ (i := 2) (N := some 18) (v := ?_) (a' := ?_) (Goto.bs 19 7) rfl rfl (any_of HT_.out (by kernel_rfl)) (fun _ _ _ h => h) (Or.inl ⟨by rfl, ?_⟩) ?_ ?_
    rotate_left
    ·
     intro w'
     go_simp
     with_reducible rfl
    rotate_left
    ·
     exact Goto.ap
    refine pure_ (i := 3) (N := some 19) (v := ?_) (a' := ?_) (Goto.bs 19 15) rfl rfl (any_of HT_.out (by kernel_rfl)) (fun _ _ _ h => h) (Or.inl ⟨by rfl, ?_⟩) ?_ ?_
    rotate_left
    ·
     intro w'
     go_simp
     with_reducible rfl
    rotate_left
    ·
     exact Goto.ap
    refine pure_ (i := 6) (N := some 22) (v := ?_) (a' := ?_) (Goto.bs 19 79) rfl rfl (any_of HT_.out (by kernel_rfl)) (fun _ _ _ h => h) (Or.inl ⟨by rfl, ?_⟩) ?_ ?_
    rotate_left
    ·
     intro w'
     go_simp
     with_reducible rfl
    rotate_left
    ·
     exact Goto.ap
    refine pure_ (i := 7) (N := some 23) (v := ?_) (a' := ?_) (Goto.bs 19 207) rfl rfl (any_of HT_.out (by kernel_rfl)) (fun _ _ _ h => h) (Or.inl ⟨by rfl, ?_⟩) ?_ ?_
    rotate_left
    ·
     intro w'
     go_simp
     with_reducible rfl
    rotate_left
    ·
     exact Goto.ap
    refine pure_ (i := 8) (N := some 24) (v := ?_) (a' := ?_) (Goto.bs 19 463) rfl rfl (any_of HT_.out (by kernel_rfl)) (fun _ _ _ h => h) (Or.inl ⟨by rfl, ?_⟩) ?_ ?_
    rotate_left
    ·
     intro w'
     go_simp
     with_reducible rfl
    rotate_left
    ·
     exact Goto.ap
    refine pure_ (i := 10) (N := some 26) (v := ?_) (a' := ?_) (Goto.bs 19 1487) rfl rfl (any_of HT_.out (by kernel_rfl)) (fun _ _ _ h => h) (Or.inl ⟨by rfl, ?_⟩) ?_ ?_
    rotate_left
    ·
     intro w'
     go_simp
     with_reducible rfl
    rotate_left
    ·
     exact Goto.ap
    refine pure_ (i := 11) (N := some 27) (v := ?_) (a' := ?_) (Goto.bs 19 3535) rfl rfl (any_of HT_.out (by kernel_rfl)) (fun _ _ _ h => h) (Or.inl ⟨by rfl, ?_⟩) ?_ ?_
    rotate_left
    ·
     intro w'
     go_simp
     with_reducible rfl
    rotate_left
    ·
     exact Goto.ap
    refine pure_ (i := 12) (N := some 28) (v := ?_) (a' := ?_) (Goto.bs 19 7631) rfl rfl (any_of HT_.out (by kernel_rfl)) (fun _ _ _ h => h) (Or.inl ⟨by rfl, ?_⟩) ?_ ?_
    rotate_left
    ·
     intro w'
     go_simp
     with_reducible rfl
    rotate_left
    ·
     exact Goto.ap
    refine take_ (i := 4) (N := some 20) (v := ?_) (a' := ?_) (Goto.bs 19 7647) rfl rfl (take_ofW HT_.out HW_.out (by kernel_rfl)) (fun _ _ _ h => h) (Or.inl ⟨by rfl, ?_⟩) hHeld ?_ ?_
    rotate_left
    ·
     rintro w' ⟨s0, s1, s2⟩
     go_simp
     with_reducible rfl
    rotate_left
    ·
     exact Goto.ap
    refine take_ (i := 9) (N := some 25) (v := ?_) (a' := ?_) (Goto.bs 19 8159) rfl rfl (take_ofW HT_.out HW_.out (by kernel_rfl)) (fun _ _ _ h => h) (Or.inl ⟨by rfl, ?_⟩) hHeld ?_ ?_
    rotate_left
    ·
     rintro w' ⟨s0, s1, s2⟩
     go_simp
     with_reducible rfl
    rotate_left
    ·
     exact Goto.ap
    refine pure_ (i := 13) (N := some 29) (v := ?_) (a' := ?_) (Goto.bs 19 16351) rfl rfl (any_of HT_.out (by kernel_rfl)) (fun _ _ _ h => h) (Or.inl ⟨by rfl, ?_⟩) ?_ ?_
    rotate_left
    ·
     intro w'
     go_simp
     with_reducible rfl
    rotate_left
    ·
     exact Goto.ap
    refine join_ (σ := Value × Value) 4 (Goto.bs 19 32767) (fun s_ => [(21, s_.1), (30, s_.2)]) (fun s_ w' => (w'.cell? ⟨g, 0, none⟩ = some (.int .i64 a0_0) ∧ w'.cell? ⟨g, 1, none⟩ = some (.slice Ao26 l0_1.length co26) ∧ w'.cell? ⟨g, 2, none⟩ = some (.int .i64 (wrap64 (a0_2 + 1)))) ∧ (Kd.Q k43 43 w' w0.heap.size (fun k_ => (P0_1_ k_ ∨ w.heap.size ≤ k_) ∧ some k_ ≠ (s_.1 : Value).ownBlock ∧ some k_ ≠ (s_.2 : Value).ownBlock) (.slice Ao26 l0_1.length co26) l0_1) ∧ (Kd.R k43 43 w' w0.heap.size (fun k_ => (P0_1_ k_ ∨ w.heap.size ≤ k_) ∧ some k_ ≠ (.slice Ao26 l0_1.length co26 : Value).ownBlock ∧ some k_ ≠ (s_.2 : Value).ownBlock) s_.1 y200) ∧ (Kd.R k43 43 w' w0.heap.size (fun k_ => (P0_1_ k_ ∨ w.heap.size ≤ k_) ∧ some k_ ≠ (.slice Ao26 l0_1.length co26 : Value).ownBlock ∧ some k_ ≠ (s_.1 : Value).ownBlock) s_.2 y203) ∧ (w'.heap[g]? = some (.cells #[.int .i64 a0_0, .slice Ao26 l0_1.length co26, .int .i64 (wrap64 (a0_2 + 1))] 47 (0, 0))) ∧ (Kept w w' (fun k_ => (P0_1_ k_) ∨ k_ = g)) ∧ (Below w0.heap.size w0 w')) ?_ ?_
    rotate_left
    ·
     intro hCont
     refine two_ (i := 5) (j := 14) (Ni := some 21) (Nj := some 30) (Goto.bs 19 16383) (Goto.bs 19 32735) rfl rfl rfl rfl (two_of HT_.out (by kernel_rfl)) (by decide) (by decide) (fun K hK => ?_) (fun K hK => ?_)
     ·
      skip
      refine Kd.R_append_rows_step k43 (w0 := w0) w0.heap.size rfl (.const (.slice none 0 0)) (.tmp 20) 35 43 (.agg #[(.int .i64 0), (.int .i64 0), (.int .i64 0), (.int .i64 0)]) 32 rfl Try.underlying35 info43 rfl (by decide) (by omega) (.slice none 0 0) ([] : List (S43)) l0_1 _ _ _ (fun k_ => (P0_1_ k_ ∨ w.heap.size ≤ k_) ∧ some k_ ≠ (.slice Ao26 l0_1.length co26 : Value).ownBlock) (fun _ => False) rfl rfl ?aO ?aR (fun _ _ h => h) (fun _ h => h.elim) ?aF ?aB ?aS ?aL ?_
      (case aR => repeat (first | exact (Kd.Q_reads' HO0_1.out).2.2 | (with_reducible refine Kd.C_alloc ?_ _) | (with_reducible refine Kd.C_drewN ?_ _) | (with_reducible refine Kd.C_drew ?_)))
      (case aB => exact (Goto.hx HB))
      (case aF => exact (fun k_ hk => ⟨(.inr (Nat.le_trans (by first | exact HK.out.1 | exact (show Kept w _ (fun k_ => (P0_1_ k_) ∨ k_ = g) from by repeat (first | (with_reducible first | exact HK.out | apply Kept.alloc | apply Kept.drewN | apply Kept.drew | refine Kept.setCell ?_ (.inl (.inr rfl)) _) | exact HK.out)).1) hk)), Kd.fresh' (Kd.Q_lt (by (with_reducible repeat (first | apply Kd.Q_alloc | apply Kd.Q_drewN | apply Kd.Q_drew)); exact HO0_1.out)) k_ hk⟩))
      (case aO => exact ((Kd.R_nil _ _ _ _ (fun k_ => (P0_1_ k_ ∨ w.heap.size ≤ k_) ∧ some k_ ≠ (.slice Ao26 l0_1.length co26 : Value).ownBlock))))
      (case aS => exact (below_size (Goto.hx HB)))
      (case aL => have := LMc5.out; omega)
      intro v201 w29 ho hb hg hat
      rw [← Ny200.out] at ho
      have HO202 := Goto.m0 (ho); replace BK0 := Goto.m0 (blk_grown (g := g) (o := .cells #[.int .i64 a0_0, .slice Ao26 l0_1.length co26, .int .i64 (wrap64 (a0_2 + 1))] 47 (0, 0)) (Goto.bx BK0) hg (by simp [Value.ownBlock])); replace HO0_1 := Goto.m0 (Kd.Q_after (Kd.Q_apart_nil (by (with_reducible repeat (first | apply Kd.Q_alloc | apply Kd.Q_drewN | apply Kd.Q_drew)); exact HO0_1.out)) hg hat); replace HB := Goto.m0 (hb); replace HK := Goto.m0 (Kept.of_grown (S := (fun k_ => (P0_1_ k_) ∨ k_ = g)) hg (by repeat (first | (with_reducible first | exact HK.out | apply Kept.alloc | apply Kept.drewN | apply Kept.drew | refine Kept.setCell ?_ (.inl (.inr rfl)) _) | exact HK.out)) (fun k_ e_ => by simp [Value.ownBlock] at e_)); clear ho hb hg hat
      refine hK.out _ _ ⟨(blk_cell BK0.out 0).trans rfl, (blk_cell BK0.out 1).trans rfl, (blk_cell BK0.out 2).trans rfl⟩ (fun hHeld => ?_)
      clear hK K
      refine norm_ (a' := ?_) ?_ ?_
      rotate_left
      ·
       show Act.put _ (some 21) _ = _
       exact Goto.ap
      refine one_ (i := 14) (N := some 30) (Goto.bs 19 32767) rfl rfl (one_of HT_.out (by kernel_rfl)) (by decide) (fun K hK => ?_)
      refine Kd.R_lit_step k43 _ 43 ?hg (N := 30) ?hd (xs := ([(⟨wrap64 (a0_2 + 1), a1, a2, a3⟩ : S43)] : List (S43))) (inner := [.int .i64 (wrap64 (a0_2 + 1)), .int .i64 a1, .int .i64 a2, .int .i64 a3]) (ok := fun _ => True) (okp := fun _ => True) ?hr ?hp (fun _ hk => hk) trivial (Below.refl _ _) (Nat.le_refl _) (by simp) ?_; (case hd => rfl); (case hg => rfl); (case hr => first | (go_simp; done) | (go_simp; rfl)); (case hp => exact (Reps.c4 (show Kd.M k43 _ _ _ (⟨wrap64 (a0_2 + 1), a1, a2, a3⟩ : S43) [.int .i64 (wrap64 (a0_2 + 1)), .int .i64 a1, .int .i64 a2, .int .i64 a3] from (k43_mkM _ _ _ (⟨wrap64 (a0_2 + 1), a1, a2, a3⟩ : S43) )) (Reps.none _ _)))
      intro v204 w30 ho31 hb hg_ hnew_
      clear hg_ hnew_
      (first | rw [← Ny203.out] at ho31 | (simp only [Int.reduceToNat] at ho31; rw [← Ny203.out] at ho31))
      have HO205 := Goto.m0 (Kd.R_lower (Kd.R_new' (Kd.R_new' (Kd.R_newM (M := fun k_ => (P0_1_ k_ ∨ w.heap.size ≤ k_)) ho31 (by first | exact HK.out.1 | exact (show Kept w _ (fun k_ => (P0_1_ k_) ∨ k_ = g) from by repeat (first | (with_reducible first | exact HK.out | apply Kept.alloc | apply Kept.drewN | apply Kept.drew | refine Kept.setCell ?_ (.inl (.inr rfl)) _) | exact HK.out)).1) (fun k_ h_ => .inr h_)) (Kd.Q_lt (by (with_reducible repeat (first | apply Kd.Q_alloc | apply Kd.Q_drewN | apply Kd.Q_drew)); exact HO0_1.out))) (Kd.R_lt (by (with_reducible repeat (first | apply Kd.R_alloc | apply Kd.R_drewN | apply Kd.R_drew)); exact HO202.out))) (below_size (Goto.hx HB))); replace HO0_1 := Goto.m0 (Kd.Q_elder' (by (with_reducible repeat (first | apply Kd.Q_alloc | apply Kd.Q_drewN | apply Kd.Q_drew)); exact HO0_1.out) (Kd.R_base ho31) hb); replace HO202 := Goto.m0 (Kd.R_elder' (by (with_reducible repeat (first | apply Kd.R_alloc | apply Kd.R_drewN | apply Kd.R_drew)); exact HO202.out) (Kd.R_base ho31) hb); replace BK0 := Goto.bb BK0 hb; replace HK := Goto.m0 (Kept.below (S := (fun k_ => (P0_1_ k_) ∨ k_ = g)) (by repeat (first | (with_reducible first | exact HK.out | apply Kept.alloc | apply Kept.drewN | apply Kept.drew | refine Kept.setCell ?_ (.inl (.inr rfl)) _) | exact HK.out)) hb); replace HB := Goto.hs HB hb; clear hb ho31
      refine hK.out _ _ ⟨(blk_cell BK0.out 0).trans rfl, (blk_cell BK0.out 1).trans rfl, (blk_cell BK0.out 2).trans rfl⟩ (fun hHeld => ?_)
      clear hK K
      refine norm_ (a' := ?_) ?_ ?_
      rotate_left
      ·
       show Act.put _ (some 30) _ = _
       exact Goto.ap
      exact norm_ (by simp only [putAll, Act.put, List.setIfInBounds_toArray, List.set_cons_zero, List.set_cons_succ]) (hCont (v201, v204) _ ⟨hHeld, (by (with_reducible repeat (first | apply Kd.Q_alloc | apply Kd.Q_drewN | apply Kd.Q_drew)); exact Kd.Q_mono HO0_1.out (fun _ hk => ⟨hk.1.1, ⟨hk.1.2, hk.2⟩⟩)), (by (with_reducible repeat (first | apply Kd.R_alloc | apply Kd.R_drewN | apply Kd.R_drew)); exact Kd.R_mono HO202.out (fun _ hk => ⟨hk.1.1, ⟨hk.1.2, hk.2⟩⟩)), (by (with_reducible repeat (first | apply Kd.R_alloc | apply Kd.R_drewN | apply Kd.R_drew)); exact Kd.R_mono HO205.out (fun _ hk => ⟨hk.1.1.1, ⟨hk.1.2, hk.2⟩⟩)), (Goto.bx BK0), (by repeat (first | (with_reducible first | exact HK.out | apply Kept.alloc | apply Kept.drewN | apply Kept.drew | refine Kept.setCell ?_ (.inl (.inr rfl)) _) | exact HK.out)), (Goto.hx HB)⟩)
     ·
      skip
      refine Kd.R_lit_step k43 _ 43 ?hg (N := 30) ?hd (xs := ([(⟨wrap64 (a0_2 + 1), a1, a2, a3⟩ : S43)] : List (S43))) (inner := [.int .i64 (wrap64 (a0_2 + 1)), .int .i64 a1, .int .i64 a2, .int .i64 a3]) (ok := fun _ => True) (okp := fun _ => True) ?hr ?hp (fun _ hk => hk) trivial (Below.refl _ _) (Nat.le_refl _) (by simp) ?_; (case hd => rfl); (case hg => rfl); (case hr => first | (go_simp; done) | (go_simp; rfl)); (case hp => exact (Reps.c4 (show Kd.M k43 _ _ _ (⟨wrap64 (a0_2 + 1), a1, a2, a3⟩ : S43) [.int .i64 (wrap64 (a0_2 + 1)), .int .i64 a1, .int .i64 a2, .int .i64 a3] from (k43_mkM _ _ _ (⟨wrap64 (a0_2 + 1), a1, a2, a3⟩ : S43) )) (Reps.none _ _)))
      intro v204 w29 ho30 hb hg_ hnew_
      clear hg_ hnew_
      (first | rw [← Ny203.out] at ho30 | (simp only [Int.reduceToNat] at ho30; rw [← Ny203.out] at ho30))
      have HO205 := Goto.m0 (Kd.R_lower (Kd.R_new' (Kd.R_newM (M := fun k_ => (P0_1_ k_ ∨ w.heap.size ≤ k_)) ho30 (by first | exact HK.out.1 | exact (show Kept w _ (fun k_ => (P0_1_ k_) ∨ k_ = g) from by repeat (first | (with_reducible first | exact HK.out | apply Kept.alloc | apply Kept.drewN | apply Kept.drew | refine Kept.setCell ?_ (.inl (.inr rfl)) _) | exact HK.out)).1) (fun k_ h_ => .inr h_)) (Kd.Q_lt (by (with_reducible repeat (first | apply Kd.Q_alloc | apply Kd.Q_drewN | apply Kd.Q_drew)); exact HO0_1.out))) (below_size (Goto.hx HB))); replace HO0_1 := Goto.m0 (Kd.Q_elder' (by (with_reducible repeat (first | apply Kd.Q_alloc | apply Kd.Q_drewN | apply Kd.Q_drew)); exact HO0_1.out) (Kd.R_base ho30) hb); replace BK0 := Goto.bb BK0 hb; replace HK := Goto.m0 (Kept.below (S := (fun k_ => (P0_1_ k_) ∨ k_ = g)) (by repeat (first | (with_reducible first | exact HK.out | apply Kept.alloc | apply Kept.drewN | apply Kept.drew | refine Kept.setCell ?_ (.inl (.inr rfl)) _) | exact HK.out)) hb); replace HB := Goto.hs HB hb; clear hb ho30
      refine hK.out _ _ ⟨(blk_cell BK0.out 0).trans rfl, (blk_cell BK0.out 1).trans rfl, (blk_cell BK0.out 2).trans rfl⟩ (fun hHeld => ?_)
      clear hK K
      refine norm_ (a' := ?_) ?_ ?_
      rotate_left
      ·
       show Act.put _ (some 30) _ = _
       exact Goto.ap
      refine one_ (i := 5) (N := some 21) (Goto.bs 19 32767) rfl rfl (one_of HT_.out (by kernel_rfl)) (by decide) (fun K hK => ?_)
      refine Kd.R_append_rows_step k43 (w0 := w0) w0.heap.size rfl (.const (.slice none 0 0)) (.tmp 20) 35 43 (.agg #[(.int .i64 0), (.int .i64 0), (.int .i64 0), (.int .i64 0)]) 32 rfl Try.underlying35 info43 rfl (by decide) (by omega) (.slice none 0 0) ([] : List (S43)) l0_1 _ _ _ (fun k_ => (P0_1_ k_ ∨ w.heap.size ≤ k_) ∧ some k_ ≠ (.slice Ao26 l0_1.length co26 : Value).ownBlock ∧ some k_ ≠ (v204 : Value).ownBlock) (fun _ => False) rfl rfl ?aO ?aR (fun _ _ h => h) (fun _ h => h.elim) ?aF ?aB ?aS ?aL ?_
      (case aR => repeat (first | exact (Kd.Q_reads' HO0_1.out).2.2 | (with_reducible refine Kd.C_alloc ?_ _) | (with_reducible refine Kd.C_drewN ?_ _) | (with_reducible refine Kd.C_drew ?_)))
      (case aB => exact (Goto.hx HB))
      (case aF => exact (fun k_ hk => ⟨(.inr (Nat.le_trans (by first | exact HK.out.1 | exact (show Kept w _ (fun k_ => (P0_1_ k_) ∨ k_ = g) from by repeat (first | (with_reducible first | exact HK.out | apply Kept.alloc | apply Kept.drewN | apply Kept.drew | refine Kept.setCell ?_ (.inl (.inr rfl)) _) | exact HK.out)).1) hk)), Kd.fresh' (Kd.Q_lt (by (with_reducible repeat (first | apply Kd.Q_alloc | apply Kd.Q_drewN | apply Kd.Q_drew)); exact HO0_1.out)) k_ hk, Kd.fresh' (Kd.R_lt (by (with_reducible repeat (first | apply Kd.R_alloc | apply Kd.R_drewN | apply Kd.R_drew)); exact HO205.out)) k_ hk⟩))
      (case aO => exact ((Kd.R_nil _ _ _ _ (fun k_ => (P0_1_ k_ ∨ w.heap.size ≤ k_) ∧ some k_ ≠ (.slice Ao26 l0_1.length co26 : Value).ownBlock ∧ some k_ ≠ (v204 : Value).ownBlock))))
      (case aS => exact (below_size (Goto.hx HB)))
      (case aL => have := LMc5.out; omega)
      intro v201 w31 ho hb hg hat
      rw [← Ny200.out] at ho
      have HO202 := Goto.m0 (ho); replace BK0 := Goto.m0 (blk_grown (g := g) (o := .cells #[.int .i64 a0_0, .slice Ao26 l0_1.length co26, .int .i64 (wrap64 (a0_2 + 1))] 47 (0, 0)) (Goto.bx BK0) hg (by simp [Value.ownBlock])); replace HO0_1 := Goto.m0 (Kd.Q_after (Kd.Q_apart_nil (by (with_reducible repeat (first | apply Kd.Q_alloc | apply Kd.Q_drewN | apply Kd.Q_drew)); exact HO0_1.out)) hg hat); replace HO205 := Goto.m0 (Kd.R_after (Kd.R_apart_nil (by (with_reducible repeat (first | apply Kd.R_alloc | apply Kd.R_drewN | apply Kd.R_drew)); exact HO205.out)) hg hat); replace HB := Goto.m0 (hb); replace HK := Goto.m0 (Kept.of_grown (S := (fun k_ => (P0_1_ k_) ∨ k_ = g)) hg (by repeat (first | (with_reducible first | exact HK.out | apply Kept.alloc | apply Kept.drewN | apply Kept.drew | refine Kept.setCell ?_ (.inl (.inr rfl)) _) | exact HK.out)) (fun k_ e_ => by simp [Value.ownBlock] at e_)); clear ho hb hg hat
      refine hK.out _ _ ⟨(blk_cell BK0.out 0).trans rfl, (blk_cell BK0.out 1).trans rfl, (blk_cell BK0.out 2).trans rfl⟩ (fun hHeld => ?_)
      clear hK K
      refine norm_ (a' := ?_) ?_ ?_
      rotate_left
      ·
       show Act.put _ (some 21) _ = _
       exact Goto.ap
      exact norm_ (by simp only [putAll, Act.put, List.setIfInBounds_toArray, List.set_cons_zero, List.set_cons_succ]) (hCont (v201, v204) _ ⟨hHeld, (by (with_reducible repeat (first | apply Kd.Q_alloc | apply Kd.Q_drewN | apply Kd.Q_drew)); exact Kd.Q_mono HO0_1.out (fun _ hk => ⟨hk.1.1, ⟨hk.2, hk.1.2⟩⟩)), (by (with_reducible repeat (first | apply Kd.R_alloc | apply Kd.R_drewN | apply Kd.R_drew)); exact HO202.out), (by (with_reducible repeat (first | apply Kd.R_alloc | apply Kd.R_drewN | apply Kd.R_drew)); exact Kd.R_mono HO205.out (fun _ hk => ⟨hk.1.1.1, ⟨hk.1.2, hk.2⟩⟩)), (Goto.bx BK0), (by repeat (first | (with_reducible first | exact HK.out | apply Kept.alloc | apply Kept.drewN | apply Kept.drew | refine Kept.setCell ?_ (.inl (.inr rfl)) _) | exact HK.out)), (Goto.hx HB)⟩)
    rintro ⟨v201, v204⟩ w32 ⟨hS_, h0_, h1_, h2_, h3_, h4_, h5_⟩
    have n0_ : Aside0 (Kd.Q k43 43 w32 w0.heap.size (fun k_ => (P0_1_ k_ ∨ w.heap.size ≤ k_) ∧ some k_ ≠ (v201 : Value).ownBlock ∧ some k_ ≠ (v204 : Value).ownBlock) (.slice Ao26 l0_1.length co26) l0_1) := ⟨h0_⟩
    have n1_ : Aside0 (Kd.R k43 43 w32 w0.heap.size (fun k_ => (P0_1_ k_ ∨ w.heap.size ≤ k_) ∧ some k_ ≠ (.slice Ao26 l0_1.length co26 : Value).ownBlock ∧ some k_ ≠ (v204 : Value).ownBlock) v201 y200) := ⟨h1_⟩
    have n2_ : Aside0 (Kd.R k43 43 w32 w0.heap.size (fun k_ => (P0_1_ k_ ∨ w.heap.size ≤ k_) ∧ some k_ ≠ (.slice Ao26 l0_1.length co26 : Value).ownBlock ∧ some k_ ≠ (v201 : Value).ownBlock) v204 y203) := ⟨h2_⟩
    have n3_ : Aside0 (w32.heap[g]? = some (.cells #[.int .i64 a0_0, .slice Ao26 l0_1.length co26, .int .i64 (wrap64 (a0_2 + 1))] 47 (0, 0))) := ⟨h3_⟩
    have n4_ : Aside0 (Kept w w32 (fun k_ => (P0_1_ k_) ∨ k_ = g)) := ⟨h4_⟩
    have n5_ : Aside0 (Below w0.heap.size w0 w32) := ⟨h5_⟩
    clear HO0_1; clear BK0; clear HK; clear HB; clear h0_ h1_ h2_ h3_ h4_ h5_; have HO0_1 := n0_; have HO202 := n1_; have HO205 := n2_; have BK0 := n3_; have HK := n4_; have HB := n5_; clear n0_ n1_ n2_ n3_ n4_ n5_
    have hHeld : w32.cell? ⟨g, 0, none⟩ = some (.int .i64 a0_0) ∧ w32.cell? ⟨g, 1, none⟩ = some (.slice Ao26 l0_1.length co26) ∧ w32.cell? ⟨g, 2, none⟩ = some (.int .i64 (wrap64 (a0_2 + 1))) := hS_
    obtain ⟨Ao34, co34, eo34⟩ := Kd.R_slice HO205.out
    (first | subst eo34 | (injection eo34 with f1_ f2_ f3_; have f4_ := f1_.symm; have f5_ := f3_.symm; clear f1_ f2_ f3_; subst f4_; subst f5_))
    refine norm_ (a' := ?_) ?_ ?_
    rotate_left
    ·
     simp only [putAll, Act.put, List.setIfInBounds_toArray, List.set_cons_zero, List.set_cons_succ]
     rfl
    refine one_ (i := 15) (N := some 31) (Goto.bs 19 65535) rfl rfl (one_of HT_.out (by kernel_rfl)) (by decide) (fun K hK => ?_)
    refine Kd.R_append_rows_step k43 (w0 := w0) w0.heap.size (by rfl) (.tmp 21) (.tmp 30) 35 43 (.agg #[(.int .i64 0), (.int .i64 0), (.int .i64 0), (.int .i64 0)]) 32 rfl Try.underlying35 info43 rfl (by decide) (by omega) v201 y200 y203 _ _ _ (fun k_ => (P0_1_ k_ ∨ w.heap.size ≤ k_) ∧ some k_ ≠ (.slice Ao26 l0_1.length co26 : Value).ownBlock ∧ some k_ ≠ (.slice Ao34 y203.length co34 : Value).ownBlock) (fun _ => False) rfl rfl ?aO ?aR (fun _ _ h => h) (fun _ h => h.elim) ?aF ?aB ?aS ?aL ?_
    (case aR => repeat (first | exact (Kd.R_reads' HO205.out).2.2 | (with_reducible refine Kd.C_alloc ?_ _) | (with_reducible refine Kd.C_drewN ?_ _) | (with_reducible refine Kd.C_drew ?_)))
    (case aB => exact (Goto.hx HB))
    (case aF => exact (fun k_ hk => ⟨(.inr (Nat.le_trans (by first | exact HK.out.1 | exact (show Kept w _ (fun k_ => (P0_1_ k_) ∨ k_ = g) from by repeat (first | (with_reducible first | exact HK.out | apply Kept.alloc | apply Kept.drewN | apply Kept.drew | refine Kept.setCell ?_ (.inl (.inr rfl)) _) | exact HK.out)).1) hk)), Kd.fresh' (Kd.Q_lt (by (with_reducible repeat (first | apply Kd.Q_alloc | apply Kd.Q_drewN | apply Kd.Q_drew)); exact HO0_1.out)) k_ hk, Kd.fresh' (Kd.R_lt (by (with_reducible repeat (first | apply Kd.R_alloc | apply Kd.R_drewN | apply Kd.R_drew)); exact HO205.out)) k_ hk⟩))
    (case aO => exact (by (with_reducible repeat (first | apply Kd.R_alloc | apply Kd.R_drewN | apply Kd.R_drew)); exact HO202.out))
    (case aS => exact (below_size (Goto.hx HB)))
    (case aL => have := LMc6.out; omega)
    intro v207 w33 ho hb hg hat
    rw [← Ny206.out] at ho
    have n0_ := Goto.m0 (blk_grown (g := g) (o := .cells #[.int .i64 a0_0, .slice Ao26 l0_1.length co26, .int .i64 (wrap64 (a0_2 + 1))] 47 (0, 0)) (Goto.bx BK0) hg (Kd.R_ne HO202.out BK0.out (by decide)))
    have n1_ := Goto.m0 (Kd.Q_after (ok := (fun k_ => (P0_1_ k_ ∨ w.heap.size ≤ k_) ∧ some k_ ≠ (.slice Ao34 y203.length co34 : Value).ownBlock)) (by (with_reducible repeat (first | apply Kd.Q_alloc | apply Kd.Q_drewN | apply Kd.Q_drew)); exact Kd.Q_mono HO0_1.out (fun _ hk => ⟨⟨hk.1, hk.2.2⟩, hk.2.1⟩)) hg hat)
    have n2_ := Goto.m0 (Kd.R_after (ok := (fun k_ => (P0_1_ k_ ∨ w.heap.size ≤ k_) ∧ some k_ ≠ (.slice Ao26 l0_1.length co26 : Value).ownBlock)) (by (with_reducible repeat (first | apply Kd.R_alloc | apply Kd.R_drewN | apply Kd.R_drew)); exact Kd.R_mono HO205.out (fun _ hk => ⟨⟨hk.1, hk.2.1⟩, hk.2.2⟩)) hg hat)
    have n3_ := Goto.m0 (hb)
    have n4_ := Goto.m0 (Kept.of_grown (S := (fun k_ => (P0_1_ k_) ∨ k_ = g)) hg (by repeat (first | (with_reducible first | exact HK.out | apply Kept.alloc | apply Kept.drewN | apply Kept.drew | refine Kept.setCell ?_ (.inl (.inr rfl)) _) | exact HK.out)) (fun k_ e_ => Or.imp_left Or.inl ((HO202.out.1 k_ e_).1)))
    have n5_ := Goto.m0 (ho)
    clear BK0; clear HO0_1; clear HO205; clear HB; clear HK; clear HO202; have BK0 := n0_; have HO0_1 := n1_; have HO205 := n2_; have HB := n3_; have HK := n4_; have HO208 := n5_; clear n0_ n1_ n2_ n3_ n4_ n5_; clear ho hb hg hat
    obtain ⟨Ao35, co35, eo35⟩ := Kd.R_slice HO208.out
    (first | subst eo35 | (injection eo35 with f1_ f2_ f3_; have f4_ := f1_.symm; have f5_ := f3_.symm; clear f1_ f2_ f3_; subst f4_; subst f5_))
    refine hK.out _ _ ⟨(blk_cell BK0.out 0).trans rfl, (blk_cell BK0.out 1).trans rfl, (blk_cell BK0.out 2).trans rfl⟩ (fun hHeld => ?_)
    clear hK K
    refine norm_ (a' := ?_) ?_ ?_
    rotate_left
    ·
     show Act.put _ (some 31) _ = _
     exact Goto.ap
    refine pure_ (i := 16) (N := some 32) (v := ?_) (a' := ?_) (Goto.bs 19 131071) rfl rfl (any_of HT_.out (by kernel_rfl)) (fun _ _ _ h => h) (Or.inl ⟨by rfl, ?_⟩) ?_ ?_
    rotate_left
    ·
     intro w'
     go_simp
     with_reducible rfl
    rotate_left
    ·
     exact Goto.ap
    refine pure_ (i := 17) (N := some 33) (v := ?_) (a' := ?_) (Goto.bs 19 262143) rfl rfl (any_of HT_.out (by kernel_rfl)) (fun _ _ _ h => h) (Or.inl ⟨by rfl, ?_⟩) ?_ ?_
    rotate_left
    ·
     intro w'
     go_simp
     with_reducible rfl
    rotate_left
    ·
     exact Goto.ap
    refine last_ (i := 18) (N := none) (Goto.bs 19 524287) rfl rfl (one_of HT_.out (by kernel_rfl)) (by decide) (fun K hK => ?_)
    have hs36 : w33.cell? ⟨g, 1, none⟩ = some (.slice Ao26 l0_1.length co26) := (blk_cell BK0.out 1).trans rfl; have hfs36 := blk_frozen BK0.out 1
    refine skip_ (w1 := ?_) (by rfl) rfl ?_ ?_
    rotate_left
    ·
     go_simp
     rfl
    refine hK.out _ _ ?_
    clear hK K
    refine done_ (done_of HT_.out (by kernel_rfl)) ?_
    try go_wp2
    have n0_ : Aside0 (Kd.Q k43 43 (w33.setCell ⟨g, 1, none⟩ (.slice Ao35 y206.length co35)) w0.heap.size (fun k_ => (P0_1_ k_ ∨ w.heap.size ≤ k_) ∧ some k_ ≠ (.slice Ao34 y203.length co34 : Value).ownBlock ∧ some k_ ≠ (.slice Ao35 y206.length co35 : Value).ownBlock) (.slice Ao26 l0_1.length co26) l0_1) := ⟨by (with_reducible repeat (first | apply Kd.Q_alloc | apply Kd.Q_drewN | apply Kd.Q_drew)); exact Kd.Q_mono (Kd.Q_far (p := ⟨g, 1, none⟩) (Kd.Q_types HO0_1.out BK0.out (by decide)) (fun _ hk => hk.2) (.slice Ao35 y206.length co35)) (fun _ hk => ⟨hk.1.1.1, ⟨hk.1.1.2, hk.1.2⟩⟩)⟩
    have n1_ : Aside0 (Kd.R k43 43 (w33.setCell ⟨g, 1, none⟩ (.slice Ao35 y206.length co35)) w0.heap.size (fun k_ => (P0_1_ k_ ∨ w.heap.size ≤ k_) ∧ some k_ ≠ (.slice Ao26 l0_1.length co26 : Value).ownBlock ∧ some k_ ≠ (.slice Ao35 y206.length co35 : Value).ownBlock) (.slice Ao34 y203.length co34) y203) := ⟨by (with_reducible repeat (first | apply Kd.R_alloc | apply Kd.R_drewN | apply Kd.R_drew)); exact Kd.R_mono (Kd.R_far (p := ⟨g, 1, none⟩) (Kd.R_types HO205.out BK0.out (by decide)) (fun _ hk => hk.2) (.slice Ao35 y206.length co35)) (fun _ hk => ⟨hk.1.1.1, ⟨hk.1.1.2, hk.1.2⟩⟩)⟩
    have n2_ : Aside0 (Kd.R k43 43 (w33.setCell ⟨g, 1, none⟩ (.slice Ao35 y206.length co35)) w0.heap.size (fun k_ => (P0_1_ k_ ∨ w.heap.size ≤ k_) ∧ some k_ ≠ (.slice Ao26 l0_1.length co26 : Value).ownBlock ∧ some k_ ≠ (.slice Ao34 y203.length co34 : Value).ownBlock) (.slice Ao35 y206.length co35) y206) := ⟨by (with_reducible repeat (first | apply Kd.R_alloc | apply Kd.R_drewN | apply Kd.R_drew)); exact Kd.R_mono (Kd.R_far (p := ⟨g, 1, none⟩) (Kd.R_types HO208.out BK0.out (by decide)) (fun _ hk => hk.2) (.slice Ao35 y206.length co35)) (fun _ hk => ⟨hk.1.1, ⟨hk.1.2.1, hk.1.2.2⟩⟩)⟩
    have n3_ : Aside0 ((w33.setCell ⟨g, 1, none⟩ (.slice Ao35 y206.length co35)).heap[g]? = some (.cells #[.int .i64 a0_0, .slice Ao35 y206.length co35, .int .i64 (wrap64 (a0_2 + 1))] 47 (0, 0))) := ⟨Goto.bx BK0⟩
    have n4_ : Aside0 (Kept w (w33.setCell ⟨g, 1, none⟩ (.slice Ao35 y206.length co35)) (fun k_ => (P0_1_ k_) ∨ k_ = g)) := ⟨by repeat (first | (with_reducible first | exact HK.out | apply Kept.alloc | apply Kept.drewN | apply Kept.drew | refine Kept.setCell ?_ (.inl (.inr rfl)) _) | exact HK.out)⟩
    have n5_ : Aside0 (Below w0.heap.size w0 (w33.setCell ⟨g, 1, none⟩ (.slice Ao35 y206.length co35))) := ⟨Goto.hx HB⟩
    (try clear HO0_1)
    (try clear HO205)
    (try clear HO208)
    (try clear BK0)
    (try clear HK)
    (try clear HB)
    generalize (w33.setCell ⟨g, 1, none⟩ (.slice Ao35 y206.length co35)) = w37 at n0_ n1_ n2_ n3_ n4_ n5_ ⊢
    have HO0_1 := n0_; have HO205 := n1_; have HO208 := n2_; have BK0 := n3_; have HK := n4_; have HB := n5_; clear n0_ n1_ n2_ n3_ n4_ n5_
    replace HO0_1 := Goto.m0 (Kd.Q_drew HO0_1.out); replace HO205 := Goto.m0 (Kd.R_drew HO205.out); replace HO208 := Goto.m0 (Kd.R_drew HO208.out); replace BK0 := Goto.m0 (blk_drew BK0.out); replace HK := Goto.m0 (Kept.drew HK.out); replace HB := Goto.m0 (below_drew1 HB.out)
    refine start_ (n := 10) (S := fun w' => w'.cell? ⟨g, 0, none⟩ = some (.int .i64 a0_0) ∧ w'.cell? ⟨g, 1, none⟩ = some (.slice Ao35 y206.length co35) ∧ w'.cell? ⟨g, 2, none⟩ = some (.int .i64 (wrap64 (a0_2 + 1)))) (ds := []) (.replicate 10 false) (by kernel_rfl) rfl rfl ⟨(blk_cell BK0.out 0).trans rfl, (blk_cell BK0.out 1).trans rfl, (blk_cell BK0.out 2).trans rfl⟩ (fun hHeld => ?_); refine with_tabW tontineref15_Ring_Add.tab2 tontineref15_Ring_Add.bits2 (fun HT_ HW_ => ?_)
    generalize w37.drew = w38 at HO0_1 HO205 HO208 BK0 HK HB hHeld ⊢
    refine pure_ (i := 0) (N := some 34) (v := ?_) (a' := ?_) (Goto.bs 10 1) rfl rfl (any_of HT_.out (by kernel_rfl)) (fun _ _ _ h => h) (Or.inl ⟨by rfl, ?_⟩) ?_ ?_
    rotate_left
    ·
     intro w'
     go_simp
     with_reducible rfl
    rotate_left
    ·
     exact Goto.ap
    refine pure_ (i := 1) (N := some 35) (v := ?_) (a' := ?_) (Goto.bs 10 3) rfl rfl (any_of HT_.out (by kernel_rfl)) (fun _ _ _ h => h) (Or.inl ⟨by rfl, ?_⟩) ?_ ?_
    rotate_left
    ·
     intro w'
     go_simp
     with_reducible rfl
    rotate_left
    ·
     exact Goto.ap
    refine pure_ (i := 2) (N := some 36) (v := ?_) (a' := ?_) (Goto.bs 10 7) rfl rfl (any_of HT_.out (by kernel_rfl)) (fun _ _ _ h => h) (Or.inl ⟨by rfl, ?_⟩) ?_ ?_
    rotate_left
    ·
     intro w'
     go_simp
     with_reducible rfl
    rotate_left
    ·
     exact Goto.ap
    refine pure_ (i := 5) (N := some 39) (v := ?_) (a' := ?_) (Goto.bs 10 39) rfl rfl (any_of HT_.out (by kernel_rfl)) (fun _ _ _ h => h) (Or.inl ⟨by rfl, ?_⟩) ?_ ?_
    rotate_left
    ·
     intro w'
     go_simp
     with_reducible rfl
    rotate_left
    ·
     exact Goto.ap
    refine pure_ (i := 6) (N := some 40) (v := ?_) (a' := ?_) (Goto.bs 10 103) rfl rfl (any_of HT_.out (by kernel_rfl)) (fun _ _ _ h => h) (Or.inl ⟨by rfl, ?_⟩) ?_ ?_
    rotate_left
    ·
     intro w'
     go_simp
     with_reducible rfl
    rotate_left
    ·
     exact Goto.ap
    refine pure_ (i := 7) (N := some 41) (v := ?_) (a' := ?_) (Goto.bs 10 231) rfl rfl (any_of HT_.out (by kernel_rfl)) (fun _ _ _ h => h) (Or.inl ⟨by rfl, ?_⟩) ?_ ?_
    rotate_left
    ·
     intro w'
     go_simp
     with_reducible rfl
    rotate_left
    ·
     exact Goto.ap
    refine take_ (i := 3) (N := some 37) (v := ?_) (a' := ?_) (Goto.bs 10 239) rfl rfl (take_ofW HT_.out HW_.out (by kernel_rfl)) (fun _ _ _ h => h) (Or.inl ⟨by rfl, ?_⟩) hHeld ?_ ?_
    rotate_left
    ·
     rintro w' ⟨s0, s1, s2⟩
     go_simp
     with_reducible rfl
    rotate_left
    ·
     exact Goto.ap
    refine pure_ (i := 4) (N := some 38) (v := ?_) (a' := ?_) (Goto.bs 10 255) rfl rfl (any_of HT_.out (by kernel_rfl)) (fun _ _ _ h => h) (Or.inl ⟨by rfl, ?_⟩) ?_ ?_
    rotate_left
    ·
     intro w'
     go_simp
     with_reducible rfl
    rotate_left
    ·
     exact Goto.ap
    refine take_ (i := 8) (N := some 42) (v := ?_) (a' := ?_) (Goto.bs 10 511) rfl rfl (take_ofW HT_.out HW_.out (by kernel_rfl)) (fun _ _ _ h => h) (Or.inl ⟨by rfl, ?_⟩) hHeld ?_ ?_
    rotate_left
    ·
     rintro w' ⟨s0, s1, s2⟩
     go_simp
     with_reducible rfl
    rotate_left
    ·
     exact Goto.ap
    refine pure_ (i := 9) (N := some 43) (v := ?_) (a' := ?_) (Goto.bs 10 1023) rfl rfl (any_of HT_.out (by kernel_rfl)) (fun _ _ _ h => h) (Or.inl ⟨by rfl, ?_⟩) ?_ ?_
    rotate_left
    ·
     intro w'
     go_simp
     with_reducible rfl
    rotate_left
    ·
     exact Goto.ap
    refine done_ (done_of HT_.out (by kernel_rfl)) ?_
    try go_wp2
    first | go_end0 | ((try simp only [Exit.inBlock, Exit.then]); refine bodyPost_ret (results_none rfl _ _ _) rfl ?_)
    (try simp only [← exists_and_left])
    exact ⟨_, by first | rfl | (simp [errW_none, errW_some] <;> rfl) | (simp [*, errW_none, errW_some] <;> rfl), Kd.Q_of_R (by (with_reducible repeat (first | apply Kd.R_alloc | apply Kd.R_drewN | apply Kd.R_drew)); exact Kd.R_mono HO208.out (fun _ hk => hk.1)), by (with_reducible repeat first | refine blk_drewN ?_ _ | refine blk_drew ?_ | refine blk_alloc ?_ _); exact BK0.out, by repeat (first | (with_reducible first | exact HB.out | apply below_alloc | apply pw_below_drewN | apply below_drew1 | refine below_set ?_ GE0.out) | exact HB.out), by repeat (first | (with_reducible first | exact HK.out | apply Kept.alloc | apply Kept.drewN | apply Kept.drew | refine Kept.setCell ?_ (.inl (.inr rfl)) _) | exact HK.out)⟩
  ·
   rw [if_neg c6] at H
   exact absurd H (by simp)
 ·
  rw [if_neg c5] at H
  exact absurd H (by simp)

end Go.Proofs.Ytpbcamdjcnokfaa.P
