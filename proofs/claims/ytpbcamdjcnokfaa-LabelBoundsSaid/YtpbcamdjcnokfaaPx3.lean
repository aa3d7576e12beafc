/- Printed by a program of this workplace (a turned copy of the kit's optional print), out of the translation; not trusted: Lean checks it. -/
import Derived.Test.YtpbcamdjcnokfaaPx0
import Derived.Test.YtpbcamdjcnokfaaPx1
import Derived.Test.YtpbcamdjcnokfaaPx2
namespace Go.Proofs.Ytpbcamdjcnokfaa.P
open Go.RowKit Go.Proofs.YtpbcamdjcnokfaaW.PrintWords Go.Proofs.YtpbcamdjcnokfaaW.PrintLast Go.Proofs.YtpbcamdjcnokfaaW.PrintMore
attribute [local go_sem] max2_int min2_int max_two min_two max_three min_three max_four min_four   -- for this text's walks alone
set_option linter.unusedVariables false
set_option linter.unusedSimpArgs false

attribute [local go_sem high] eqA24
/-! ### label_Chain: function 24 -/
def label_Chain.l0 : Nat → List (S24) → Option (Bool)
  | 0, _ => none
  | k + 1, x0 => if (x0.length : Int) < 2 then (some true) else (if 0 < (x0.length : Int) then (if 1 < (x0.length : Int) then (if (((rd_T24 x0 0).f0) == ((rd_T24 x0 1).f0) && (((rd_T24 x0 0).f1) == ((rd_T24 x0 1).f1))) = true then (some false) else ((label_Leq.f ((rd_T24 x0 0).f0) ((rd_T24 x0 0).f1) ((rd_T24 x0 1).f0) ((rd_T24 x0 1).f1)).bind fun t114 => (if t114 = true then (if 1 ≤ (x0.length : Int) then (label_Chain.l0 k (x0.drop 1)) else (none)) else (some false)))) else (none)) else (none))
def label_Chain.f (k : Nat) (l0 : List (S24)) : Option (Bool) := label_Chain.l0 k l0
theorem label_Chain.mono_l : ∀ k, (∀ y0, LeO (label_Chain.l0 k y0) (label_Chain.l0 (k + 1) y0))
  | 0 => fun _ r h => by simp [label_Chain.l0] at h
  | k + 1 => by
    have ih0 := label_Chain.mono_l k
    · intro y0
      unfold label_Chain.l0
      repeat' first
      | (with_reducible exact ih0 _)
      | (with_reducible exact LeO.refl _)
      | (with_reducible exact LeO.none _)
      | (with_reducible refine LeO.ite ?_ ?_)
      | (with_reducible refine LeO.bind ?_ (fun _ => ?_))
      | exact ih0 _
      | exact LeO.none _
      | refine LeO.ite ?_ ?_
      | refine LeO.bind ?_ (fun _ => ?_)
theorem label_Chain.mono : ∀ a0 k, LeO (label_Chain.f k a0) (label_Chain.f (k + 1) a0) := by
 intro a0 k
 have ih0 := label_Chain.mono_l k
 unfold label_Chain.f
 repeat' first
   | (with_reducible exact ih0 _)
   | (with_reducible exact LeO.refl _)
   | (with_reducible exact LeO.none _)
   | (with_reducible refine LeO.ite ?_ ?_)
   | (with_reducible refine LeO.bind ?_ (fun _ => ?_))
   | exact ih0 _
   | exact LeO.none _
   | refine LeO.ite ?_ ?_
   | refine LeO.bind ?_ (fun _ => ?_)
def label_Chain.T3 : Bool × List (List Nat × List Nat) := (true, [([], []), ([0], [0]), ([1], [1]), ([], []), ([3], [3]), ([4], [4]), ([2, 5], [2, 5]), ([6], [6]), ([7], [7]), ([8, 7], [7, 8]), ([9, 7], [7, 9]), ([7], [7]), ([11, 7], [7, 11]), ([12, 7], [7, 12]), ([10, 13, 7, 7], [7, 10, 13]), ([14, 7], [7, 14]), ([7, 15], [7, 15])])
def label_Chain.B3 : List Nat := [0, 1, 3, 0, 8, 24, 63, 127, 255, 511, 1023, 255, 2303, 6399, 16383, 32767, 65535]
theorem label_Chain.tab3 : rtab .any (opsOf Try.f24 3) = label_Chain.T3 := by kernel_rfl
theorem label_Chain.bits3 : waitsOk label_Chain.T3.2 label_Chain.B3 = true := by kernel_rfl
set_option maxHeartbeats 8000000 in
set_option maxRecDepth 100000 in
theorem label_Chain.calls (k : Nat) (P0_ : Nat → Prop) (A0 : Option Addr) (c0 : Nat) (l0 : List (S24)) (r : Bool) (w : World) (hs0 : Kd.V k24 24 w w.heap.size (fun k_ => P0_ k_) (.slice A0 l0.length c0) l0) (h : label_Chain.f k l0 = some r) :
    Calls Try.prog 24 #[.slice A0 l0.length c0] w fun e w' => e = .returned (.bool r) ∧ Below w.heap.size w w' := by
 have hu24 := Try.underlying24
 have HO0 := Goto.m0 (show Kd.V k24 24 w w.heap.size (fun k_ => (P0_ k_ ∨ w.heap.size ≤ k_)) (.slice A0 l0.length c0) l0 from Kd.V_mono hs0 (fun k_ hk => .inl hk))
 have HB := Goto.m0 (Below.refl w.heap.size w)
 have H : (label_Chain.l0 k l0) = some r := h
 clear h
 have H' := Goto.m0 H
 clear H
 go_enter Try.func24, Try.ntmps24
 go_wp2_with (first | (with_reducible refine Goto.scope_enter ?_))
 rename_i K0_ hK0_
 refine Goto.label_ghost (l := 0) hK0_ (fun a0_ kq a_ w' => ∃ v0 w2_ w3_ w4_ w5_ w6_ w7_ w8_ w9_ w10_ w11_ w12_ w13_ w14_ w15_ w16_ w17_ w18_ w19_ w20_ w21_ w22_ w23_ w24_ : Value, (∃ (x0_1 : List (S24)), Aside0 (label_Chain.l0 kq x0_1 = some r) ∧ Aside0 (kq ≤ k) ∧ Aside0 (Kd.V k24 24 w' w.heap.size (fun k_ => (P0_ k_ ∨ w.heap.size ≤ k_)) v0 x0_1) ∧ Aside0 (Below w.heap.size w w')) ∧ a_ = { tmps := #[v0, Goto.slot a0_.tmps.toList 1, w2_, w3_, w4_, w5_, w6_, w7_, w8_, w9_, w10_, w11_, w12_, w13_, w14_, w15_, w16_, w17_, w18_, w19_, w20_, w21_, w22_, w23_, w24_], defers := a0_.defers }) k ?hfl_ ?atStart ?round
 case hfl_ => rfl
 case atStart => ((repeat apply Exists.intro); refine ⟨?_, ?fr_⟩; (case fr_ => ((try simp only [Goto.slot_zero, Goto.slot_succ]); rfl)); exact ⟨(l0), H', ⟨Nat.le_refl _⟩, ⟨by (with_reducible repeat (first | apply Kd.V_alloc | apply Kd.V_drewN | apply Kd.V_drew)); exact HO0.out⟩, ⟨Goto.hx HB⟩⟩)
 case round =>
  clear hK0_ K0_
  clear H'
  intro gk _ wr hinv_
  obtain ⟨v0, w2_, w3_, w4_, w5_, w6_, w7_, w8_, w9_, w10_, w11_, w12_, w13_, w14_, w15_, w16_, w17_, w18_, w19_, w20_, w21_, w22_, w23_, w24_, hrel, ha_⟩ := hinv_
  subst ha_
  (try simp only [Goto.slot_zero, Goto.slot_succ])
  intro _ _ _ _
  obtain ⟨x0_1, HA, HK1, HO_0, HB⟩ := hrel
  cases gk with
  | zero => exact absurd HA.out (by simp [label_Chain.l0])
  | succ k1 =>
   have H := HA.out; clear HA
   simp only [label_Chain.l0] at H
   by_cases c2 : (x0_1.length : Int) < 2
   ·
    rw [if_pos c2] at H
    have c2b0 : decide ((x0_1.length : Int) < 2) = true := decide_eq_true c2
    have c2b1 : decide (x0_1.length < 2) = true := decide_eq_true (by omega)
    clear c2
    obtain rfl := Option.some.inj H
    obtain ⟨Ao3, co3, eo3⟩ := Kd.V_slice HO_0.out
    subst eo3
    go_wp2_with (first | (with_reducible refine Goto.scope_enter ?_))
    (try simp only [Exit.inBlock, Exit.then])
    (try refine Goto.ret_hit ?_)
    go_ret
    exact ⟨by first | rfl | (simp [errW_none, errW_some] <;> rfl) | (simp [*, errW_none, errW_some] <;> rfl), by repeat (first | (with_reducible first | exact HB.out | apply below_alloc | apply pw_below_drewN | apply below_drew1) | exact HB.out)⟩
   ·
    rw [if_neg c2] at H
    have c2b0 : decide ((x0_1.length : Int) < 2) = false := decide_eq_false c2
    have c2b1 : decide (x0_1.length < 2) = false := decide_eq_false (by omega)
    clear c2
    by_cases c4 : 0 < (x0_1.length : Int)
    ·
     rw [if_pos c4] at H
     have c4b0 : decide (0 < (x0_1.length : Int)) = true := decide_eq_true c4
     have c4b1 : decide (0 < x0_1.length) = true := decide_eq_true (by omega)
     clear c4
     by_cases c5 : 1 < (x0_1.length : Int)
     ·
      rw [if_pos c5] at H
      have c5b0 : decide (1 < (x0_1.length : Int)) = true := decide_eq_true c5
      have c5b1 : decide (1 < x0_1.length) = true := decide_eq_true (by omega)
      clear c5
      by_cases c6 : (((rd_T24 x0_1 0).f0) == ((rd_T24 x0_1 1).f0) && (((rd_T24 x0_1 0).f1) == ((rd_T24 x0_1 1).f1))) = true
      ·
       rw [if_pos c6] at H
       have c6b0 : (((rd_T24 x0_1 0).f0) == ((rd_T24 x0_1 1).f0) && (((rd_T24 x0_1 0).f1) == ((rd_T24 x0_1 1).f1))) = true := c6
       (try (have c6b1 : decide (((rd_T24 x0_1 0).f0) = ((rd_T24 x0_1 1).f0) && (((rd_T24 x0_1 0).f1) == ((rd_T24 x0_1 1).f1))) = true := by simpa using c6))
       (try (have c6b2 : (((rd_T24 x0_1 0).f0) == ((rd_T24 x0_1 1).f0) && (((rd_T24 x0_1 0).f1) == ((rd_T24 x0_1 1).f1))) = true := by simpa using c6))
       clear c6
       obtain rfl := Option.some.inj H
       obtain ⟨Ao7, co7, eo7⟩ := Kd.V_slice HO_0.out
       subst eo7
       try go_wp2_with (first | (with_reducible refine Goto.scope_enter ?_))
       replace HO_0 := Goto.m0 (Kd.V_drew HO_0.out); replace HB := Goto.m0 (below_drew1 HB.out)
       have p110 : 0 ≤ (0 : Int) := (by omega)
       have q110 : 0 < (x0_1.length : Int) := of_decide_eq_true (by first | (with_reducible assumption) | assumption)
       obtain ⟨ad110, e110, hx110_0, hx110_1⟩ := at_T24 (Kd.V_reads' HO_0.out).2.2 0 p110 q110
       cases e110
       have qi110 : (0 < x0_1.length) = True := eq_true (by omega)
       (try rw [show ((0 : Int)).toNat = 0 from rfl] at hx110_0)
       (try rw [show 0 * 2 = 0 from rfl] at hx110_0)
       (try rw [Addr.add_zero'] at hx110_0)
       (try rw [show ((0 : Int)).toNat = 0 from rfl] at hx110_1)
       (try rw [show 0 * 2 = 0 from rfl] at hx110_1)
       (try rw [Addr.add_zero'] at hx110_1)
       replace p110 := eq_true p110; replace q110 := eq_true q110
       have p111 : 0 ≤ (1 : Int) := (by omega)
       have q111 : 1 < (x0_1.length : Int) := of_decide_eq_true (by first | (with_reducible assumption) | assumption)
       obtain ⟨ad111, e111, hx111_0, hx111_1⟩ := at_T24 (Kd.V_reads' HO_0.out).2.2 1 p111 q111
       obtain rfl : ad110 = ad111 := (by injection e111)
       (try simp only [show (1 : Int).toNat = 1 from rfl, Nat.reduceMul, Nat.reduceEqDiff, Go.Addr.add, ↓reduceIte] at hx111_0)
       (try simp only [show (1 : Int).toNat = 1 from rfl, Nat.reduceMul, Nat.reduceEqDiff, Go.Addr.add, ↓reduceIte] at hx111_1)
       have qi111 : (1 < x0_1.length) = True := eq_true (by omega)
       (try rw [show ((1 : Int)).toNat = 1 from rfl] at hx111_0)
       (try rw [show 1 * 2 = 2 from rfl] at hx111_0)
       (try rw [show ((1 : Int)).toNat = 1 from rfl] at hx111_1)
       (try rw [show 1 * 2 = 2 from rfl] at hx111_1)
       replace p111 := eq_true p111; replace q111 := eq_true q111
       refine start_ (n := 17) (S := fun w' => w'.cell? ad110 = some (.int .i64 ((rd_T24 x0_1 0).f0)) ∧ w'.cell? ⟨ad110.block, ad110.off + 1, none⟩ = some (.int .u64 ((rd_T24 x0_1 0).f1)) ∧ w'.cell? ⟨ad110.block, ad110.off + 2, none⟩ = some (.int .i64 ((rd_T24 x0_1 1).f0)) ∧ w'.cell? ⟨ad110.block, ad110.off + 2 + 1, none⟩ = some (.int .u64 ((rd_T24 x0_1 1).f1))) (ds := []) (.replicate 17 false) (by kernel_rfl) rfl rfl ⟨hx110_0, hx110_1, hx111_0, hx111_1⟩ (fun hHeld => ?_); refine with_tabW label_Chain.tab3 label_Chain.bits3 (fun HT_ HW_ => ?_)
       generalize wr.drew = w8 at HO_0 HB hx110_0 hx110_1 hx111_0 hx111_1 hHeld ⊢
       refine pure_ (i := 0) (N := some 6) (v := ?_) (a' := ?_) (Goto.bs 17 1) rfl rfl (any_of HT_.out (by kernel_rfl)) (fun _ _ _ h => h) (Or.inl ⟨by rfl, ?_⟩) ?_ ?_
       rotate_left
       ·
        intro w'
        go_simp
        with_reducible rfl
       rotate_left
       ·
        exact Goto.ap
       refine pure_ (i := 1) (N := some 7) (v := ?_) (a' := ?_) (Goto.bs 17 3) rfl rfl (any_of HT_.out (by kernel_rfl)) (fun _ _ _ h => h) (Or.inl ⟨by rfl, ?_⟩) ?_ ?_
       rotate_left
       ·
        intro w'
        go_simp
        with_reducible rfl
       rotate_left
       ·
        exact Goto.ap
       refine pure_ (i := 3) (N := some 9) (v := ?_) (a' := ?_) (Goto.bs 17 11) rfl rfl (any_of HT_.out (by kernel_rfl)) (fun _ _ _ h => h) (Or.inl ⟨by rfl, ?_⟩) ?_ ?_
       rotate_left
       ·
        intro w'
        go_simp
        with_reducible rfl
       rotate_left
       ·
        exact Goto.ap
       refine pure_ (i := 4) (N := some 10) (v := ?_) (a' := ?_) (Goto.bs 17 27) rfl rfl (any_of HT_.out (by kernel_rfl)) (fun _ _ _ h => h) (Or.inl ⟨by rfl, ?_⟩) ?_ ?_
       rotate_left
       ·
        intro w'
        go_simp
        with_reducible rfl
       rotate_left
       ·
        exact Goto.ap
       refine take_ (i := 2) (N := some 8) (v := ?_) (a' := ?_) (Goto.bs 17 31) rfl rfl (take_ofW HT_.out HW_.out (by kernel_rfl)) (fun _ _ _ h => h) (Or.inl ⟨by rfl, ?_⟩) hHeld ?_ ?_
       rotate_left
       ·
        rintro w' ⟨s0, s1, s2, s3⟩
        go_simp
        with_reducible rfl
       rotate_left
       ·
        exact Goto.ap
       refine take_ (i := 5) (N := some 11) (v := ?_) (a' := ?_) (Goto.bs 17 63) rfl rfl (take_ofW HT_.out HW_.out (by kernel_rfl)) (fun _ _ _ h => h) (Or.inl ⟨by rfl, ?_⟩) hHeld ?_ ?_
       rotate_left
       ·
        rintro w' ⟨s0, s1, s2, s3⟩
        go_simp
        with_reducible rfl
       rotate_left
       ·
        exact Goto.ap
       refine pure_ (i := 6) (N := some 12) (v := ?_) (a' := ?_) (Goto.bs 17 127) rfl rfl (any_of HT_.out (by kernel_rfl)) (fun _ _ _ h => h) (Or.inl ⟨by rfl, ?_⟩) ?_ ?_
       rotate_left
       ·
        intro w'
        go_simp
        with_reducible rfl
       rotate_left
       ·
        exact Goto.ap
       refine pure_ (i := 7) (N := some 13) (v := ?_) (a' := ?_) (Goto.bs 17 255) rfl rfl (any_of HT_.out (by kernel_rfl)) (fun _ _ _ h => h) (Or.inl ⟨by rfl, ?_⟩) ?_ ?_
       rotate_left
       ·
        intro w'
        go_simp
        with_reducible rfl
       rotate_left
       ·
        exact Goto.ap
       refine pure_ (i := 8) (N := some 14) (v := undef) (a' := ?_) (Goto.bs 17 511) rfl rfl (any_of HT_.out (by kernel_rfl)) (fun _ _ _ h => h) (Or.inr ⟨by rfl, rfl⟩) ?_ ?_
       rotate_left
       ·
        exact Goto.ap
       refine pure_ (i := 9) (N := some 15) (v := undef) (a' := ?_) (Goto.bs 17 1023) rfl rfl (any_of HT_.out (by kernel_rfl)) (fun _ _ _ h => h) (Or.inr ⟨by rfl, rfl⟩) ?_ ?_
       rotate_left
       ·
        exact Goto.ap
       refine pure_ (i := 10) (N := some 16) (v := undef) (a' := ?_) (Goto.bs 17 2047) rfl rfl (any_of HT_.out (by kernel_rfl)) (fun _ _ _ h => h) (Or.inr ⟨by rfl, rfl⟩) ?_ ?_
       rotate_left
       ·
        exact Goto.ap
       refine pure_ (i := 11) (N := some 17) (v := undef) (a' := ?_) (Goto.bs 17 4095) rfl rfl (any_of HT_.out (by kernel_rfl)) (fun _ _ _ h => h) (Or.inr ⟨by rfl, rfl⟩) ?_ ?_
       rotate_left
       ·
        exact Goto.ap
       refine pure_ (i := 12) (N := some 18) (v := undef) (a' := ?_) (Goto.bs 17 8191) rfl rfl (any_of HT_.out (by kernel_rfl)) (fun _ _ _ h => h) (Or.inr ⟨by rfl, rfl⟩) ?_ ?_
       rotate_left
       ·
        exact Goto.ap
       refine pure_ (i := 13) (N := some 19) (v := undef) (a' := ?_) (Goto.bs 17 16383) rfl rfl (any_of HT_.out (by kernel_rfl)) (fun _ _ _ h => h) (Or.inr ⟨by rfl, rfl⟩) ?_ ?_
       rotate_left
       ·
        exact Goto.ap
       refine pure_ (i := 14) (N := some 20) (v := undef) (a' := ?_) (Goto.bs 17 32767) rfl rfl (any_of HT_.out (by kernel_rfl)) (fun _ _ _ h => h) (Or.inr ⟨by rfl, rfl⟩) ?_ ?_
       rotate_left
       ·
        exact Goto.ap
       refine pure_ (i := 15) (N := some 21) (v := undef) (a' := ?_) (Goto.bs 17 65535) rfl rfl (any_of HT_.out (by kernel_rfl)) (fun _ _ _ h => h) (Or.inr ⟨by rfl, rfl⟩) ?_ ?_
       rotate_left
       ·
        exact Goto.ap
       refine pure_ (i := 16) (N := some 22) (v := ?_) (a' := ?_) (Goto.bs 17 131071) rfl rfl (any_of HT_.out (by kernel_rfl)) (fun _ _ _ h => h) (Or.inl ⟨by rfl, ?_⟩) ?_ ?_
       rotate_left
       ·
        intro w'
        go_simp
        with_reducible rfl
       rotate_left
       ·
        exact Goto.ap
       refine done_ (done_of HT_.out (by kernel_rfl)) ?_
       try go_wp2_with (first | (with_reducible refine Goto.scope_enter ?_))
       (try simp only [Exit.inBlock, Exit.then])
       (try refine Goto.ret_hit ?_)
       go_ret
       exact ⟨by first | rfl | (simp [errW_none, errW_some] <;> rfl) | (simp [*, errW_none, errW_some] <;> rfl), by repeat (first | (with_reducible first | exact HB.out | apply below_alloc | apply pw_below_drewN | apply below_drew1) | exact HB.out)⟩
      ·
       rw [if_neg c6] at H
       have c6b0 : (((rd_T24 x0_1 0).f0) == ((rd_T24 x0_1 1).f0) && (((rd_T24 x0_1 0).f1) == ((rd_T24 x0_1 1).f1))) = false := by simpa using c6
       (try (have c6b1 : decide (((rd_T24 x0_1 0).f0) = ((rd_T24 x0_1 1).f0) && (((rd_T24 x0_1 0).f1) == ((rd_T24 x0_1 1).f1))) = false := by simpa using c6))
       (try (have c6b2 : (((rd_T24 x0_1 0).f0) == ((rd_T24 x0_1 1).f0) && (((rd_T24 x0_1 0).f1) == ((rd_T24 x0_1 1).f1))) = false := by simpa using c6))
       (try (have c6b3 : ¬ (((rd_T24 x0_1 0).f0) = ((rd_T24 x0_1 1).f0) && (((rd_T24 x0_1 0).f1) == ((rd_T24 x0_1 1).f1))) := by simpa using c6))
       clear c6
       replace H := Option.bind_eq_some_iff.mp H
       obtain ⟨t114, A90, H⟩ := H
       have A9 := Goto.m0 A90
       clear A90
       by_cases c10 : t114 = true
       ·
        subst c10
        rw [if_pos rfl] at H
        by_cases c11 : 1 ≤ (x0_1.length : Int)
        ·
         rw [if_pos c11] at H
         have c11b0 := eq_true c11
         have c11b1 : decide (1 ≤ (x0_1.length : Int)) = true := decide_eq_true c11
         clear c11
         obtain ⟨y115, hy115⟩ : ∃ y_ : List (S24), y_ = (x0_1.drop 1) := ⟨_, rfl⟩
         replace H : (label_Chain.l0 k1 y115) = some r := by first | (rw [hy115]; with_reducible exact H) | (have H2_ := (Option.bind_some _ _).symm.trans H; rw [hy115]; with_reducible exact H2_) | (have H2_ := (Option.bind_some _ _).symm.trans H; with_reducible exact H2_) | with_reducible exact H | (rw [hy115]; exact H) | exact H
         have Ny115 := Goto.m0 hy115
         clear hy115
         have H' := Goto.m0 H
         clear H
         obtain ⟨Ao12, co12, eo12⟩ := Kd.V_slice HO_0.out
         subst eo12
         try go_wp2_with (first | (with_reducible refine Goto.scope_enter ?_))
         replace HO_0 := Goto.m0 (Kd.V_drew HO_0.out); replace HB := Goto.m0 (below_drew1 HB.out)
         have p110 : 0 ≤ (0 : Int) := (by omega)
         have q110 : 0 < (x0_1.length : Int) := of_decide_eq_true (by first | (with_reducible assumption) | assumption)
         obtain ⟨ad110, e110, hx110_0, hx110_1⟩ := at_T24 (Kd.V_reads' HO_0.out).2.2 0 p110 q110
         cases e110
         have qi110 : (0 < x0_1.length) = True := eq_true (by omega)
         (try rw [show ((0 : Int)).toNat = 0 from rfl] at hx110_0)
         (try rw [show 0 * 2 = 0 from rfl] at hx110_0)
         (try rw [Addr.add_zero'] at hx110_0)
         (try rw [show ((0 : Int)).toNat = 0 from rfl] at hx110_1)
         (try rw [show 0 * 2 = 0 from rfl] at hx110_1)
         (try rw [Addr.add_zero'] at hx110_1)
         replace p110 := eq_true p110; replace q110 := eq_true q110
         have p111 : 0 ≤ (1 : Int) := (by omega)
         have q111 : 1 < (x0_1.length : Int) := of_decide_eq_true (by first | (with_reducible assumption) | assumption)
         obtain ⟨ad111, e111, hx111_0, hx111_1⟩ := at_T24 (Kd.V_reads' HO_0.out).2.2 1 p111 q111
         obtain rfl : ad110 = ad111 := (by injection e111)
         (try simp only [show (1 : Int).toNat = 1 from rfl, Nat.reduceMul, Nat.reduceEqDiff, Go.Addr.add, ↓reduceIte] at hx111_0)
         (try simp only [show (1 : Int).toNat = 1 from rfl, Nat.reduceMul, Nat.reduceEqDiff, Go.Addr.add, ↓reduceIte] at hx111_1)
         have qi111 : (1 < x0_1.length) = True := eq_true (by omega)
         (try rw [show ((1 : Int)).toNat = 1 from rfl] at hx111_0)
         (try rw [show 1 * 2 = 2 from rfl] at hx111_0)
         (try rw [show ((1 : Int)).toNat = 1 from rfl] at hx111_1)
         (try rw [show 1 * 2 = 2 from rfl] at hx111_1)
         replace p111 := eq_true p111; replace q111 := eq_true q111
         have p112 : 0 ≤ (0 : Int) := (by omega)
         have q112 : 0 < (x0_1.length : Int) := of_decide_eq_true (by first | (with_reducible assumption) | assumption)
         obtain ⟨ad112, e112, hx112_0, hx112_1⟩ := at_T24 (Kd.V_reads' HO_0.out).2.2 0 p112 q112
         obtain rfl : ad110 = ad112 := (by injection e112)
         have qi112 : (0 < x0_1.length) = True := eq_true (by omega)
         (try rw [show ((0 : Int)).toNat = 0 from rfl] at hx112_0)
         (try rw [show 0 * 2 = 0 from rfl] at hx112_0)
         (try rw [Addr.add_zero'] at hx112_0)
         (try rw [show ((0 : Int)).toNat = 0 from rfl] at hx112_1)
         (try rw [show 0 * 2 = 0 from rfl] at hx112_1)
         (try rw [Addr.add_zero'] at hx112_1)
         replace p112 := eq_true p112; replace q112 := eq_true q112
         have p113 : 0 ≤ (1 : Int) := (by omega)
         have q113 : 1 < (x0_1.length : Int) := of_decide_eq_true (by first | (with_reducible assumption) | assumption)
         obtain ⟨ad113, e113, hx113_0, hx113_1⟩ := at_T24 (Kd.V_reads' HO_0.out).2.2 1 p113 q113
         obtain rfl : ad110 = ad113 := (by injection e113)
         (try simp only [show (1 : Int).toNat = 1 from rfl, Nat.reduceMul, Nat.reduceEqDiff, Go.Addr.add, ↓reduceIte] at hx113_0)
         (try simp only [show (1 : Int).toNat = 1 from rfl, Nat.reduceMul, Nat.reduceEqDiff, Go.Addr.add, ↓reduceIte] at hx113_1)
         have qi113 : (1 < x0_1.length) = True := eq_true (by omega)
         (try rw [show ((1 : Int)).toNat = 1 from rfl] at hx113_0)
         (try rw [show 1 * 2 = 2 from rfl] at hx113_0)
         (try rw [show ((1 : Int)).toNat = 1 from rfl] at hx113_1)
         (try rw [show 1 * 2 = 2 from rfl] at hx113_1)
         replace p113 := eq_true p113; replace q113 := eq_true q113
         refine start_ (n := 17) (S := fun w' => w'.cell? ad110 = some (.int .i64 ((rd_T24 x0_1 0).f0)) ∧ w'.cell? ⟨ad110.block, ad110.off + 1, none⟩ = some (.int .u64 ((rd_T24 x0_1 0).f1)) ∧ w'.cell? ⟨ad110.block, ad110.off + 2, none⟩ = some (.int .i64 ((rd_T24 x0_1 1).f0)) ∧ w'.cell? ⟨ad110.block, ad110.off + 2 + 1, none⟩ = some (.int .u64 ((rd_T24 x0_1 1).f1)) ∧ w'.cell? ad110 = some (.int .i64 ((rd_T24 x0_1 0).f0)) ∧ w'.cell? ⟨ad110.block, ad110.off + 1, none⟩ = some (.int .u64 ((rd_T24 x0_1 0).f1)) ∧ w'.cell? ⟨ad110.block, ad110.off + 2, none⟩ = some (.int .i64 ((rd_T24 x0_1 1).f0)) ∧ w'.cell? ⟨ad110.block, ad110.off + 2 + 1, none⟩ = some (.int .u64 ((rd_T24 x0_1 1).f1))) (ds := []) (.replicate 17 false) (by kernel_rfl) rfl rfl ⟨hx110_0, hx110_1, hx111_0, hx111_1, hx112_0, hx112_1, hx113_0, hx113_1⟩ (fun hHeld => ?_); refine with_tabW label_Chain.tab3 label_Chain.bits3 (fun HT_ HW_ => ?_)
         generalize wr.drew = w13 at HO_0 HB hx110_0 hx110_1 hx111_0 hx111_1 hx112_0 hx112_1 hx113_0 hx113_1 hHeld ⊢
         refine pure_ (i := 0) (N := some 6) (v := ?_) (a' := ?_) (Goto.bs 17 1) rfl rfl (any_of HT_.out (by kernel_rfl)) (fun _ _ _ h => h) (Or.inl ⟨by rfl, ?_⟩) ?_ ?_
         rotate_left
         ·
          intro w'
          go_simp
          with_reducible rfl
         rotate_left
         ·
          exact Goto.ap
         refine pure_ (i := 1) (N := some 7) (v := ?_) (a' := ?_) (Goto.bs 17 3) rfl rfl (any_of HT_.out (by kernel_rfl)) (fun _ _ _ h => h) (Or.inl ⟨by rfl, ?_⟩) ?_ ?_
         rotate_left
         ·
          intro w'
          go_simp
          with_reducible rfl
         rotate_left
         ·
          exact Goto.ap
         refine pure_ (i := 3) (N := some 9) (v := ?_) (a' := ?_) (Goto.bs 17 11) rfl rfl (any_of HT_.out (by kernel_rfl)) (fun _ _ _ h => h) (Or.inl ⟨by rfl, ?_⟩) ?_ ?_
         rotate_left
         ·
          intro w'
          go_simp
          with_reducible rfl
         rotate_left
         ·
          exact Goto.ap
         refine pure_ (i := 4) (N := some 10) (v := ?_) (a' := ?_) (Goto.bs 17 27) rfl rfl (any_of HT_.out (by kernel_rfl)) (fun _ _ _ h => h) (Or.inl ⟨by rfl, ?_⟩) ?_ ?_
         rotate_left
         ·
          intro w'
          go_simp
          with_reducible rfl
         rotate_left
         ·
          exact Goto.ap
         refine take_ (i := 2) (N := some 8) (v := ?_) (a' := ?_) (Goto.bs 17 31) rfl rfl (take_ofW HT_.out HW_.out (by kernel_rfl)) (fun _ _ _ h => h) (Or.inl ⟨by rfl, ?_⟩) hHeld ?_ ?_
         rotate_left
         ·
          rintro w' ⟨s0, s1, s2, s3, s4, s5, s6, s7⟩
          go_simp
          with_reducible rfl
         rotate_left
         ·
          exact Goto.ap
         refine take_ (i := 5) (N := some 11) (v := ?_) (a' := ?_) (Goto.bs 17 63) rfl rfl (take_ofW HT_.out HW_.out (by kernel_rfl)) (fun _ _ _ h => h) (Or.inl ⟨by rfl, ?_⟩) hHeld ?_ ?_
         rotate_left
         ·
          rintro w' ⟨s0, s1, s2, s3, s4, s5, s6, s7⟩
          go_simp
          with_reducible rfl
         rotate_left
         ·
          exact Goto.ap
         refine pure_ (i := 6) (N := some 12) (v := ?_) (a' := ?_) (Goto.bs 17 127) rfl rfl (any_of HT_.out (by kernel_rfl)) (fun _ _ _ h => h) (Or.inl ⟨by rfl, ?_⟩) ?_ ?_
         rotate_left
         ·
          intro w'
          go_simp
          with_reducible rfl
         rotate_left
         ·
          exact Goto.ap
         refine pure_ (i := 7) (N := some 13) (v := ?_) (a' := ?_) (Goto.bs 17 255) rfl rfl (any_of HT_.out (by kernel_rfl)) (fun _ _ _ h => h) (Or.inl ⟨by rfl, ?_⟩) ?_ ?_
         rotate_left
         ·
          intro w'
          go_simp
          with_reducible rfl
         rotate_left
         ·
          exact Goto.ap
         refine pure_ (i := 8) (N := some 14) (v := ?_) (a' := ?_) (Goto.bs 17 511) rfl rfl (any_of HT_.out (by kernel_rfl)) (fun _ _ _ h => h) (Or.inl ⟨by rfl, ?_⟩) ?_ ?_
         rotate_left
         ·
          intro w'
          go_simp
          with_reducible rfl
         rotate_left
         ·
          exact Goto.ap
         refine pure_ (i := 9) (N := some 15) (v := ?_) (a' := ?_) (Goto.bs 17 1023) rfl rfl (any_of HT_.out (by kernel_rfl)) (fun _ _ _ h => h) (Or.inl ⟨by rfl, ?_⟩) ?_ ?_
         rotate_left
         ·
          intro w'
          go_simp
          with_reducible rfl
         rotate_left
         ·
          exact Goto.ap
         refine pure_ (i := 11) (N := some 17) (v := ?_) (a' := ?_) (Goto.bs 17 3071) rfl rfl (any_of HT_.out (by kernel_rfl)) (fun _ _ _ h => h) (Or.inl ⟨by rfl, ?_⟩) ?_ ?_
         rotate_left
         ·
          intro w'
          go_simp
          with_reducible rfl
         rotate_left
         ·
          exact Goto.ap
         refine pure_ (i := 12) (N := some 18) (v := ?_) (a' := ?_) (Goto.bs 17 7167) rfl rfl (any_of HT_.out (by kernel_rfl)) (fun _ _ _ h => h) (Or.inl ⟨by rfl, ?_⟩) ?_ ?_
         rotate_left
         ·
          intro w'
          go_simp
          with_reducible rfl
         rotate_left
         ·
          exact Goto.ap
         refine take_ (i := 10) (N := some 16) (v := ?_) (a' := ?_) (Goto.bs 17 8191) rfl rfl (take_ofW HT_.out HW_.out (by kernel_rfl)) (fun _ _ _ h => h) (Or.inl ⟨by rfl, ?_⟩) hHeld ?_ ?_
         rotate_left
         ·
          rintro w' ⟨s0, s1, s2, s3, s4, s5, s6, s7⟩
          go_simp
          with_reducible rfl
         rotate_left
         ·
          exact Goto.ap
         refine take_ (i := 13) (N := some 19) (v := ?_) (a' := ?_) (Goto.bs 17 16383) rfl rfl (take_ofW HT_.out HW_.out (by kernel_rfl)) (fun _ _ _ h => h) (Or.inl ⟨by rfl, ?_⟩) hHeld ?_ ?_
         rotate_left
         ·
          rintro w' ⟨s0, s1, s2, s3, s4, s5, s6, s7⟩
          go_simp
          with_reducible rfl
         rotate_left
         ·
          exact Goto.ap
         refine one_ (i := 14) (N := some 20) (Goto.bs 17 32767) rfl rfl (one_of HT_.out (by kernel_rfl)) (by decide) (fun K hK => ?_)
         refine goes_ Try.func18 (by kernel_rfl) rfl #[.agg #[.int .i64 ((rd_T24 x0_1 0).f0), .int .u64 ((rd_T24 x0_1 0).f1)], .agg #[.int .i64 ((rd_T24 x0_1 1).f0), .int .u64 ((rd_T24 x0_1 1).f1)]] (by rfl) rfl rfl (by (try simp only [List.map_toArray, List.map_cons, List.map_nil]); first | done | rfl | (simp only [List.length_drop, List.length_take]; rfl)) ?_
         with_reducible refine (label_Leq.calls ((rd_T24 x0_1 0).f0) ((rd_T24 x0_1 0).f1) ((rd_T24 x0_1 1).f0) ((rd_T24 x0_1 1).f1) true _ A9.out).mono ?_
         rintro e w14 ⟨rfl, hb⟩
         have HS0_ := (hb.cell (World.block_lt_of_cell? _ _ (hHeld.1))).trans (hHeld.1)
         have HS1_ := (hb.cell (World.block_lt_of_cell? _ _ (hHeld.2.1))).trans (hHeld.2.1)
         have HS2_ := (hb.cell (World.block_lt_of_cell? _ _ (hHeld.2.2.1))).trans (hHeld.2.2.1)
         have HS3_ := (hb.cell (World.block_lt_of_cell? _ _ (hHeld.2.2.2.1))).trans (hHeld.2.2.2.1)
         have HS4_ := (hb.cell (World.block_lt_of_cell? _ _ (hHeld.2.2.2.2.1))).trans (hHeld.2.2.2.2.1)
         have HS5_ := (hb.cell (World.block_lt_of_cell? _ _ (hHeld.2.2.2.2.2.1))).trans (hHeld.2.2.2.2.2.1)
         have HS6_ := (hb.cell (World.block_lt_of_cell? _ _ (hHeld.2.2.2.2.2.2.1))).trans (hHeld.2.2.2.2.2.2.1)
         have HS7_ := (hb.cell (World.block_lt_of_cell? _ _ (hHeld.2.2.2.2.2.2.2))).trans (hHeld.2.2.2.2.2.2.2)
         refine ⟨_, rfl, ?_⟩
         replace HO_0 := Goto.m0 (Kd.V_below (by (with_reducible repeat (first | apply Kd.V_alloc | apply Kd.V_drewN | apply Kd.V_drew)); exact HO_0.out) hb); replace HB := Goto.hs HB hb
         (try clear hb)
         (try clear hb2)
         (try clear hk)
         (try clear hi)
         refine hK.out _ _ ⟨HS0_, HS1_, HS2_, HS3_, HS4_, HS5_, HS6_, HS7_⟩ (fun hHeld => ?_)
         clear hK K
         refine norm_ (a' := ?_) ?_ ?_
         rotate_left
         ·
          show Act.put _ (some 20) _ = _
          exact Goto.ap
         refine pure_ (i := 15) (N := some 21) (v := ?_) (a' := ?_) (Goto.bs 17 65535) rfl rfl (any_of HT_.out (by kernel_rfl)) (fun _ _ _ h => h) (Or.inl ⟨by rfl, ?_⟩) ?_ ?_
         rotate_left
         ·
          intro w'
          go_simp
          with_reducible rfl
         rotate_left
         ·
          exact Goto.ap
         refine pure_ (i := 16) (N := some 22) (v := ?_) (a' := ?_) (Goto.bs 17 131071) rfl rfl (any_of HT_.out (by kernel_rfl)) (fun _ _ _ h => h) (Or.inl ⟨by rfl, ?_⟩) ?_ ?_
         rotate_left
         ·
          intro w'
          go_simp
          with_reducible rfl
         rotate_left
         ·
          exact Goto.ap
         refine done_ (done_of HT_.out (by kernel_rfl)) ?_
         have q15 : (1 : Int) ≤ ((x0_1.length : Int) : Int) := of_decide_eq_true (by first | (with_reducible assumption) | assumption)
         obtain ⟨i015, hi015, _, hsz15, _⟩ := info_parts info24
         have hroom15 : x0_1.length ≤ co12 := (Kd.V_reads' HO_0.out).2.1
         have hC15 : Kd.F k24 _ _ (some ad110) x0_1.length x0_1 := (Kd.V_at (base := w.heap.size) HO_0.out).2.2
         have hcut15 := cut_from (P := Try.prog) 25 24 .i64 Try.underlying25 hi015 2 hsz15 (some ad110) x0_1.length co12 1 (by omega) q15
         have hr15 := Kd.F_cut (m := (1 : Int).toNat) (c := co12) hC15 (by omega) hroom15
         obtain ⟨A15, hA15⟩ : ∃ A1, A1 = (if co12 = (1 : Int).toNat then (some ad110) else ((some ad110) : Option Addr).map (·.add ((1 : Int).toNat * 2))) := ⟨_, rfl⟩
         obtain ⟨c15, hc15⟩ : ∃ c1, c1 = co12 - (1 : Int).toNat := ⟨_, rfl⟩
         have hy15 : y115.length = x0_1.length - (1 : Int).toNat := (by rw [Ny115.out, List.length_drop] <;> omega)
         rw [show (x0_1).drop (1 : Int).toNat = y115 from Ny115.out.symm] at hr15
         replace hr15 : Kd.F k24 _ _ A15 y115.length y115 := (by rw [hA15]; exact hr15)
         rw [← hy15, ← hA15, ← hc15] at hcut15
         have HO119 := Goto.m0 (show Kd.V k24 24 _ w.heap.size _ (.slice A15 y115.length c15) y115 from Kd.V_mk (by rw [hy15, hc15]; exact Nat.sub_le_sub_right hroom15 _) hr15)
         have HC119 := Goto.m0 (show y115.length ≤ c15 from by rw [hy15, hc15]; exact Nat.sub_le_sub_right hroom15 _)
         clear hr15 hC15 hroom15 hi015 hsz15 hc15
         have KY15 := Goto.m0 hy15
         have KA15 := Goto.m0 hA15
         clear hy15 hA15; replace q15 := eq_true q15
         try go_wp2_with (first | (with_reducible refine Goto.scope_enter ?_))
         refine wp_goto ?_
         (try simp only [Exit.then, Exit.inBlock])
         refine Goto.jump_hit ?_
         go_step
         go_roundg k1
         case measure => have := HK1.out; omega
         case rel => exact ⟨(y115), H', ⟨by have := HK1.out; omega⟩, ⟨by (with_reducible repeat (first | apply Kd.V_alloc | apply Kd.V_drewN | apply Kd.V_drew)); exact HO119.out⟩, ⟨Goto.hx HB⟩⟩
        ·
         rw [if_neg c11] at H
         exact absurd H (by simp)
       ·
        replace c10 := Bool.eq_false_iff.mpr c10
        subst c10
        rw [if_neg (show ¬ (false = true) by decide)] at H
        obtain rfl := Option.some.inj H
        obtain ⟨Ao16, co16, eo16⟩ := Kd.V_slice HO_0.out
        subst eo16
        try go_wp2_with (first | (with_reducible refine Goto.scope_enter ?_))
        replace HO_0 := Goto.m0 (Kd.V_drew HO_0.out); replace HB := Goto.m0 (below_drew1 HB.out)
        have p110 : 0 ≤ (0 : Int) := (by omega)
        have q110 : 0 < (x0_1.length : Int) := of_decide_eq_true (by first | (with_reducible assumption) | assumption)
        obtain ⟨ad110, e110, hx110_0, hx110_1⟩ := at_T24 (Kd.V_reads' HO_0.out).2.2 0 p110 q110
        cases e110
        have qi110 : (0 < x0_1.length) = True := eq_true (by omega)
        (try rw [show ((0 : Int)).toNat = 0 from rfl] at hx110_0)
        (try rw [show 0 * 2 = 0 from rfl] at hx110_0)
        (try rw [Addr.add_zero'] at hx110_0)
        (try rw [show ((0 : Int)).toNat = 0 from rfl] at hx110_1)
        (try rw [show 0 * 2 = 0 from rfl] at hx110_1)
        (try rw [Addr.add_zero'] at hx110_1)
        replace p110 := eq_true p110; replace q110 := eq_true q110
        have p111 : 0 ≤ (1 : Int) := (by omega)
        have q111 : 1 < (x0_1.length : Int) := of_decide_eq_true (by first | (with_reducible assumption) | assumption)
        obtain ⟨ad111, e111, hx111_0, hx111_1⟩ := at_T24 (Kd.V_reads' HO_0.out).2.2 1 p111 q111
        obtain rfl : ad110 = ad111 := (by injection e111)
        (try simp only [show (1 : Int).toNat = 1 from rfl, Nat.reduceMul, Nat.reduceEqDiff, Go.Addr.add, ↓reduceIte] at hx111_0)
        (try simp only [show (1 : Int).toNat = 1 from rfl, Nat.reduceMul, Nat.reduceEqDiff, Go.Addr.add, ↓reduceIte] at hx111_1)
        have qi111 : (1 < x0_1.length) = True := eq_true (by omega)
        (try rw [show ((1 : Int)).toNat = 1 from rfl] at hx111_0)
        (try rw [show 1 * 2 = 2 from rfl] at hx111_0)
        (try rw [show ((1 : Int)).toNat = 1 from rfl] at hx111_1)
        (try rw [show 1 * 2 = 2 from rfl] at hx111_1)
        replace p111 := eq_true p111; replace q111 := eq_true q111
        have p112 : 0 ≤ (0 : Int) := (by omega)
        have q112 : 0 < (x0_1.length : Int) := of_decide_eq_true (by first | (with_reducible assumption) | assumption)
        obtain ⟨ad112, e112, hx112_0, hx112_1⟩ := at_T24 (Kd.V_reads' HO_0.out).2.2 0 p112 q112
        obtain rfl : ad110 = ad112 := (by injection e112)
        have qi112 : (0 < x0_1.length) = True := eq_true (by omega)
        (try rw [show ((0 : Int)).toNat = 0 from rfl] at hx112_0)
        (try rw [show 0 * 2 = 0 from rfl] at hx112_0)
        (try rw [Addr.add_zero'] at hx112_0)
        (try rw [show ((0 : Int)).toNat = 0 from rfl] at hx112_1)
        (try rw [show 0 * 2 = 0 from rfl] at hx112_1)
        (try rw [Addr.add_zero'] at hx112_1)
        replace p112 := eq_true p112; replace q112 := eq_true q112
        have p113 : 0 ≤ (1 : Int) := (by omega)
        have q113 : 1 < (x0_1.length : Int) := of_decide_eq_true (by first | (with_reducible assumption) | assumption)
        obtain ⟨ad113, e113, hx113_0, hx113_1⟩ := at_T24 (Kd.V_reads' HO_0.out).2.2 1 p113 q113
        obtain rfl : ad110 = ad113 := (by injection e113)
        (try simp only [show (1 : Int).toNat = 1 from rfl, Nat.reduceMul, Nat.reduceEqDiff, Go.Addr.add, ↓reduceIte] at hx113_0)
        (try simp only [show (1 : Int).toNat = 1 from rfl, Nat.reduceMul, Nat.reduceEqDiff, Go.Addr.add, ↓reduceIte] at hx113_1)
        have qi113 : (1 < x0_1.length) = True := eq_true (by omega)
        (try rw [show ((1 : Int)).toNat = 1 from rfl] at hx113_0)
        (try rw [show 1 * 2 = 2 from rfl] at hx113_0)
        (try rw [show ((1 : Int)).toNat = 1 from rfl] at hx113_1)
        (try rw [show 1 * 2 = 2 from rfl] at hx113_1)
        replace p113 := eq_true p113; replace q113 := eq_true q113
        refine start_ (n := 17) (S := fun w' => w'.cell? ad110 = some (.int .i64 ((rd_T24 x0_1 0).f0)) ∧ w'.cell? ⟨ad110.block, ad110.off + 1, none⟩ = some (.int .u64 ((rd_T24 x0_1 0).f1)) ∧ w'.cell? ⟨ad110.block, ad110.off + 2, none⟩ = some (.int .i64 ((rd_T24 x0_1 1).f0)) ∧ w'.cell? ⟨ad110.block, ad110.off + 2 + 1, none⟩ = some (.int .u64 ((rd_T24 x0_1 1).f1)) ∧ w'.cell? ad110 = some (.int .i64 ((rd_T24 x0_1 0).f0)) ∧ w'.cell? ⟨ad110.block, ad110.off + 1, none⟩ = some (.int .u64 ((rd_T24 x0_1 0).f1)) ∧ w'.cell? ⟨ad110.block, ad110.off + 2, none⟩ = some (.int .i64 ((rd_T24 x0_1 1).f0)) ∧ w'.cell? ⟨ad110.block, ad110.off + 2 + 1, none⟩ = some (.int .u64 ((rd_T24 x0_1 1).f1))) (ds := []) (.replicate 17 false) (by kernel_rfl) rfl rfl ⟨hx110_0, hx110_1, hx111_0, hx111_1, hx112_0, hx112_1, hx113_0, hx113_1⟩ (fun hHeld => ?_); refine with_tabW label_Chain.tab3 label_Chain.bits3 (fun HT_ HW_ => ?_)
        generalize wr.drew = w17 at HO_0 HB hx110_0 hx110_1 hx111_0 hx111_1 hx112_0 hx112_1 hx113_0 hx113_1 hHeld ⊢
        refine pure_ (i := 0) (N := some 6) (v := ?_) (a' := ?_) (Goto.bs 17 1) rfl rfl (any_of HT_.out (by kernel_rfl)) (fun _ _ _ h => h) (Or.inl ⟨by rfl, ?_⟩) ?_ ?_
        rotate_left
        ·
         intro w'
         go_simp
         with_reducible rfl
        rotate_left
        ·
         exact Goto.ap
        refine pure_ (i := 1) (N := some 7) (v := ?_) (a' := ?_) (Goto.bs 17 3) rfl rfl (any_of HT_.out (by kernel_rfl)) (fun _ _ _ h => h) (Or.inl ⟨by rfl, ?_⟩) ?_ ?_
        rotate_left
        ·
         intro w'
         go_simp
         with_reducible rfl
        rotate_left
        ·
         exact Goto.ap
        refine pure_ (i := 3) (N := some 9) (v := ?_) (a' := ?_) (Goto.bs 17 11) rfl rfl (any_of HT_.out (by kernel_rfl)) (fun _ _ _ h => h) (Or.inl ⟨by rfl, ?_⟩) ?_ ?_
        rotate_left
        ·
         intro w'
         go_simp
         with_reducible rfl
        rotate_left
        ·
         exact Goto.ap
        refine pure_ (i := 4) (N := some 10) (v := ?_) (a' := ?_) (Goto.bs 17 27) rfl rfl (any_of HT_.out (by kernel_rfl)) (fun _ _ _ h => h) (Or.inl ⟨by rfl, ?_⟩) ?_ ?_
        rotate_left
        ·
         intro w'
         go_simp
         with_reducible rfl
        rotate_left
        ·
         exact Goto.ap
        refine take_ (i := 2) (N := some 8) (v := ?_) (a' := ?_) (Goto.bs 17 31) rfl rfl (take_ofW HT_.out HW_.out (by kernel_rfl)) (fun _ _ _ h => h) (Or.inl ⟨by rfl, ?_⟩) hHeld ?_ ?_
        rotate_left
        ·
         rintro w' ⟨s0, s1, s2, s3, s4, s5, s6, s7⟩
         go_simp
         with_reducible rfl
        rotate_left
        ·
         exact Goto.ap
        refine take_ (i := 5) (N := some 11) (v := ?_) (a' := ?_) (Goto.bs 17 63) rfl rfl (take_ofW HT_.out HW_.out (by kernel_rfl)) (fun _ _ _ h => h) (Or.inl ⟨by rfl, ?_⟩) hHeld ?_ ?_
        rotate_left
        ·
         rintro w' ⟨s0, s1, s2, s3, s4, s5, s6, s7⟩
         go_simp
         with_reducible rfl
        rotate_left
        ·
         exact Goto.ap
        refine pure_ (i := 6) (N := some 12) (v := ?_) (a' := ?_) (Goto.bs 17 127) rfl rfl (any_of HT_.out (by kernel_rfl)) (fun _ _ _ h => h) (Or.inl ⟨by rfl, ?_⟩) ?_ ?_
        rotate_left
        ·
         intro w'
         go_simp
         with_reducible rfl
        rotate_left
        ·
         exact Goto.ap
        refine pure_ (i := 7) (N := some 13) (v := ?_) (a' := ?_) (Goto.bs 17 255) rfl rfl (any_of HT_.out (by kernel_rfl)) (fun _ _ _ h => h) (Or.inl ⟨by rfl, ?_⟩) ?_ ?_
        rotate_left
        ·
         intro w'
         go_simp
         with_reducible rfl
        rotate_left
        ·
         exact Goto.ap
        refine pure_ (i := 8) (N := some 14) (v := ?_) (a' := ?_) (Goto.bs 17 511) rfl rfl (any_of HT_.out (by kernel_rfl)) (fun _ _ _ h => h) (Or.inl ⟨by rfl, ?_⟩) ?_ ?_
        rotate_left
        ·
         intro w'
         go_simp
         with_reducible rfl
        rotate_left
        ·
         exact Goto.ap
        refine pure_ (i := 9) (N := some 15) (v := ?_) (a' := ?_) (Goto.bs 17 1023) rfl rfl (any_of HT_.out (by kernel_rfl)) (fun _ _ _ h => h) (Or.inl ⟨by rfl, ?_⟩) ?_ ?_
        rotate_left
        ·
         intro w'
         go_simp
         with_reducible rfl
        rotate_left
        ·
         exact Goto.ap
        refine pure_ (i := 11) (N := some 17) (v := ?_) (a' := ?_) (Goto.bs 17 3071) rfl rfl (any_of HT_.out (by kernel_rfl)) (fun _ _ _ h => h) (Or.inl ⟨by rfl, ?_⟩) ?_ ?_
        rotate_left
        ·
         intro w'
         go_simp
         with_reducible rfl
        rotate_left
        ·
         exact Goto.ap
        refine pure_ (i := 12) (N := some 18) (v := ?_) (a' := ?_) (Goto.bs 17 7167) rfl rfl (any_of HT_.out (by kernel_rfl)) (fun _ _ _ h => h) (Or.inl ⟨by rfl, ?_⟩) ?_ ?_
        rotate_left
        ·
         intro w'
         go_simp
         with_reducible rfl
        rotate_left
        ·
         exact Goto.ap
        refine take_ (i := 10) (N := some 16) (v := ?_) (a' := ?_) (Goto.bs 17 8191) rfl rfl (take_ofW HT_.out HW_.out (by kernel_rfl)) (fun _ _ _ h => h) (Or.inl ⟨by rfl, ?_⟩) hHeld ?_ ?_
        rotate_left
        ·
         rintro w' ⟨s0, s1, s2, s3, s4, s5, s6, s7⟩
         go_simp
         with_reducible rfl
        rotate_left
        ·
         exact Goto.ap
        refine take_ (i := 13) (N := some 19) (v := ?_) (a' := ?_) (Goto.bs 17 16383) rfl rfl (take_ofW HT_.out HW_.out (by kernel_rfl)) (fun _ _ _ h => h) (Or.inl ⟨by rfl, ?_⟩) hHeld ?_ ?_
        rotate_left
        ·
         rintro w' ⟨s0, s1, s2, s3, s4, s5, s6, s7⟩
         go_simp
         with_reducible rfl
        rotate_left
        ·
         exact Goto.ap
        refine one_ (i := 14) (N := some 20) (Goto.bs 17 32767) rfl rfl (one_of HT_.out (by kernel_rfl)) (by decide) (fun K hK => ?_)
        refine goes_ Try.func18 (by kernel_rfl) rfl #[.agg #[.int .i64 ((rd_T24 x0_1 0).f0), .int .u64 ((rd_T24 x0_1 0).f1)], .agg #[.int .i64 ((rd_T24 x0_1 1).f0), .int .u64 ((rd_T24 x0_1 1).f1)]] (by rfl) rfl rfl (by (try simp only [List.map_toArray, List.map_cons, List.map_nil]); first | done | rfl | (simp only [List.length_drop, List.length_take]; rfl)) ?_
        with_reducible refine (label_Leq.calls ((rd_T24 x0_1 0).f0) ((rd_T24 x0_1 0).f1) ((rd_T24 x0_1 1).f0) ((rd_T24 x0_1 1).f1) false _ A9.out).mono ?_
        rintro e w18 ⟨rfl, hb⟩
        have HS0_ := (hb.cell (World.block_lt_of_cell? _ _ (hHeld.1))).trans (hHeld.1)
        have HS1_ := (hb.cell (World.block_lt_of_cell? _ _ (hHeld.2.1))).trans (hHeld.2.1)
        have HS2_ := (hb.cell (World.block_lt_of_cell? _ _ (hHeld.2.2.1))).trans (hHeld.2.2.1)
        have HS3_ := (hb.cell (World.block_lt_of_cell? _ _ (hHeld.2.2.2.1))).trans (hHeld.2.2.2.1)
        have HS4_ := (hb.cell (World.block_lt_of_cell? _ _ (hHeld.2.2.2.2.1))).trans (hHeld.2.2.2.2.1)
        have HS5_ := (hb.cell (World.block_lt_of_cell? _ _ (hHeld.2.2.2.2.2.1))).trans (hHeld.2.2.2.2.2.1)
        have HS6_ := (hb.cell (World.block_lt_of_cell? _ _ (hHeld.2.2.2.2.2.2.1))).trans (hHeld.2.2.2.2.2.2.1)
        have HS7_ := (hb.cell (World.block_lt_of_cell? _ _ (hHeld.2.2.2.2.2.2.2))).trans (hHeld.2.2.2.2.2.2.2)
        refine ⟨_, rfl, ?_⟩
        replace HO_0 := Goto.m0 (Kd.V_below (by (with_reducible repeat (first | apply Kd.V_alloc | apply Kd.V_drewN | apply Kd.V_drew)); exact HO_0.out) hb); replace HB := Goto.hs HB hb
        (try clear hb)
        (try clear hb2)
        (try clear hk)
        (try clear hi)
        refine hK.out _ _ ⟨HS0_, HS1_, HS2_, HS3_, HS4_, HS5_, HS6_, HS7_⟩ (fun hHeld => ?_)
        clear hK K
        refine norm_ (a' := ?_) ?_ ?_
        rotate_left
        ·
         show Act.put _ (some 20) _ = _
         exact Goto.ap
        refine pure_ (i := 15) (N := some 21) (v := ?_) (a' := ?_) (Goto.bs 17 65535) rfl rfl (any_of HT_.out (by kernel_rfl)) (fun _ _ _ h => h) (Or.inl ⟨by rfl, ?_⟩) ?_ ?_
        rotate_left
        ·
         intro w'
         go_simp
         with_reducible rfl
        rotate_left
        ·
         exact Goto.ap
        refine pure_ (i := 16) (N := some 22) (v := ?_) (a' := ?_) (Goto.bs 17 131071) rfl rfl (any_of HT_.out (by kernel_rfl)) (fun _ _ _ h => h) (Or.inl ⟨by rfl, ?_⟩) ?_ ?_
        rotate_left
        ·
         intro w'
         go_simp
         with_reducible rfl
        rotate_left
        ·
         exact Goto.ap
        refine done_ (done_of HT_.out (by kernel_rfl)) ?_
        try go_wp2_with (first | (with_reducible refine Goto.scope_enter ?_))
        (try simp only [Exit.inBlock, Exit.then])
        (try refine Goto.ret_hit ?_)
        go_ret
        exact ⟨by first | rfl | (simp [errW_none, errW_some] <;> rfl) | (simp [*, errW_none, errW_some] <;> rfl), by repeat (first | (with_reducible first | exact HB.out | apply below_alloc | apply pw_below_drewN | apply below_drew1) | exact HB.out)⟩
     ·
      rw [if_neg c5] at H
      exact absurd H (by simp)
    ·
     rw [if_neg c4] at H
     exact absurd H (by simp)

end Go.Proofs.Ytpbcamdjcnokfaa.P
