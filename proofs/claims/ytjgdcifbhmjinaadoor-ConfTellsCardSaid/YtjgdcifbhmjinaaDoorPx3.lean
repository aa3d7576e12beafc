/- Printed by a program of this workplace (a turned copy of the kit's optional print), out of the translation; not trusted: Lean checks it. -/
import Derived.Test.YtjgdcifbhmjinaaDoorPx0
import Derived.Test.YtjgdcifbhmjinaaDoorPx1
import Derived.Test.YtjgdcifbhmjinaaDoorPx2
namespace Go.Proofs.YtjgdcifbhmjinaaDoor.P
open Go.RowKit Go.Proofs.YtjgdcifbhmjinaaDoorW.PrintWords Go.Proofs.YtjgdcifbhmjinaaDoorW.PrintLast Go.Proofs.YtjgdcifbhmjinaaDoorW.PrintMore
attribute [local go_sem] max2_int min2_int max_two min_two max_three min_three max_four min_four   -- for this text's walks alone
set_option linter.unusedVariables false
set_option linter.unusedSimpArgs false

attribute [local go_sem high] eqA38
/-! ### label_Chain: function 46 -/
def label_Chain.l0 : Nat → List (S38) → Option (Bool)
  | 0, _ => none
  | k + 1, x0 => if (x0.length : Int) < 2 then (some true) else (if 0 < (x0.length : Int) then (if 1 < (x0.length : Int) then (if (((rd_T38 x0 0).f0) == ((rd_T38 x0 1).f0) && (((rd_T38 x0 0).f1) == ((rd_T38 x0 1).f1))) = true then (some false) else ((label_Leq.f ((rd_T38 x0 0).f0) ((rd_T38 x0 0).f1) ((rd_T38 x0 1).f0) ((rd_T38 x0 1).f1)).bind fun t130 => (if t130 = true then (if 1 ≤ (x0.length : Int) then (label_Chain.l0 k (x0.drop 1)) else (none)) else (some false)))) else (none)) else (none))
def label_Chain.f (k : Nat) (l0 : List (S38)) : Option (Bool) := label_Chain.l0 k l0
def label_Chain.T3 : Bool × List (List Nat × List Nat) := (true, [([], []), ([0], [0]), ([1], [1]), ([], []), ([3], [3]), ([4], [4]), ([2, 5], [2, 5]), ([6], [6]), ([7], [7]), ([8, 7], [7, 8]), ([9, 7], [7, 9]), ([7], [7]), ([11, 7], [7, 11]), ([12, 7], [7, 12]), ([10, 13, 7, 7], [7, 10, 13]), ([14, 7], [7, 14]), ([7, 15], [7, 15])])
def label_Chain.B3 : List Nat := [0, 1, 3, 0, 8, 24, 63, 127, 255, 511, 1023, 255, 2303, 6399, 16383, 32767, 65535]
theorem label_Chain.tab3 : rtab .any (opsOf Tryd.f46 3) = label_Chain.T3 := by kernel_rfl
theorem label_Chain.bits3 : waitsOk label_Chain.T3.2 label_Chain.B3 = true := by kernel_rfl
set_option maxHeartbeats 8000000 in
set_option maxRecDepth 100000 in
theorem label_Chain.calls (k : Nat) (P0_ : Nat → Prop) (A0 : Option Addr) (c0 : Nat) (l0 : List (S38)) (r : Bool) (w : World) (hs0 : Kd.V k38 38 w w.heap.size (fun k_ => P0_ k_) (.slice A0 l0.length c0) l0) (h : label_Chain.f k l0 = some r) :
    Calls Tryd.prog 46 #[.slice A0 l0.length c0] w fun e w' => e = .returned (.bool r) ∧ Below w.heap.size w w' := by
 have hu38 := Tryd.underlying38
 have HO0 := Goto.m0 (show Kd.V k38 38 w w.heap.size (fun k_ => (P0_ k_ ∨ w.heap.size ≤ k_)) (.slice A0 l0.length c0) l0 from Kd.V_mono hs0 (fun k_ hk => .inl hk))
 have HB := Goto.m0 (Below.refl w.heap.size w)
 have H : (label_Chain.l0 k l0) = some r := h
 clear h
 have H' := Goto.m0 H
 clear H
 go_enter Tryd.func46, Tryd.ntmps46
 go_wp2_with (first | (with_reducible refine Goto.scope_enter ?_))
 rename_i K0_ hK0_
 refine Goto.label_ghost (l := 0) hK0_ (fun a0_ kq a_ w' => ∃ v0 w2_ w3_ w4_ w5_ w6_ w7_ w8_ w9_ w10_ w11_ w12_ w13_ w14_ w15_ w16_ w17_ w18_ w19_ w20_ w21_ w22_ w23_ w24_ : Value, (∃ (x0_1 : List (S38)), Aside0 (label_Chain.l0 kq x0_1 = some r) ∧ Aside0 (kq ≤ k) ∧ Aside0 (Kd.V k38 38 w' w.heap.size (fun k_ => (P0_ k_ ∨ w.heap.size ≤ k_)) v0 x0_1) ∧ Aside0 (Below w.heap.size w w')) ∧ a_ = { tmps := #[v0, Goto.slot a0_.tmps.toList 1, w2_, w3_, w4_, w5_, w6_, w7_, w8_, w9_, w10_, w11_, w12_, w13_, w14_, w15_, w16_, w17_, w18_, w19_, w20_, w21_, w22_, w23_, w24_], defers := a0_.defers }) k ?hfl_ ?atStart ?round
 case hfl_ => rfl
 case atStart => ((repeat apply Exists.intro); refine ⟨?_, ?fr_⟩; (case fr_ => ((try simp only [Goto.slot_zero, Goto.slot_succ]); rfl)); exact ⟨(l0), H', ⟨Nat.le_refl _⟩, ⟨by (with_reducible repeat (first | apply Kd.V_alloc | apply Kd.V_drewN | apply Kd.V_drew)); exact HO0.out⟩, ⟨Goto.hx HB⟩⟩)
 case round =>
  clear hK0_ K0_
  clear H'
  intro gk _ wr hinv_
  obtain ⟨u0, w2_, w3_, w4_, w5_, w6_, w7_, w8_, w9_, w10_, w11_, w12_, w13_, w14_, w15_, w16_, w17_, w18_, w19_, w20_, w21_, w22_, w23_, w24_, hrel, ha_⟩ := hinv_
  subst ha_
  (try simp only [Goto.slot_zero, Goto.slot_succ])
  intro _ _ _ _
  obtain ⟨x0_1, HA, HK1, HO_0, HB⟩ := hrel
  cases gk with
  | zero => exact absurd HA.out (by simp [label_Chain.l0])
  | succ k1 =>
   have H := HA.out; clear HA
   simp only [label_Chain.l0] at H
   by_cases c2 : (x0_1.length : Int) < 2
   ·
    rw [if_pos c2] at H
    have c2b0 : decide ((x0_1.length : Int) < 2) = true := decide_eq_true c2
    have c2b1 : decide (x0_1.length < 2) = true := decide_eq_true (by omega)
    clear c2
    obtain rfl := Option.some.inj H
    obtain ⟨Ao3, co3, eo3⟩ := Kd.V_slice HO_0.out
    subst eo3
    go_wp2_with (first | (with_reducible refine Goto.scope_enter ?_))
    (try simp only [Exit.inBlock, Exit.then])
    (try refine Goto.ret_hit ?_)
    (try refine Goto.end_hit ?_)
    go_ret
    exact ⟨Goto.er, by repeat (first | (with_reducible first | exact HB.out | apply below_alloc | apply pw_below_drewN | apply below_drew1) | exact HB.out)⟩
   ·
    rw [if_neg c2] at H
    have c2b0 : decide ((x0_1.length : Int) < 2) = false := decide_eq_false c2
    have c2b1 : decide (x0_1.length < 2) = false := decide_eq_false (by omega)
    clear c2
    by_cases c4 : 0 < (x0_1.length : Int)
    ·
     rw [if_pos c4] at H
     have c4b0 : decide (0 < (x0_1.length : Int)) = true := decide_eq_true c4
     have c4b1 : decide (0 < x0_1.length) = true := decide_eq_true (by omega)
     clear c4
     by_cases c5 : 1 < (x0_1.length : Int)
     ·
      rw [if_pos c5] at H
      have c5b0 : decide (1 < (x0_1.length : Int)) = true := decide_eq_true c5
      have c5b1 : decide (1 < x0_1.length) = true := decide_eq_true (by omega)
      clear c5
      by_cases c6 : (((rd_T38 x0_1 0).f0) == ((rd_T38 x0_1 1).f0) && (((rd_T38 x0_1 0).f1) == ((rd_T38 x0_1 1).f1))) = true
      ·
       rw [if_pos c6] at H
       have c6b0 : (((rd_T38 x0_1 0).f0) == ((rd_T38 x0_1 1).f0) && (((rd_T38 x0_1 0).f1) == ((rd_T38 x0_1 1).f1))) = true := c6
       (try (have c6b1 : decide (((rd_T38 x0_1 0).f0) = ((rd_T38 x0_1 1).f0) && (((rd_T38 x0_1 0).f1) == ((rd_T38 x0_1 1).f1))) = true := by simpa using c6))
       (try (have c6b2 : (((rd_T38 x0_1 0).f0) == ((rd_T38 x0_1 1).f0) && (((rd_T38 x0_1 0).f1) == ((rd_T38 x0_1 1).f1))) = true := by simpa using c6))
       clear c6
       obtain rfl := Option.some.inj H
       obtain ⟨Ao7, co7, eo7⟩ := Kd.V_slice HO_0.out
       subst eo7
       try go_wp2_with (first | (with_reducible refine Goto.scope_enter ?_))
       replace HO_0 := Goto.m0 (Kd.V_drew HO_0.out); replace HB := Goto.m0 (below_drew1 HB.out)
       have p126 : 0 ≤ (0 : Int) := (by omega)
       have q126 : 0 < (x0_1.length : Int) := Goto.od
       obtain ⟨ad126, e126, hx126_0, hx126_1⟩ := at_T38 (Kd.V_reads' HO_0.out).2.2 0 p126 q126
       cases e126
       have qi126 : (0 < x0_1.length) = True := eq_true (by omega)
       (try rw [show ((0 : Int)).toNat = 0 from rfl] at hx126_0)
       (try rw [show 0 * 2 = 0 from rfl] at hx126_0)
       (try rw [Addr.add_zero'] at hx126_0)
       (try rw [show ((0 : Int)).toNat = 0 from rfl] at hx126_1)
       (try rw [show 0 * 2 = 0 from rfl] at hx126_1)
       (try rw [Addr.add_zero'] at hx126_1)
       replace p126 := eq_true p126; replace q126 := eq_true q126
       have p127 : 0 ≤ (1 : Int) := (by omega)
       have q127 : 1 < (x0_1.length : Int) := Goto.od
       obtain ⟨ad127, e127, hx127_0, hx127_1⟩ := at_T38 (Kd.V_reads' HO_0.out).2.2 1 p127 q127
       obtain rfl : ad126 = ad127 := (by injection e127)
       (try simp only [show (1 : Int).toNat = 1 from rfl, Nat.reduceMul, Nat.reduceEqDiff, Go.Addr.add, ↓reduceIte] at hx127_0)
       (try simp only [show (1 : Int).toNat = 1 from rfl, Nat.reduceMul, Nat.reduceEqDiff, Go.Addr.add, ↓reduceIte] at hx127_1)
       have qi127 : (1 < x0_1.length) = True := eq_true (by omega)
       (try rw [show ((1 : Int)).toNat = 1 from rfl] at hx127_0)
       (try rw [show 1 * 2 = 2 from rfl] at hx127_0)
       (try rw [show ((1 : Int)).toNat = 1 from rfl] at hx127_1)
       (try rw [show 1 * 2 = 2 from rfl] at hx127_1)
       replace p127 := eq_true p127; replace q127 := eq_true q127
       refine start_ (n := 17) (S := fun w' => w'.cell? ad126 = some (.int .i64 ((rd_T38 x0_1 0).f0)) ∧ w'.cell? ⟨ad126.block, ad126.off + 1, none⟩ = some (.int .u64 ((rd_T38 x0_1 0).f1)) ∧ w'.cell? ⟨ad126.block, ad126.off + 2, none⟩ = some (.int .i64 ((rd_T38 x0_1 1).f0)) ∧ w'.cell? ⟨ad126.block, ad126.off + 2 + 1, none⟩ = some (.int .u64 ((rd_T38 x0_1 1).f1))) (ds := []) (.replicate 17 false) (by kernel_rfl) rfl rfl ⟨hx126_0, hx126_1, hx127_0, hx127_1⟩ (fun hHeld => ?_); refine with_tabW label_Chain.tab3 label_Chain.bits3 (fun HT_ HW_ => ?_)
       generalize wr.drew = w8 at HO_0 HB hx126_0 hx126_1 hx127_0 hx127_1 hHeld ⊢
       refine Goto.pu 0 6 17 1 ?_
       refine Goto.pu 1 7 17 3 ?_
       refine Goto.pu 3 9 17 11 ?_
       refine Goto.pu 4 10 17 27 ?_
       refine take_ (i := 2) (N := some 8) (v := ?_) (a' := ?_) (Goto.bs 17 31) rfl rfl (take_ofW HT_.out HW_.out (by kernel_rfl)) (fun _ _ _ h => h) (Or.inl ⟨by rfl, ?_⟩) hHeld ?_ ?_
       rotate_left
       ·
        rintro w' ⟨s0, s1, s2, s3⟩
        go_simp
        with_reducible rfl
       rotate_left
       ·
        exact Goto.ap
       refine take_ (i := 5) (N := some 11) (v := ?_) (a' := ?_) (Goto.bs 17 63) rfl rfl (take_ofW HT_.out HW_.out (by kernel_rfl)) (fun _ _ _ h => h) (Or.inl ⟨by rfl, ?_⟩) hHeld ?_ ?_
       rotate_left
       ·
        rintro w' ⟨s0, s1, s2, s3⟩
        go_simp
        with_reducible rfl
       rotate_left
       ·
        exact Goto.ap
       refine Goto.pu 6 12 17 127 ?_
       refine Goto.pu 7 13 17 255 ?_
       refine pure_ (i := 8) (N := some 14) (v := undef) (a' := ?_) (Goto.bs 17 511) rfl rfl (any_of HT_.out (by kernel_rfl)) (fun _ _ _ h => h) (Or.inr ⟨by rfl, rfl⟩) ?_ ?_
       rotate_left
       ·
        exact Goto.ap
       refine pure_ (i := 9) (N := some 15) (v := undef) (a' := ?_) (Goto.bs 17 1023) rfl rfl (any_of HT_.out (by kernel_rfl)) (fun _ _ _ h => h) (Or.inr ⟨by rfl, rfl⟩) ?_ ?_
       rotate_left
       ·
        exact Goto.ap
       refine pure_ (i := 10) (N := some 16) (v := undef) (a' := ?_) (Goto.bs 17 2047) rfl rfl (any_of HT_.out (by kernel_rfl)) (fun _ _ _ h => h) (Or.inr ⟨by rfl, rfl⟩) ?_ ?_
       rotate_left
       ·
        exact Goto.ap
       refine pure_ (i := 11) (N := some 17) (v := undef) (a' := ?_) (Goto.bs 17 4095) rfl rfl (any_of HT_.out (by kernel_rfl)) (fun _ _ _ h => h) (Or.inr ⟨by rfl, rfl⟩) ?_ ?_
       rotate_left
       ·
        exact Goto.ap
       refine pure_ (i := 12) (N := some 18) (v := undef) (a' := ?_) (Goto.bs 17 8191) rfl rfl (any_of HT_.out (by kernel_rfl)) (fun _ _ _ h => h) (Or.inr ⟨by rfl, rfl⟩) ?_ ?_
       rotate_left
       ·
        exact Goto.ap
       refine pure_ (i := 13) (N := some 19) (v := undef) (a' := ?_) (Goto.bs 17 16383) rfl rfl (any_of HT_.out (by kernel_rfl)) (fun _ _ _ h => h) (Or.inr ⟨by rfl, rfl⟩) ?_ ?_
       rotate_left
       ·
        exact Goto.ap
       refine pure_ (i := 14) (N := some 20) (v := undef) (a' := ?_) (Goto.bs 17 32767) rfl rfl (any_of HT_.out (by kernel_rfl)) (fun _ _ _ h => h) (Or.inr ⟨by rfl, rfl⟩) ?_ ?_
       rotate_left
       ·
        exact Goto.ap
       refine pure_ (i := 15) (N := some 21) (v := undef) (a' := ?_) (Goto.bs 17 65535) rfl rfl (any_of HT_.out (by kernel_rfl)) (fun _ _ _ h => h) (Or.inr ⟨by rfl, rfl⟩) ?_ ?_
       rotate_left
       ·
        exact Goto.ap
       refine Goto.pu 16 22 17 131071 ?_
       refine done_ (done_of HT_.out (by kernel_rfl)) ?_
       try go_wp2_with (first | (with_reducible refine Goto.scope_enter ?_))
       (try simp only [Exit.inBlock, Exit.then])
       (try refine Goto.ret_hit ?_)
       (try refine Goto.end_hit ?_)
       go_ret
       exact ⟨Goto.er, by repeat (first | (with_reducible first | exact HB.out | apply below_alloc | apply pw_below_drewN | apply below_drew1) | exact HB.out)⟩
      ·
       rw [if_neg c6] at H
       have c6b0 : (((rd_T38 x0_1 0).f0) == ((rd_T38 x0_1 1).f0) && (((rd_T38 x0_1 0).f1) == ((rd_T38 x0_1 1).f1))) = false := by simpa using c6
       (try (have c6b1 : decide (((rd_T38 x0_1 0).f0) = ((rd_T38 x0_1 1).f0) && (((rd_T38 x0_1 0).f1) == ((rd_T38 x0_1 1).f1))) = false := by simpa using c6))
       (try (have c6b2 : (((rd_T38 x0_1 0).f0) == ((rd_T38 x0_1 1).f0) && (((rd_T38 x0_1 0).f1) == ((rd_T38 x0_1 1).f1))) = false := by simpa using c6))
       (try (have c6b3 : ¬ (((rd_T38 x0_1 0).f0) = ((rd_T38 x0_1 1).f0) && (((rd_T38 x0_1 0).f1) == ((rd_T38 x0_1 1).f1))) := by simpa using c6))
       clear c6
       replace H := Option.bind_eq_some_iff.mp H
       obtain ⟨t130, A90, H⟩ := H
       have A9 := Goto.m0 A90
       clear A90
       by_cases c10 : t130 = true
       ·
        subst c10
        rw [if_pos rfl] at H
        by_cases c11 : 1 ≤ (x0_1.length : Int)
        ·
         rw [if_pos c11] at H
         have c11b0 := eq_true c11
         have c11b1 : decide (1 ≤ (x0_1.length : Int)) = true := decide_eq_true c11
         clear c11
         obtain ⟨y131, hy131⟩ : ∃ y_ : List (S38), y_ = (x0_1.drop 1) := ⟨_, rfl⟩
         replace H : (label_Chain.l0 k1 y131) = some r := by first | (rw [hy131]; with_reducible exact H) | (have H2_ := (Option.bind_some _ _).symm.trans H; rw [hy131]; with_reducible exact H2_) | (have H2_ := (Option.bind_some _ _).symm.trans H; with_reducible exact H2_) | with_reducible exact H | (rw [hy131]; exact H) | exact H
         have Ny131 := Goto.m0 hy131
         clear hy131
         have H' := Goto.m0 H
         clear H
         obtain ⟨Ao12, co12, eo12⟩ := Kd.V_slice HO_0.out
         subst eo12
         try go_wp2_with (first | (with_reducible refine Goto.scope_enter ?_))
         replace HO_0 := Goto.m0 (Kd.V_drew HO_0.out); replace HB := Goto.m0 (below_drew1 HB.out)
         have p126 : 0 ≤ (0 : Int) := (by omega)
         have q126 : 0 < (x0_1.length : Int) := Goto.od
         obtain ⟨ad126, e126, hx126_0, hx126_1⟩ := at_T38 (Kd.V_reads' HO_0.out).2.2 0 p126 q126
         cases e126
         have qi126 : (0 < x0_1.length) = True := eq_true (by omega)
         (try rw [show ((0 : Int)).toNat = 0 from rfl] at hx126_0)
         (try rw [show 0 * 2 = 0 from rfl] at hx126_0)
         (try rw [Addr.add_zero'] at hx126_0)
         (try rw [show ((0 : Int)).toNat = 0 from rfl] at hx126_1)
         (try rw [show 0 * 2 = 0 from rfl] at hx126_1)
         (try rw [Addr.add_zero'] at hx126_1)
         replace p126 := eq_true p126; replace q126 := eq_true q126
         have p127 : 0 ≤ (1 : Int) := (by omega)
         have q127 : 1 < (x0_1.length : Int) := Goto.od
         obtain ⟨ad127, e127, hx127_0, hx127_1⟩ := at_T38 (Kd.V_reads' HO_0.out).2.2 1 p127 q127
         obtain rfl : ad126 = ad127 := (by injection e127)
         (try simp only [show (1 : Int).toNat = 1 from rfl, Nat.reduceMul, Nat.reduceEqDiff, Go.Addr.add, ↓reduceIte] at hx127_0)
         (try simp only [show (1 : Int).toNat = 1 from rfl, Nat.reduceMul, Nat.reduceEqDiff, Go.Addr.add, ↓reduceIte] at hx127_1)
         have qi127 : (1 < x0_1.length) = True := eq_true (by omega)
         (try rw [show ((1 : Int)).toNat = 1 from rfl] at hx127_0)
         (try rw [show 1 * 2 = 2 from rfl] at hx127_0)
         (try rw [show ((1 : Int)).toNat = 1 from rfl] at hx127_1)
         (try rw [show 1 * 2 = 2 from rfl] at hx127_1)
         replace p127 := eq_true p127; replace q127 := eq_true q127
         have p128 : 0 ≤ (0 : Int) := (by omega)
         have q128 : 0 < (x0_1.length : Int) := Goto.od
         obtain ⟨ad128, e128, hx128_0, hx128_1⟩ := at_T38 (Kd.V_reads' HO_0.out).2.2 0 p128 q128
         obtain rfl : ad126 = ad128 := (by injection e128)
         have qi128 : (0 < x0_1.length) = True := eq_true (by omega)
         (try rw [show ((0 : Int)).toNat = 0 from rfl] at hx128_0)
         (try rw [show 0 * 2 = 0 from rfl] at hx128_0)
         (try rw [Addr.add_zero'] at hx128_0)
         (try rw [show ((0 : Int)).toNat = 0 from rfl] at hx128_1)
         (try rw [show 0 * 2 = 0 from rfl] at hx128_1)
         (try rw [Addr.add_zero'] at hx128_1)
         replace p128 := eq_true p128; replace q128 := eq_true q128
         have p129 : 0 ≤ (1 : Int) := (by omega)
         have q129 : 1 < (x0_1.length : Int) := Goto.od
         obtain ⟨ad129, e129, hx129_0, hx129_1⟩ := at_T38 (Kd.V_reads' HO_0.out).2.2 1 p129 q129
         obtain rfl : ad126 = ad129 := (by injection e129)
         (try simp only [show (1 : Int).toNat = 1 from rfl, Nat.reduceMul, Nat.reduceEqDiff, Go.Addr.add, ↓reduceIte] at hx129_0)
         (try simp only [show (1 : Int).toNat = 1 from rfl, Nat.reduceMul, Nat.reduceEqDiff, Go.Addr.add, ↓reduceIte] at hx129_1)
         have qi129 : (1 < x0_1.length) = True := eq_true (by omega)
         (try rw [show ((1 : Int)).toNat = 1 from rfl] at hx129_0)
         (try rw [show 1 * 2 = 2 from rfl] at hx129_0)
         (try rw [show ((1 : Int)).toNat = 1 from rfl] at hx129_1)
         (try rw [show 1 * 2 = 2 from rfl] at hx129_1)
         replace p129 := eq_true p129; replace q129 := eq_true q129
         refine start_ (n := 17) (S := fun w' => w'.cell? ad126 = some (.int .i64 ((rd_T38 x0_1 0).f0)) ∧ w'.cell? ⟨ad126.block, ad126.off + 1, none⟩ = some (.int .u64 ((rd_T38 x0_1 0).f1)) ∧ w'.cell? ⟨ad126.block, ad126.off + 2, none⟩ = some (.int .i64 ((rd_T38 x0_1 1).f0)) ∧ w'.cell? ⟨ad126.block, ad126.off + 2 + 1, none⟩ = some (.int .u64 ((rd_T38 x0_1 1).f1)) ∧ w'.cell? ad126 = some (.int .i64 ((rd_T38 x0_1 0).f0)) ∧ w'.cell? ⟨ad126.block, ad126.off + 1, none⟩ = some (.int .u64 ((rd_T38 x0_1 0).f1)) ∧ w'.cell? ⟨ad126.block, ad126.off + 2, none⟩ = some (.int .i64 ((rd_T38 x0_1 1).f0)) ∧ w'.cell? ⟨ad126.block, ad126.off + 2 + 1, none⟩ = some (.int .u64 ((rd_T38 x0_1 1).f1))) (ds := []) (.replicate 17 false) (by kernel_rfl) rfl rfl ⟨hx126_0, hx126_1, hx127_0, hx127_1, hx128_0, hx128_1, hx129_0, hx129_1⟩ (fun hHeld => ?_); refine with_tabW label_Chain.tab3 label_Chain.bits3 (fun HT_ HW_ => ?_)
         generalize wr.drew = w13 at HO_0 HB hx126_0 hx126_1 hx127_0 hx127_1 hx128_0 hx128_1 hx129_0 hx129_1 hHeld ⊢
         refine Goto.pu 0 6 17 1 ?_
         refine Goto.pu 1 7 17 3 ?_
         refine Goto.pu 3 9 17 11 ?_
         refine Goto.pu 4 10 17 27 ?_
         refine take_ (i := 2) (N := some 8) (v := ?_) (a' := ?_) (Goto.bs 17 31) rfl rfl (take_ofW HT_.out HW_.out (by kernel_rfl)) (fun _ _ _ h => h) (Or.inl ⟨by rfl, ?_⟩) hHeld ?_ ?_
         rotate_left
         ·
          rintro w' ⟨s0, s1, s2, s3, s4, s5, s6, s7⟩
          go_simp
          with_reducible rfl
         rotate_left
         ·
          exact Goto.ap
         refine take_ (i := 5) (N := some 11) (v := ?_) (a' := ?_) (Goto.bs 17 63) rfl rfl (take_ofW HT_.out HW_.out (by kernel_rfl)) (fun _ _ _ h => h) (Or.inl ⟨by rfl, ?_⟩) hHeld ?_ ?_
         rotate_left
         ·
          rintro w' ⟨s0, s1, s2, s3, s4, s5, s6, s7⟩
          go_simp
          with_reducible rfl
         rotate_left
         ·
          exact Goto.ap
         refine Goto.pu 6 12 17 127 ?_
         refine Goto.pu 7 13 17 255 ?_
         refine Goto.pu 8 14 17 511 ?_
         refine Goto.pu 9 15 17 1023 ?_
         refine Goto.pu 11 17 17 3071 ?_
         refine Goto.pu 12 18 17 7167 ?_
         refine take_ (i := 10) (N := some 16) (v := ?_) (a' := ?_) (Goto.bs 17 8191) rfl rfl (take_ofW HT_.out HW_.out (by kernel_rfl)) (fun _ _ _ h => h) (Or.inl ⟨by rfl, ?_⟩) hHeld ?_ ?_
         rotate_left
         ·
          rintro w' ⟨s0, s1, s2, s3, s4, s5, s6, s7⟩
          go_simp
          with_reducible rfl
         rotate_left
         ·
          exact Goto.ap
         refine take_ (i := 13) (N := some 19) (v := ?_) (a' := ?_) (Goto.bs 17 16383) rfl rfl (take_ofW HT_.out HW_.out (by kernel_rfl)) (fun _ _ _ h => h) (Or.inl ⟨by rfl, ?_⟩) hHeld ?_ ?_
         rotate_left
         ·
          rintro w' ⟨s0, s1, s2, s3, s4, s5, s6, s7⟩
          go_simp
          with_reducible rfl
         rotate_left
         ·
          exact Goto.ap
         refine one_ (i := 14) (N := some 20) (Goto.bs 17 32767) rfl rfl (one_of HT_.out (by kernel_rfl)) (by decide) (fun K hK => ?_)
         refine goes_ Tryd.func47 (by kernel_rfl) rfl #[.agg #[.int .i64 ((rd_T38 x0_1 0).f0), .int .u64 ((rd_T38 x0_1 0).f1)], .agg #[.int .i64 ((rd_T38 x0_1 1).f0), .int .u64 ((rd_T38 x0_1 1).f1)]] (by rfl) rfl rfl (by (try simp only [List.map_toArray, List.map_cons, List.map_nil]); first | done | rfl | (simp only [List.length_drop, List.length_take]; rfl)) ?_
         with_reducible refine (label_Leq.calls ((rd_T38 x0_1 0).f0) ((rd_T38 x0_1 0).f1) ((rd_T38 x0_1 1).f0) ((rd_T38 x0_1 1).f1) true _ A9.out).mono ?_
         rintro e w14 ⟨rfl, hb⟩
         have HS0_ := (hb.cell (World.block_lt_of_cell? _ _ (hHeld.1))).trans (hHeld.1)
         have HS1_ := (hb.cell (World.block_lt_of_cell? _ _ (hHeld.2.1))).trans (hHeld.2.1)
         have HS2_ := (hb.cell (World.block_lt_of_cell? _ _ (hHeld.2.2.1))).trans (hHeld.2.2.1)
         have HS3_ := (hb.cell (World.block_lt_of_cell? _ _ (hHeld.2.2.2.1))).trans (hHeld.2.2.2.1)
         have HS4_ := (hb.cell (World.block_lt_of_cell? _ _ (hHeld.2.2.2.2.1))).trans (hHeld.2.2.2.2.1)
         have HS5_ := (hb.cell (World.block_lt_of_cell? _ _ (hHeld.2.2.2.2.2.1))).trans (hHeld.2.2.2.2.2.1)
         have HS6_ := (hb.cell (World.block_lt_of_cell? _ _ (hHeld.2.2.2.2.2.2.1))).trans (hHeld.2.2.2.2.2.2.1)
         have HS7_ := (hb.cell (World.block_lt_of_cell? _ _ (hHeld.2.2.2.2.2.2.2))).trans (hHeld.2.2.2.2.2.2.2)
         refine ⟨_, rfl, ?_⟩
         replace HO_0 := Goto.nbV HO_0 hb; replace HB := Goto.hs HB hb
         (try clear hb)
         (try clear hb2)
         (try clear hk)
         (try clear hi)
         refine hK.out _ _ ⟨HS0_, HS1_, HS2_, HS3_, HS4_, HS5_, HS6_, HS7_⟩ (fun hHeld => ?_)
         clear hK K
         refine norm_ (a' := ?_) ?_ ?_
         rotate_left
         ·
          show Act.put _ (some 20) _ = _
          exact Goto.ap
         refine Goto.pu 15 21 17 65535 ?_
         refine Goto.pu 16 22 17 131071 ?_
         refine done_ (done_of HT_.out (by kernel_rfl)) ?_
         have q15 : (1 : Int) ≤ ((x0_1.length : Int) : Int) := Goto.od
         obtain ⟨i015, hi015, _, hsz15, _⟩ := info_parts info38
         have hroom15 : x0_1.length ≤ co12 := (Kd.V_reads' HO_0.out).2.1
         have hC15 : Kd.F k38 _ _ (some ad126) x0_1.length x0_1 := (Kd.V_at (base := w.heap.size) HO_0.out).2.2
         have hcut15 := cut_from (P := Tryd.prog) 70 38 .i64 Tryd.underlying70 hi015 2 hsz15 (some ad126) x0_1.length co12 1 (by omega) q15
         have hr15 := Kd.F_cut (m := (1 : Int).toNat) (c := co12) hC15 (by omega) hroom15
         obtain ⟨A15, hA15⟩ : ∃ A1, A1 = (if co12 = (1 : Int).toNat then (some ad126) else ((some ad126) : Option Addr).map (·.add ((1 : Int).toNat * 2))) := ⟨_, rfl⟩
         obtain ⟨c15, hc15⟩ : ∃ c1, c1 = co12 - (1 : Int).toNat := ⟨_, rfl⟩
         have hy15 : y131.length = x0_1.length - (1 : Int).toNat := (by rw [Ny131.out, List.length_drop] <;> omega)
         rw [show (x0_1).drop (1 : Int).toNat = y131 from Ny131.out.symm] at hr15
         replace hr15 : Kd.F k38 _ _ A15 y131.length y131 := (by rw [hA15]; exact hr15)
         rw [← hy15, ← hA15, ← hc15] at hcut15
         have HO135 := Goto.m0 (show Kd.V k38 38 _ w.heap.size _ (.slice A15 y131.length c15) y131 from Kd.V_mk (by rw [hy15, hc15]; exact Nat.sub_le_sub_right hroom15 _) hr15)
         have HC135 := Goto.m0 (show y131.length ≤ c15 from by rw [hy15, hc15]; exact Nat.sub_le_sub_right hroom15 _)
         clear hr15 hC15 hroom15 hi015 hsz15 hc15
         have KY15 := Goto.m0 hy15
         have KA15 := Goto.m0 hA15
         clear hy15 hA15; replace q15 := eq_true q15
         try go_wp2_with (first | (with_reducible refine Goto.scope_enter ?_))
         refine wp_goto ?_
         (try simp only [Exit.then, Exit.inBlock])
         refine Goto.jump_hit ?_
         go_step
         go_roundg k1
         case measure => have := HK1.out; omega
         case rel => exact ⟨(y131), H', ⟨by have := HK1.out; omega⟩, ⟨by (with_reducible repeat (first | apply Kd.V_alloc | apply Kd.V_drewN | apply Kd.V_drew)); exact HO135.out⟩, ⟨Goto.hx HB⟩⟩
        ·
         rw [if_neg c11] at H
         exact absurd H (by simp)
       ·
        replace c10 := Bool.eq_false_iff.mpr c10
        subst c10
        rw [if_neg (show ¬ (false = true) by decide)] at H
        obtain rfl := Option.some.inj H
        obtain ⟨Ao16, co16, eo16⟩ := Kd.V_slice HO_0.out
        subst eo16
        try go_wp2_with (first | (with_reducible refine Goto.scope_enter ?_))
        replace HO_0 := Goto.m0 (Kd.V_drew HO_0.out); replace HB := Goto.m0 (below_drew1 HB.out)
        have p126 : 0 ≤ (0 : Int) := (by omega)
        have q126 : 0 < (x0_1.length : Int) := Goto.od
        obtain ⟨ad126, e126, hx126_0, hx126_1⟩ := at_T38 (Kd.V_reads' HO_0.out).2.2 0 p126 q126
        cases e126
        have qi126 : (0 < x0_1.length) = True := eq_true (by omega)
        (try rw [show ((0 : Int)).toNat = 0 from rfl] at hx126_0)
        (try rw [show 0 * 2 = 0 from rfl] at hx126_0)
        (try rw [Addr.add_zero'] at hx126_0)
        (try rw [show ((0 : Int)).toNat = 0 from rfl] at hx126_1)
        (try rw [show 0 * 2 = 0 from rfl] at hx126_1)
        (try rw [Addr.add_zero'] at hx126_1)
        replace p126 := eq_true p126; replace q126 := eq_true q126
        have p127 : 0 ≤ (1 : Int) := (by omega)
        have q127 : 1 < (x0_1.length : Int) := Goto.od
        obtain ⟨ad127, e127, hx127_0, hx127_1⟩ := at_T38 (Kd.V_reads' HO_0.out).2.2 1 p127 q127
        obtain rfl : ad126 = ad127 := (by injection e127)
        (try simp only [show (1 : Int).toNat = 1 from rfl, Nat.reduceMul, Nat.reduceEqDiff, Go.Addr.add, ↓reduceIte] at hx127_0)
        (try simp only [show (1 : Int).toNat = 1 from rfl, Nat.reduceMul, Nat.reduceEqDiff, Go.Addr.add, ↓reduceIte] at hx127_1)
        have qi127 : (1 < x0_1.length) = True := eq_true (by omega)
        (try rw [show ((1 : Int)).toNat = 1 from rfl] at hx127_0)
        (try rw [show 1 * 2 = 2 from rfl] at hx127_0)
        (try rw [show ((1 : Int)).toNat = 1 from rfl] at hx127_1)
        (try rw [show 1 * 2 = 2 from rfl] at hx127_1)
        replace p127 := eq_true p127; replace q127 := eq_true q127
        have p128 : 0 ≤ (0 : Int) := (by omega)
        have q128 : 0 < (x0_1.length : Int) := Goto.od
        obtain ⟨ad128, e128, hx128_0, hx128_1⟩ := at_T38 (Kd.V_reads' HO_0.out).2.2 0 p128 q128
        obtain rfl : ad126 = ad128 := (by injection e128)
        have qi128 : (0 < x0_1.length) = True := eq_true (by omega)
        (try rw [show ((0 : Int)).toNat = 0 from rfl] at hx128_0)
        (try rw [show 0 * 2 = 0 from rfl] at hx128_0)
        (try rw [Addr.add_zero'] at hx128_0)
        (try rw [show ((0 : Int)).toNat = 0 from rfl] at hx128_1)
        (try rw [show 0 * 2 = 0 from rfl] at hx128_1)
        (try rw [Addr.add_zero'] at hx128_1)
        replace p128 := eq_true p128; replace q128 := eq_true q128
        have p129 : 0 ≤ (1 : Int) := (by omega)
        have q129 : 1 < (x0_1.length : Int) := Goto.od
        obtain ⟨ad129, e129, hx129_0, hx129_1⟩ := at_T38 (Kd.V_reads' HO_0.out).2.2 1 p129 q129
        obtain rfl : ad126 = ad129 := (by injection e129)
        (try simp only [show (1 : Int).toNat = 1 from rfl, Nat.reduceMul, Nat.reduceEqDiff, Go.Addr.add, ↓reduceIte] at hx129_0)
        (try simp only [show (1 : Int).toNat = 1 from rfl, Nat.reduceMul, Nat.reduceEqDiff, Go.Addr.add, ↓reduceIte] at hx129_1)
        have qi129 : (1 < x0_1.length) = True := eq_true (by omega)
        (try rw [show ((1 : Int)).toNat = 1 from rfl] at hx129_0)
        (try rw [show 1 * 2 = 2 from rfl] at hx129_0)
        (try rw [show ((1 : Int)).toNat = 1 from rfl] at hx129_1)
        (try rw [show 1 * 2 = 2 from rfl] at hx129_1)
        replace p129 := eq_true p129; replace q129 := eq_true q129
        refine start_ (n := 17) (S := fun w' => w'.cell? ad126 = some (.int .i64 ((rd_T38 x0_1 0).f0)) ∧ w'.cell? ⟨ad126.block, ad126.off + 1, none⟩ = some (.int .u64 ((rd_T38 x0_1 0).f1)) ∧ w'.cell? ⟨ad126.block, ad126.off + 2, none⟩ = some (.int .i64 ((rd_T38 x0_1 1).f0)) ∧ w'.cell? ⟨ad126.block, ad126.off + 2 + 1, none⟩ = some (.int .u64 ((rd_T38 x0_1 1).f1)) ∧ w'.cell? ad126 = some (.int .i64 ((rd_T38 x0_1 0).f0)) ∧ w'.cell? ⟨ad126.block, ad126.off + 1, none⟩ = some (.int .u64 ((rd_T38 x0_1 0).f1)) ∧ w'.cell? ⟨ad126.block, ad126.off + 2, none⟩ = some (.int .i64 ((rd_T38 x0_1 1).f0)) ∧ w'.cell? ⟨ad126.block, ad126.off + 2 + 1, none⟩ = some (.int .u64 ((rd_T38 x0_1 1).f1))) (ds := []) (.replicate 17 false) (by kernel_rfl) rfl rfl ⟨hx126_0, hx126_1, hx127_0, hx127_1, hx128_0, hx128_1, hx129_0, hx129_1⟩ (fun hHeld => ?_); refine with_tabW label_Chain.tab3 label_Chain.bits3 (fun HT_ HW_ => ?_)
        generalize wr.drew = w17 at HO_0 HB hx126_0 hx126_1 hx127_0 hx127_1 hx128_0 hx128_1 hx129_0 hx129_1 hHeld ⊢
        refine Goto.pu 0 6 17 1 ?_
        refine Goto.pu 1 7 17 3 ?_
        refine Goto.pu 3 9 17 11 ?_
        refine Goto.pu 4 10 17 27 ?_
        refine take_ (i := 2) (N := some 8) (v := ?_) (a' := ?_) (Goto.bs 17 31) rfl rfl (take_ofW HT_.out HW_.out (by kernel_rfl)) (fun _ _ _ h => h) (Or.inl ⟨by rfl, ?_⟩) hHeld ?_ ?_
        rotate_left
        ·
         rintro w' ⟨s0, s1, s2, s3, s4, s5, s6, s7⟩
         go_simp
         with_reducible rfl
        rotate_left
        ·
         exact Goto.ap
        refine take_ (i := 5) (N := some 11) (v := ?_) (a' := ?_) (Goto.bs 17 63) rfl rfl (take_ofW HT_.out HW_.out (by kernel_rfl)) (fun _ _ _ h => h) (Or.inl ⟨by rfl, ?_⟩) hHeld ?_ ?_
        rotate_left
        ·
         rintro w' ⟨s0, s1, s2, s3, s4, s5, s6, s7⟩
         go_simp
         with_reducible rfl
        rotate_left
        ·
         exact Goto.ap
        refine Goto.pu 6 12 17 127 ?_
        refine Goto.pu 7 13 17 255 ?_
        refine Goto.pu 8 14 17 511 ?_
        refine Goto.pu 9 15 17 1023 ?_
        refine Goto.pu 11 17 17 3071 ?_
        refine Goto.pu 12 18 17 7167 ?_
        refine take_ (i := 10) (N := some 16) (v := ?_) (a' := ?_) (Goto.bs 17 8191) rfl rfl (take_ofW HT_.out HW_.out (by kernel_rfl)) (fun _ _ _ h => h) (Or.inl ⟨by rfl, ?_⟩) hHeld ?_ ?_
        rotate_left
        ·
         rintro w' ⟨s0, s1, s2, s3, s4, s5, s6, s7⟩
         go_simp
         with_reducible rfl
        rotate_left
        ·
         exact Goto.ap
        refine take_ (i := 13) (N := some 19) (v := ?_) (a' := ?_) (Goto.bs 17 16383) rfl rfl (take_ofW HT_.out HW_.out (by kernel_rfl)) (fun _ _ _ h => h) (Or.inl ⟨by rfl, ?_⟩) hHeld ?_ ?_
        rotate_left
        ·
         rintro w' ⟨s0, s1, s2, s3, s4, s5, s6, s7⟩
         go_simp
         with_reducible rfl
        rotate_left
        ·
         exact Goto.ap
        refine one_ (i := 14) (N := some 20) (Goto.bs 17 32767) rfl rfl (one_of HT_.out (by kernel_rfl)) (by decide) (fun K hK => ?_)
        refine goes_ Tryd.func47 (by kernel_rfl) rfl #[.agg #[.int .i64 ((rd_T38 x0_1 0).f0), .int .u64 ((rd_T38 x0_1 0).f1)], .agg #[.int .i64 ((rd_T38 x0_1 1).f0), .int .u64 ((rd_T38 x0_1 1).f1)]] (by rfl) rfl rfl (by (try simp only [List.map_toArray, List.map_cons, List.map_nil]); first | done | rfl | (simp only [List.length_drop, List.length_take]; rfl)) ?_
        with_reducible refine (label_Leq.calls ((rd_T38 x0_1 0).f0) ((rd_T38 x0_1 0).f1) ((rd_T38 x0_1 1).f0) ((rd_T38 x0_1 1).f1) false _ A9.out).mono ?_
        rintro e w18 ⟨rfl, hb⟩
        have HS0_ := (hb.cell (World.block_lt_of_cell? _ _ (hHeld.1))).trans (hHeld.1)
        have HS1_ := (hb.cell (World.block_lt_of_cell? _ _ (hHeld.2.1))).trans (hHeld.2.1)
        have HS2_ := (hb.cell (World.block_lt_of_cell? _ _ (hHeld.2.2.1))).trans (hHeld.2.2.1)
        have HS3_ := (hb.cell (World.block_lt_of_cell? _ _ (hHeld.2.2.2.1))).trans (hHeld.2.2.2.1)
        have HS4_ := (hb.cell (World.block_lt_of_cell? _ _ (hHeld.2.2.2.2.1))).trans (hHeld.2.2.2.2.1)
        have HS5_ := (hb.cell (World.block_lt_of_cell? _ _ (hHeld.2.2.2.2.2.1))).trans (hHeld.2.2.2.2.2.1)
        have HS6_ := (hb.cell (World.block_lt_of_cell? _ _ (hHeld.2.2.2.2.2.2.1))).trans (hHeld.2.2.2.2.2.2.1)
        have HS7_ := (hb.cell (World.block_lt_of_cell? _ _ (hHeld.2.2.2.2.2.2.2))).trans (hHeld.2.2.2.2.2.2.2)
        refine ⟨_, rfl, ?_⟩
        replace HO_0 := Goto.nbV HO_0 hb; replace HB := Goto.hs HB hb
        (try clear hb)
        (try clear hb2)
        (try clear hk)
        (try clear hi)
        refine hK.out _ _ ⟨HS0_, HS1_, HS2_, HS3_, HS4_, HS5_, HS6_, HS7_⟩ (fun hHeld => ?_)
        clear hK K
        refine norm_ (a' := ?_) ?_ ?_
        rotate_left
        ·
         show Act.put _ (some 20) _ = _
         exact Goto.ap
        refine Goto.pu 15 21 17 65535 ?_
        refine Goto.pu 16 22 17 131071 ?_
        refine done_ (done_of HT_.out (by kernel_rfl)) ?_
        try go_wp2_with (first | (with_reducible refine Goto.scope_enter ?_))
        (try simp only [Exit.inBlock, Exit.then])
        (try refine Goto.ret_hit ?_)
        (try refine Goto.end_hit ?_)
        go_ret
        exact ⟨Goto.er, by repeat (first | (with_reducible first | exact HB.out | apply below_alloc | apply pw_below_drewN | apply below_drew1) | exact HB.out)⟩
     ·
      rw [if_neg c5] at H
      exact absurd H (by simp)
    ·
     rw [if_neg c4] at H
     exact absurd H (by simp)

end Go.Proofs.YtjgdcifbhmjinaaDoor.P
