/- Printed by a program of this workplace (a turned copy of the kit's optional print), out of the translation; not trusted: Lean checks it. -/
import Derived.Test.YtbhfkhcedjgpdaaPx0
import Derived.Test.YtbhfkhcedjgpdaaPx1
import Derived.Test.YtbhfkhcedjgpdaaPx5
namespace Go.Proofs.Ytbhfkhcedjgpdaa.P
open Go.RowKit Go.Proofs.YtbhfkhcedjgpdaaW.PrintWords Go.Proofs.YtbhfkhcedjgpdaaW.PrintLast Go.Proofs.YtbhfkhcedjgpdaaW.PrintMore
attribute [local go_sem] max2_int min2_int max_two min_two max_three min_three max_four min_four   -- for this text's walks alone
set_option linter.unusedVariables false
set_option linter.unusedSimpArgs false

attribute [local go_sem high] eqA42
/-! ### tontineref1_Chain: function 51 -/
def tontineref1_Chain.l0 : Nat → List (S42) → Int → Option (Bool)
  | 0, _, _ => none
  | k + 1, x0, x3 => if x3 < (x0.length : Int) then (if 0 ≤ (wrap64 (x3 - 1)) then (if (wrap64 (x3 - 1)) < (x0.length : Int) then (if 0 ≤ x3 then ((tontineref1_Leq.f ((rd_T42 x0 (wrap64 (x3 - 1))).f0) ((rd_T42 x0 (wrap64 (x3 - 1))).f1) ((rd_T42 x0 x3).f0) ((rd_T42 x0 x3).f1)).bind fun t122 => (if t122 = true then (if (((rd_T42 x0 (wrap64 (x3 - 1))).f0) == ((rd_T42 x0 x3).f0) && (((rd_T42 x0 (wrap64 (x3 - 1))).f1) == ((rd_T42 x0 x3).f1))) = true then (some false) else (tontineref1_Chain.l0 k x0 (wrap64 (x3 + 1)))) else (some false))) else (none)) else (none)) else (none)) else (some true)
def tontineref1_Chain.f (k : Nat) (l0 : List (S42)) : Option (Bool) := tontineref1_Chain.l0 k l0 1
theorem tontineref1_Chain.mono_l : ∀ k, (∀ y0 y1, LeO (tontineref1_Chain.l0 k y0 y1) (tontineref1_Chain.l0 (k + 1) y0 y1))
  | 0 => fun _ _ r h => by simp [tontineref1_Chain.l0] at h
  | k + 1 => by
    have ih0 := tontineref1_Chain.mono_l k
    · intro y0 y1
      unfold tontineref1_Chain.l0
      repeat' first
      | (with_reducible exact ih0 _ _)
      | (with_reducible exact LeO.refl _)
      | (with_reducible exact LeO.none _)
      | (with_reducible refine LeO.ite ?_ ?_)
      | (with_reducible refine LeO.bind ?_ (fun _ => ?_))
      | exact ih0 _ _
      | exact LeO.none _
      | refine LeO.ite ?_ ?_
      | refine LeO.bind ?_ (fun _ => ?_)
theorem tontineref1_Chain.mono : ∀ a0 k, LeO (tontineref1_Chain.f k a0) (tontineref1_Chain.f (k + 1) a0) := by
 intro a0 k
 have ih0 := tontineref1_Chain.mono_l k
 unfold tontineref1_Chain.f
 repeat' first
   | (with_reducible exact ih0 _ _)
   | (with_reducible exact LeO.refl _)
   | (with_reducible exact LeO.none _)
   | (with_reducible refine LeO.ite ?_ ?_)
   | (with_reducible refine LeO.bind ?_ (fun _ => ?_))
   | exact ih0 _ _
   | exact LeO.none _
   | refine LeO.ite ?_ ?_
   | refine LeO.bind ?_ (fun _ => ?_)
def tontineref1_Chain.T4 : Bool × List (List Nat × List Nat) := (true, [([], []), ([], []), ([1], [1]), ([0, 2], [0, 2]), ([3], [3]), ([], []), ([], []), ([5, 6], [5, 6]), ([7], [7]), ([4, 8], [4, 8]), ([9], [9]), ([10, 9], [10]), ([11], [11]), ([11], [11]), ([13, 11], [11, 13]), ([12, 14, 11], [11, 12, 14]), ([15, 11], [11, 15]), ([11], [11]), ([11], [11]), ([17, 18, 11], [11, 17, 18]), ([19, 11], [11, 19]), ([16, 20, 11], [11, 16, 20]), ([11, 21], [11, 21])])
def tontineref1_Chain.B4 : List Nat := [0, 0, 2, 7, 15, 0, 0, 96, 224, 511, 1023, 2047, 4095, 4095, 12287, 32767, 65535, 4095, 4095, 397311, 921599, 2097151, 4194303]
theorem tontineref1_Chain.tab4 : rtab .any (opsOf Try.f51 4) = tontineref1_Chain.T4 := by kernel_rfl
theorem tontineref1_Chain.bits4 : waitsOk tontineref1_Chain.T4.2 tontineref1_Chain.B4 = true := by kernel_rfl
set_option maxHeartbeats 8000000 in
set_option maxRecDepth 100000 in
theorem tontineref1_Chain.calls (k : Nat) (A0 : Option Addr) (c0 : Nat) (l0 : List (S42)) (r : Bool) (w : World) (hr0 : Kd.C k42 w A0 l0.length l0) (hc0 : l0.length ≤ c0) (h : tontineref1_Chain.f k l0 = some r) :
    Calls Try.prog 51 #[.slice A0 l0.length c0] w fun e w' => e = .returned (.bool r) ∧ Below w.heap.size w w' := by
 have hu42 := Try.underlying42
 have HR0 := Goto.m0 hr0
 have HC0 := Goto.m0 hc0
 clear hr0 hc0
 have HB := Goto.m0 (Below.refl w.heap.size w)
 have H : (tontineref1_Chain.l0 k l0 1) = some r := h
 clear h
 have H' := Goto.m0 H
 clear H
 go_enter Try.func51, Try.ntmps51
 go_wp2
 go_loopg [3] k (fun kq v3 w' => ∃ (x3_1 : Int), v3 = .int .i64 x3_1 ∧ Aside0 (tontineref1_Chain.l0 kq l0 x3_1 = some r) ∧ Aside0 (kq ≤ k) ∧ Aside0 (Below w.heap.size w w'))
 case atStart => exact ⟨(1), (by first | rfl | (simp; done) | (simp [*]; done)), H', ⟨Nat.le_refl _⟩, ⟨Goto.hx HB⟩⟩
 case round =>
  clear H'
  obtain ⟨x3_1, rfl, HA, HK1, HB⟩ := hrel
  cases gk with
  | zero => exact absurd HA.out (by simp [tontineref1_Chain.l0])
  | succ k1 =>
   have H := HA.out; clear HA
   simp only [tontineref1_Chain.l0] at H
   by_cases c2 : x3_1 < (l0.length : Int)
   ·
    rw [if_pos c2] at H
    have c2b0 : decide (x3_1 < (l0.length : Int)) = true := decide_eq_true c2
    clear c2
    obtain ⟨ji3, hji3⟩ : ∃ j_ : Int, (wrap64 (x3_1 - 1)) = j_ := ⟨_, rfl⟩
    replace H : (if 0 ≤ (ji3) then (if (ji3) < (l0.length : Int) then (if 0 ≤ x3_1 then ((tontineref1_Leq.f ((rd_T42 l0 (ji3)).f0) ((rd_T42 l0 (ji3)).f1) ((rd_T42 l0 x3_1).f0) ((rd_T42 l0 x3_1).f1)).bind fun t122 => (if t122 = true then (if (((rd_T42 l0 (ji3)).f0) == ((rd_T42 l0 x3_1).f0) && (((rd_T42 l0 (ji3)).f1) == ((rd_T42 l0 x3_1).f1))) = true then (some false) else (tontineref1_Chain.l0 k1 l0 (wrap64 (x3_1 + 1)))) else (some false))) else (none)) else (none)) else (none)) = some r := by first | (rw [hji3] at H; exact H) | (simp only [hji3] at H ⊢; exact H)
    have hji3w : (IntKind.i64.wrap (x3_1 - 1)) = ji3 := (i64_w _).trans hji3
    by_cases c4 : 0 ≤ (ji3)
    ·
     rw [if_pos c4] at H
     have c4b0 : decide (0 ≤ (ji3)) = true := decide_eq_true c4
     clear c4
     by_cases c5 : (ji3) < (l0.length : Int)
     ·
      rw [if_pos c5] at H
      have c5b0 : decide ((ji3) < (l0.length : Int)) = true := decide_eq_true c5
      clear c5
      by_cases c6 : 0 ≤ x3_1
      ·
       rw [if_pos c6] at H
       have c6b0 : decide (0 ≤ x3_1) = true := decide_eq_true c6
       clear c6
       replace H := Option.bind_eq_some_iff.mp H
       obtain ⟨t122, A70, H⟩ := H
       have A7 := Goto.m0 A70
       clear A70
       by_cases c8 : t122 = true
       ·
        subst c8
        rw [if_pos rfl] at H
        by_cases c9 : (((rd_T42 l0 (ji3)).f0) == ((rd_T42 l0 x3_1).f0) && (((rd_T42 l0 (ji3)).f1) == ((rd_T42 l0 x3_1).f1))) = true
        ·
         rw [if_pos c9] at H
         have c9b0 : (((rd_T42 l0 (ji3)).f0) == ((rd_T42 l0 x3_1).f0) && (((rd_T42 l0 (ji3)).f1) == ((rd_T42 l0 x3_1).f1))) = true := c9
         (try (have c9b1 : decide (((rd_T42 l0 (ji3)).f0) = ((rd_T42 l0 x3_1).f0) && (((rd_T42 l0 (ji3)).f1) == ((rd_T42 l0 x3_1).f1))) = true := by simpa using c9))
         (try (have c9b2 : (((rd_T42 l0 (ji3)).f0) == ((rd_T42 l0 x3_1).f0) && (((rd_T42 l0 (ji3)).f1) == ((rd_T42 l0 x3_1).f1))) = true := by simpa using c9))
         clear c9
         obtain rfl := Option.some.inj H
         try go_wp2
         replace HB := Goto.m0 (below_drew1 HB.out)
         have p120 : 0 ≤ ((ji3) : Int) := of_decide_eq_true (by first | (with_reducible assumption) | assumption)
         have q120 : (ji3) < (l0.length : Int) := of_decide_eq_true (by first | (with_reducible assumption) | assumption)
         obtain ⟨ad120, e120, hx120_0, hx120_1⟩ := at_T42 HR0.out (ji3) p120 q120
         have hw120_1 := hx120_1; have hw120_0 := hx120_0
         cases e120
         replace hx120_0 := Goto.kc HB.out hx120_0
         replace hx120_1 := Goto.kc HB.out hx120_1
         replace p120 := eq_true p120; replace q120 := eq_true q120
         have p121 : 0 ≤ (x3_1 : Int) := of_decide_eq_true (by first | (with_reducible assumption) | assumption)
         have q121 : x3_1 < (l0.length : Int) := of_decide_eq_true (by first | (with_reducible assumption) | assumption)
         obtain ⟨ad121, e121, hx121_0, hx121_1⟩ := at_T42 HR0.out x3_1 p121 q121
         have hw121_1 := hx121_1; have hw121_0 := hx121_0
         obtain rfl : ad120 = ad121 := (by injection e121)
         replace hx121_0 := Goto.kc HB.out hx121_0
         replace hx121_1 := Goto.kc HB.out hx121_1
         replace p121 := eq_true p121; replace q121 := eq_true q121
         have p123 : 0 ≤ ((ji3) : Int) := of_decide_eq_true (by first | (with_reducible assumption) | assumption)
         have q123 : (ji3) < (l0.length : Int) := of_decide_eq_true (by first | (with_reducible assumption) | assumption)
         obtain ⟨ad123, e123, hx123_0, hx123_1⟩ := at_T42 HR0.out (ji3) p123 q123
         have hw123_1 := hx123_1; have hw123_0 := hx123_0
         obtain rfl : ad120 = ad123 := (by injection e123)
         replace hx123_0 := Goto.kc HB.out hx123_0
         replace hx123_1 := Goto.kc HB.out hx123_1
         replace p123 := eq_true p123; replace q123 := eq_true q123
         have p124 : 0 ≤ (x3_1 : Int) := of_decide_eq_true (by first | (with_reducible assumption) | assumption)
         have q124 : x3_1 < (l0.length : Int) := of_decide_eq_true (by first | (with_reducible assumption) | assumption)
         obtain ⟨ad124, e124, hx124_0, hx124_1⟩ := at_T42 HR0.out x3_1 p124 q124
         have hw124_1 := hx124_1; have hw124_0 := hx124_0
         obtain rfl : ad120 = ad124 := (by injection e124)
         replace hx124_0 := Goto.kc HB.out hx124_0
         replace hx124_1 := Goto.kc HB.out hx124_1
         replace p124 := eq_true p124; replace q124 := eq_true q124
         refine start_ (n := 23) (S := fun w' => w'.cell? (ad120.add (((ji3)).toNat * 2)) = some (.int .i64 ((rd_T42 l0 (ji3)).f0)) ∧ w'.cell? ⟨(ad120.add (((ji3)).toNat * 2)).block, (ad120.add (((ji3)).toNat * 2)).off + 1, none⟩ = some (.int .u64 ((rd_T42 l0 (ji3)).f1)) ∧ w'.cell? (ad120.add ((x3_1).toNat * 2)) = some (.int .i64 ((rd_T42 l0 x3_1).f0)) ∧ w'.cell? ⟨(ad120.add ((x3_1).toNat * 2)).block, (ad120.add ((x3_1).toNat * 2)).off + 1, none⟩ = some (.int .u64 ((rd_T42 l0 x3_1).f1)) ∧ w'.cell? (ad120.add (((ji3)).toNat * 2)) = some (.int .i64 ((rd_T42 l0 (ji3)).f0)) ∧ w'.cell? ⟨(ad120.add (((ji3)).toNat * 2)).block, (ad120.add (((ji3)).toNat * 2)).off + 1, none⟩ = some (.int .u64 ((rd_T42 l0 (ji3)).f1)) ∧ w'.cell? (ad120.add ((x3_1).toNat * 2)) = some (.int .i64 ((rd_T42 l0 x3_1).f0)) ∧ w'.cell? ⟨(ad120.add ((x3_1).toNat * 2)).block, (ad120.add ((x3_1).toNat * 2)).off + 1, none⟩ = some (.int .u64 ((rd_T42 l0 x3_1).f1))) (ds := []) (.replicate 23 false) (by kernel_rfl) rfl rfl ⟨(Goto.kc HB.out hw120_0), (Goto.kc HB.out hw120_1), (Goto.kc HB.out hw121_0), (Goto.kc HB.out hw121_1), (Goto.kc HB.out hw123_0), (Goto.kc HB.out hw123_1), (Goto.kc HB.out hw124_0), (Goto.kc HB.out hw124_1)⟩ (fun hHeld => ?_); refine with_tabW tontineref1_Chain.tab4 tontineref1_Chain.bits4 (fun HT_ HW_ => ?_)
         generalize wr.drew = w10 at HB hx120_0 hx120_1 hx121_0 hx121_1 hx123_0 hx123_1 hx124_0 hx124_1 hHeld ⊢
         refine pure_ (i := 0) (N := some 10) (v := ?_) (a' := ?_) (Goto.bs 23 1) rfl rfl (any_of HT_.out (by kernel_rfl)) (fun _ _ _ h => h) (Or.inl ⟨by rfl, ?_⟩) ?_ ?_
         rotate_left
         ·
          intro w'
          go_simp
          with_reducible rfl
         rotate_left
         ·
          exact Goto.ap
         refine pure_ (i := 1) (N := some 11) (v := ?_) (a' := ?_) (Goto.bs 23 3) rfl rfl (any_of HT_.out (by kernel_rfl)) (fun _ _ _ h => h) (Or.inl ⟨by rfl, ?_⟩) ?_ ?_
         rotate_left
         ·
          intro w'
          go_simp
          with_reducible rfl
         rotate_left
         ·
          exact Goto.ap
         refine pure_ (i := 2) (N := some 12) (v := ?_) (a' := ?_) (Goto.bs 23 7) rfl rfl (any_of HT_.out (by kernel_rfl)) (fun _ _ _ h => h) (Or.inl ⟨by rfl, ?_⟩) ?_ ?_
         rotate_left
         ·
          intro w'
          go_simp
          with_reducible rfl
         rotate_left
         ·
          exact Goto.ap
         refine pure_ (i := 3) (N := some 13) (v := ?_) (a' := ?_) (Goto.bs 23 15) rfl rfl (any_of HT_.out (by kernel_rfl)) (fun _ _ _ h => h) (Or.inl ⟨by rfl, ?_⟩) ?_ ?_
         rotate_left
         ·
          intro w'
          go_simp
          with_reducible rfl
         rotate_left
         ·
          exact Goto.ap
         refine pure_ (i := 5) (N := some 15) (v := ?_) (a' := ?_) (Goto.bs 23 47) rfl rfl (any_of HT_.out (by kernel_rfl)) (fun _ _ _ h => h) (Or.inl ⟨by rfl, ?_⟩) ?_ ?_
         rotate_left
         ·
          intro w'
          go_simp
          with_reducible rfl
         rotate_left
         ·
          exact Goto.ap
         refine pure_ (i := 6) (N := some 16) (v := ?_) (a' := ?_) (Goto.bs 23 111) rfl rfl (any_of HT_.out (by kernel_rfl)) (fun _ _ _ h => h) (Or.inl ⟨by rfl, ?_⟩) ?_ ?_
         rotate_left
         ·
          intro w'
          go_simp
          with_reducible rfl
         rotate_left
         ·
          exact Goto.ap
         refine pure_ (i := 7) (N := some 17) (v := ?_) (a' := ?_) (Goto.bs 23 239) rfl rfl (any_of HT_.out (by kernel_rfl)) (fun _ _ _ h => h) (Or.inl ⟨by rfl, ?_⟩) ?_ ?_
         rotate_left
         ·
          intro w'
          go_simp
          with_reducible rfl
         rotate_left
         ·
          exact Goto.ap
         refine take_ (i := 4) (N := some 14) (v := ?_) (a' := ?_) (Goto.bs 23 255) rfl rfl (take_ofW HT_.out HW_.out (by kernel_rfl)) (fun _ _ _ h => h) (Or.inl ⟨by rfl, ?_⟩) hHeld ?_ ?_
         rotate_left
         ·
          rintro w' ⟨s0, s1, s2, s3, s4, s5, s6, s7⟩
          go_simp
          with_reducible rfl
         rotate_left
         ·
          exact Goto.ap
         refine take_ (i := 8) (N := some 18) (v := ?_) (a' := ?_) (Goto.bs 23 511) rfl rfl (take_ofW HT_.out HW_.out (by kernel_rfl)) (fun _ _ _ h => h) (Or.inl ⟨by rfl, ?_⟩) hHeld ?_ ?_
         rotate_left
         ·
          rintro w' ⟨s0, s1, s2, s3, s4, s5, s6, s7⟩
          go_simp
          with_reducible rfl
         rotate_left
         ·
          exact Goto.ap
         refine one_ (i := 9) (N := some 19) (Goto.bs 23 1023) rfl rfl (one_of HT_.out (by kernel_rfl)) (by decide) (fun K hK => ?_)
         refine goes_ Try.func29 (by kernel_rfl) rfl #[.agg #[.int .i64 ((rd_T42 l0 (ji3)).f0), .int .u64 ((rd_T42 l0 (ji3)).f1)], .agg #[.int .i64 ((rd_T42 l0 x3_1).f0), .int .u64 ((rd_T42 l0 x3_1).f1)]] (by rfl) rfl rfl (by (try simp only [List.map_toArray, List.map_cons, List.map_nil]); first | done | (simp only [hji3]; rfl) | rfl | (simp only [List.length_drop, List.length_take]; rfl)) ?_
         with_reducible refine (tontineref1_Leq.calls ((rd_T42 l0 (ji3)).f0) ((rd_T42 l0 (ji3)).f1) ((rd_T42 l0 x3_1).f0) ((rd_T42 l0 x3_1).f1) true _ A7.out).mono ?_
         rintro e w11 ⟨rfl, hb⟩
         refine ⟨_, rfl, ?_⟩
         replace HB := Goto.hs HB hb
         (try clear hb)
         (try clear hb2)
         (try clear hk)
         (try clear hi)
         refine hK.out _ _ ⟨(Goto.kc HB.out hw120_0), (Goto.kc HB.out hw120_1), (Goto.kc HB.out hw121_0), (Goto.kc HB.out hw121_1), (Goto.kc HB.out hw123_0), (Goto.kc HB.out hw123_1), (Goto.kc HB.out hw124_0), (Goto.kc HB.out hw124_1)⟩ (fun hHeld => ?_)
         clear hK K
         refine norm_ (a' := ?_) ?_ ?_
         rotate_left
         ·
          show Act.put _ (some 19) _ = _
          exact Goto.ap
         refine pure_ (i := 10) (N := some 20) (v := ?_) (a' := ?_) (Goto.bs 23 2047) rfl rfl (any_of HT_.out (by kernel_rfl)) (fun _ _ _ h => h) (Or.inl ⟨by rfl, ?_⟩) ?_ ?_
         rotate_left
         ·
          intro w'
          go_simp
          with_reducible rfl
         rotate_left
         ·
          exact Goto.ap
         refine pure_ (i := 11) (N := some 21) (v := ?_) (a' := ?_) (Goto.bs 23 4095) rfl rfl (any_of HT_.out (by kernel_rfl)) (fun _ _ _ h => h) (Or.inl ⟨by rfl, ?_⟩) ?_ ?_
         rotate_left
         ·
          intro w'
          go_simp
          with_reducible rfl
         rotate_left
         ·
          exact Goto.ap
         refine pure_ (i := 12) (N := some 22) (v := ?_) (a' := ?_) (Goto.bs 23 8191) rfl rfl (any_of HT_.out (by kernel_rfl)) (fun _ _ _ h => h) (Or.inl ⟨by rfl, ?_⟩) ?_ ?_
         rotate_left
         ·
          intro w'
          go_simp
          with_reducible rfl
         rotate_left
         ·
          exact Goto.ap
         refine pure_ (i := 13) (N := some 23) (v := ?_) (a' := ?_) (Goto.bs 23 16383) rfl rfl (any_of HT_.out (by kernel_rfl)) (fun _ _ _ h => h) (Or.inl ⟨by rfl, ?_⟩) ?_ ?_
         rotate_left
         ·
          intro w'
          go_simp
          with_reducible rfl
         rotate_left
         ·
          exact Goto.ap
         refine pure_ (i := 14) (N := some 24) (v := ?_) (a' := ?_) (Goto.bs 23 32767) rfl rfl (any_of HT_.out (by kernel_rfl)) (fun _ _ _ h => h) (Or.inl ⟨by rfl, ?_⟩) ?_ ?_
         rotate_left
         ·
          intro w'
          go_simp
          with_reducible rfl
         rotate_left
         ·
          exact Goto.ap
         refine pure_ (i := 15) (N := some 25) (v := ?_) (a' := ?_) (Goto.bs 23 65535) rfl rfl (any_of HT_.out (by kernel_rfl)) (fun _ _ _ h => h) (Or.inl ⟨by rfl, ?_⟩) ?_ ?_
         rotate_left
         ·
          intro w'
          go_simp
          with_reducible rfl
         rotate_left
         ·
          exact Goto.ap
         refine pure_ (i := 17) (N := some 27) (v := ?_) (a' := ?_) (Goto.bs 23 196607) rfl rfl (any_of HT_.out (by kernel_rfl)) (fun _ _ _ h => h) (Or.inl ⟨by rfl, ?_⟩) ?_ ?_
         rotate_left
         ·
          intro w'
          go_simp
          with_reducible rfl
         rotate_left
         ·
          exact Goto.ap
         refine pure_ (i := 18) (N := some 28) (v := ?_) (a' := ?_) (Goto.bs 23 458751) rfl rfl (any_of HT_.out (by kernel_rfl)) (fun _ _ _ h => h) (Or.inl ⟨by rfl, ?_⟩) ?_ ?_
         rotate_left
         ·
          intro w'
          go_simp
          with_reducible rfl
         rotate_left
         ·
          exact Goto.ap
         refine pure_ (i := 19) (N := some 29) (v := ?_) (a' := ?_) (Goto.bs 23 983039) rfl rfl (any_of HT_.out (by kernel_rfl)) (fun _ _ _ h => h) (Or.inl ⟨by rfl, ?_⟩) ?_ ?_
         rotate_left
         ·
          intro w'
          go_simp
          with_reducible rfl
         rotate_left
         ·
          exact Goto.ap
         refine take_ (i := 16) (N := some 26) (v := ?_) (a' := ?_) (Goto.bs 23 1048575) rfl rfl (take_ofW HT_.out HW_.out (by kernel_rfl)) (fun _ _ _ h => h) (Or.inl ⟨by rfl, ?_⟩) hHeld ?_ ?_
         rotate_left
         ·
          rintro w' ⟨s0, s1, s2, s3, s4, s5, s6, s7⟩
          go_simp
          with_reducible rfl
         rotate_left
         ·
          exact Goto.ap
         refine take_ (i := 20) (N := some 30) (v := ?_) (a' := ?_) (Goto.bs 23 2097151) rfl rfl (take_ofW HT_.out HW_.out (by kernel_rfl)) (fun _ _ _ h => h) (Or.inl ⟨by rfl, ?_⟩) hHeld ?_ ?_
         rotate_left
         ·
          rintro w' ⟨s0, s1, s2, s3, s4, s5, s6, s7⟩
          go_simp
          with_reducible rfl
         rotate_left
         ·
          exact Goto.ap
         refine pure_ (i := 21) (N := some 31) (v := ?_) (a' := ?_) (Goto.bs 23 4194303) rfl rfl (any_of HT_.out (by kernel_rfl)) (fun _ _ _ h => h) (Or.inl ⟨by rfl, ?_⟩) ?_ ?_
         rotate_left
         ·
          intro w'
          go_simp
          with_reducible rfl
         rotate_left
         ·
          exact Goto.ap
         refine pure_ (i := 22) (N := some 32) (v := ?_) (a' := ?_) (Goto.bs 23 8388607) rfl rfl (any_of HT_.out (by kernel_rfl)) (fun _ _ _ h => h) (Or.inl ⟨by rfl, ?_⟩) ?_ ?_
         rotate_left
         ·
          intro w'
          go_simp
          with_reducible rfl
         rotate_left
         ·
          exact Goto.ap
         refine done_ (done_of HT_.out (by kernel_rfl)) ?_
         try go_wp2
         go_ret
         exact ⟨by first | rfl | (simp [errW_none, errW_some] <;> rfl) | (simp only [← hji3]; first | rfl | (simp [errW_none, errW_some] <;> rfl)) | (simp [*, errW_none, errW_some] <;> rfl), by repeat (first | (with_reducible first | exact HB.out | apply below_alloc | apply pw_below_drewN | apply below_drew1) | exact HB.out)⟩
        ·
         rw [if_neg c9] at H
         have c9b0 : (((rd_T42 l0 (ji3)).f0) == ((rd_T42 l0 x3_1).f0) && (((rd_T42 l0 (ji3)).f1) == ((rd_T42 l0 x3_1).f1))) = false := by simpa using c9
         (try (have c9b1 : decide (((rd_T42 l0 (ji3)).f0) = ((rd_T42 l0 x3_1).f0) && (((rd_T42 l0 (ji3)).f1) == ((rd_T42 l0 x3_1).f1))) = false := by simpa using c9))
         (try (have c9b2 : (((rd_T42 l0 (ji3)).f0) == ((rd_T42 l0 x3_1).f0) && (((rd_T42 l0 (ji3)).f1) == ((rd_T42 l0 x3_1).f1))) = false := by simpa using c9))
         (try (have c9b3 : ¬ (((rd_T42 l0 (ji3)).f0) = ((rd_T42 l0 x3_1).f0) && (((rd_T42 l0 (ji3)).f1) == ((rd_T42 l0 x3_1).f1))) := by simpa using c9))
         clear c9
         have H' := Goto.m0 H
         clear H
         try go_wp2
         replace HB := Goto.m0 (below_drew1 HB.out)
         have p120 : 0 ≤ ((ji3) : Int) := of_decide_eq_true (by first | (with_reducible assumption) | assumption)
         have q120 : (ji3) < (l0.length : Int) := of_decide_eq_true (by first | (with_reducible assumption) | assumption)
         obtain ⟨ad120, e120, hx120_0, hx120_1⟩ := at_T42 HR0.out (ji3) p120 q120
         have hw120_1 := hx120_1; have hw120_0 := hx120_0
         cases e120
         replace hx120_0 := Goto.kc HB.out hx120_0
         replace hx120_1 := Goto.kc HB.out hx120_1
         replace p120 := eq_true p120; replace q120 := eq_true q120
         have p121 : 0 ≤ (x3_1 : Int) := of_decide_eq_true (by first | (with_reducible assumption) | assumption)
         have q121 : x3_1 < (l0.length : Int) := of_decide_eq_true (by first | (with_reducible assumption) | assumption)
         obtain ⟨ad121, e121, hx121_0, hx121_1⟩ := at_T42 HR0.out x3_1 p121 q121
         have hw121_1 := hx121_1; have hw121_0 := hx121_0
         obtain rfl : ad120 = ad121 := (by injection e121)
         replace hx121_0 := Goto.kc HB.out hx121_0
         replace hx121_1 := Goto.kc HB.out hx121_1
         replace p121 := eq_true p121; replace q121 := eq_true q121
         have p123 : 0 ≤ ((ji3) : Int) := of_decide_eq_true (by first | (with_reducible assumption) | assumption)
         have q123 : (ji3) < (l0.length : Int) := of_decide_eq_true (by first | (with_reducible assumption) | assumption)
         obtain ⟨ad123, e123, hx123_0, hx123_1⟩ := at_T42 HR0.out (ji3) p123 q123
         have hw123_1 := hx123_1; have hw123_0 := hx123_0
         obtain rfl : ad120 = ad123 := (by injection e123)
         replace hx123_0 := Goto.kc HB.out hx123_0
         replace hx123_1 := Goto.kc HB.out hx123_1
         replace p123 := eq_true p123; replace q123 := eq_true q123
         have p124 : 0 ≤ (x3_1 : Int) := of_decide_eq_true (by first | (with_reducible assumption) | assumption)
         have q124 : x3_1 < (l0.length : Int) := of_decide_eq_true (by first | (with_reducible assumption) | assumption)
         obtain ⟨ad124, e124, hx124_0, hx124_1⟩ := at_T42 HR0.out x3_1 p124 q124
         have hw124_1 := hx124_1; have hw124_0 := hx124_0
         obtain rfl : ad120 = ad124 := (by injection e124)
         replace hx124_0 := Goto.kc HB.out hx124_0
         replace hx124_1 := Goto.kc HB.out hx124_1
         replace p124 := eq_true p124; replace q124 := eq_true q124
         refine start_ (n := 23) (S := fun w' => w'.cell? (ad120.add (((ji3)).toNat * 2)) = some (.int .i64 ((rd_T42 l0 (ji3)).f0)) ∧ w'.cell? ⟨(ad120.add (((ji3)).toNat * 2)).block, (ad120.add (((ji3)).toNat * 2)).off + 1, none⟩ = some (.int .u64 ((rd_T42 l0 (ji3)).f1)) ∧ w'.cell? (ad120.add ((x3_1).toNat * 2)) = some (.int .i64 ((rd_T42 l0 x3_1).f0)) ∧ w'.cell? ⟨(ad120.add ((x3_1).toNat * 2)).block, (ad120.add ((x3_1).toNat * 2)).off + 1, none⟩ = some (.int .u64 ((rd_T42 l0 x3_1).f1)) ∧ w'.cell? (ad120.add (((ji3)).toNat * 2)) = some (.int .i64 ((rd_T42 l0 (ji3)).f0)) ∧ w'.cell? ⟨(ad120.add (((ji3)).toNat * 2)).block, (ad120.add (((ji3)).toNat * 2)).off + 1, none⟩ = some (.int .u64 ((rd_T42 l0 (ji3)).f1)) ∧ w'.cell? (ad120.add ((x3_1).toNat * 2)) = some (.int .i64 ((rd_T42 l0 x3_1).f0)) ∧ w'.cell? ⟨(ad120.add ((x3_1).toNat * 2)).block, (ad120.add ((x3_1).toNat * 2)).off + 1, none⟩ = some (.int .u64 ((rd_T42 l0 x3_1).f1))) (ds := []) (.replicate 23 false) (by kernel_rfl) rfl rfl ⟨(Goto.kc HB.out hw120_0), (Goto.kc HB.out hw120_1), (Goto.kc HB.out hw121_0), (Goto.kc HB.out hw121_1), (Goto.kc HB.out hw123_0), (Goto.kc HB.out hw123_1), (Goto.kc HB.out hw124_0), (Goto.kc HB.out hw124_1)⟩ (fun hHeld => ?_); refine with_tabW tontineref1_Chain.tab4 tontineref1_Chain.bits4 (fun HT_ HW_ => ?_)
         generalize wr.drew = w12 at HB hx120_0 hx120_1 hx121_0 hx121_1 hx123_0 hx123_1 hx124_0 hx124_1 hHeld ⊢
         refine pure_ (i := 0) (N := some 10) (v := ?_) (a' := ?_) (Goto.bs 23 1) rfl rfl (any_of HT_.out (by kernel_rfl)) (fun _ _ _ h => h) (Or.inl ⟨by rfl, ?_⟩) ?_ ?_
         rotate_left
         ·
          intro w'
          go_simp
          with_reducible rfl
         rotate_left
         ·
          exact Goto.ap
         refine pure_ (i := 1) (N := some 11) (v := ?_) (a' := ?_) (Goto.bs 23 3) rfl rfl (any_of HT_.out (by kernel_rfl)) (fun _ _ _ h => h) (Or.inl ⟨by rfl, ?_⟩) ?_ ?_
         rotate_left
         ·
          intro w'
          go_simp
          with_reducible rfl
         rotate_left
         ·
          exact Goto.ap
         refine pure_ (i := 2) (N := some 12) (v := ?_) (a' := ?_) (Goto.bs 23 7) rfl rfl (any_of HT_.out (by kernel_rfl)) (fun _ _ _ h => h) (Or.inl ⟨by rfl, ?_⟩) ?_ ?_
         rotate_left
         ·
          intro w'
          go_simp
          with_reducible rfl
         rotate_left
         ·
          exact Goto.ap
         refine pure_ (i := 3) (N := some 13) (v := ?_) (a' := ?_) (Goto.bs 23 15) rfl rfl (any_of HT_.out (by kernel_rfl)) (fun _ _ _ h => h) (Or.inl ⟨by rfl, ?_⟩) ?_ ?_
         rotate_left
         ·
          intro w'
          go_simp
          with_reducible rfl
         rotate_left
         ·
          exact Goto.ap
         refine pure_ (i := 5) (N := some 15) (v := ?_) (a' := ?_) (Goto.bs 23 47) rfl rfl (any_of HT_.out (by kernel_rfl)) (fun _ _ _ h => h) (Or.inl ⟨by rfl, ?_⟩) ?_ ?_
         rotate_left
         ·
          intro w'
          go_simp
          with_reducible rfl
         rotate_left
         ·
          exact Goto.ap
         refine pure_ (i := 6) (N := some 16) (v := ?_) (a' := ?_) (Goto.bs 23 111) rfl rfl (any_of HT_.out (by kernel_rfl)) (fun _ _ _ h => h) (Or.inl ⟨by rfl, ?_⟩) ?_ ?_
         rotate_left
         ·
          intro w'
          go_simp
          with_reducible rfl
         rotate_left
         ·
          exact Goto.ap
         refine pure_ (i := 7) (N := some 17) (v := ?_) (a' := ?_) (Goto.bs 23 239) rfl rfl (any_of HT_.out (by kernel_rfl)) (fun _ _ _ h => h) (Or.inl ⟨by rfl, ?_⟩) ?_ ?_
         rotate_left
         ·
          intro w'
          go_simp
          with_reducible rfl
         rotate_left
         ·
          exact Goto.ap
         refine take_ (i := 4) (N := some 14) (v := ?_) (a' := ?_) (Goto.bs 23 255) rfl rfl (take_ofW HT_.out HW_.out (by kernel_rfl)) (fun _ _ _ h => h) (Or.inl ⟨by rfl, ?_⟩) hHeld ?_ ?_
         rotate_left
         ·
          rintro w' ⟨s0, s1, s2, s3, s4, s5, s6, s7⟩
          go_simp
          with_reducible rfl
         rotate_left
         ·
          exact Goto.ap
         refine take_ (i := 8) (N := some 18) (v := ?_) (a' := ?_) (Goto.bs 23 511) rfl rfl (take_ofW HT_.out HW_.out (by kernel_rfl)) (fun _ _ _ h => h) (Or.inl ⟨by rfl, ?_⟩) hHeld ?_ ?_
         rotate_left
         ·
          rintro w' ⟨s0, s1, s2, s3, s4, s5, s6, s7⟩
          go_simp
          with_reducible rfl
         rotate_left
         ·
          exact Goto.ap
         refine one_ (i := 9) (N := some 19) (Goto.bs 23 1023) rfl rfl (one_of HT_.out (by kernel_rfl)) (by decide) (fun K hK => ?_)
         refine goes_ Try.func29 (by kernel_rfl) rfl #[.agg #[.int .i64 ((rd_T42 l0 (ji3)).f0), .int .u64 ((rd_T42 l0 (ji3)).f1)], .agg #[.int .i64 ((rd_T42 l0 x3_1).f0), .int .u64 ((rd_T42 l0 x3_1).f1)]] (by rfl) rfl rfl (by (try simp only [List.map_toArray, List.map_cons, List.map_nil]); first | done | (simp only [hji3]; rfl) | rfl | (simp only [List.length_drop, List.length_take]; rfl)) ?_
         with_reducible refine (tontineref1_Leq.calls ((rd_T42 l0 (ji3)).f0) ((rd_T42 l0 (ji3)).f1) ((rd_T42 l0 x3_1).f0) ((rd_T42 l0 x3_1).f1) true _ A7.out).mono ?_
         rintro e w13 ⟨rfl, hb⟩
         refine ⟨_, rfl, ?_⟩
         replace HB := Goto.hs HB hb
         (try clear hb)
         (try clear hb2)
         (try clear hk)
         (try clear hi)
         refine hK.out _ _ ⟨(Goto.kc HB.out hw120_0), (Goto.kc HB.out hw120_1), (Goto.kc HB.out hw121_0), (Goto.kc HB.out hw121_1), (Goto.kc HB.out hw123_0), (Goto.kc HB.out hw123_1), (Goto.kc HB.out hw124_0), (Goto.kc HB.out hw124_1)⟩ (fun hHeld => ?_)
         clear hK K
         refine norm_ (a' := ?_) ?_ ?_
         rotate_left
         ·
          show Act.put _ (some 19) _ = _
          exact Goto.ap
         refine pure_ (i := 10) (N := some 20) (v := ?_) (a' := ?_) (Goto.bs 23 2047) rfl rfl (any_of HT_.out (by kernel_rfl)) (fun _ _ _ h => h) (Or.inl ⟨by rfl, ?_⟩) ?_ ?_
         rotate_left
         ·
          intro w'
          go_simp
          with_reducible rfl
         rotate_left
         ·
          exact Goto.ap
         refine pure_ (i := 11) (N := some 21) (v := ?_) (a' := ?_) (Goto.bs 23 4095) rfl rfl (any_of HT_.out (by kernel_rfl)) (fun _ _ _ h => h) (Or.inl ⟨by rfl, ?_⟩) ?_ ?_
         rotate_left
         ·
          intro w'
          go_simp
          with_reducible rfl
         rotate_left
         ·
          exact Goto.ap
         refine pure_ (i := 12) (N := some 22) (v := ?_) (a' := ?_) (Goto.bs 23 8191) rfl rfl (any_of HT_.out (by kernel_rfl)) (fun _ _ _ h => h) (Or.inl ⟨by rfl, ?_⟩) ?_ ?_
         rotate_left
         ·
          intro w'
          go_simp
          with_reducible rfl
         rotate_left
         ·
          exact Goto.ap
         refine pure_ (i := 13) (N := some 23) (v := ?_) (a' := ?_) (Goto.bs 23 16383) rfl rfl (any_of HT_.out (by kernel_rfl)) (fun _ _ _ h => h) (Or.inl ⟨by rfl, ?_⟩) ?_ ?_
         rotate_left
         ·
          intro w'
          go_simp
          with_reducible rfl
         rotate_left
         ·
          exact Goto.ap
         refine pure_ (i := 14) (N := some 24) (v := ?_) (a' := ?_) (Goto.bs 23 32767) rfl rfl (any_of HT_.out (by kernel_rfl)) (fun _ _ _ h => h) (Or.inl ⟨by rfl, ?_⟩) ?_ ?_
         rotate_left
         ·
          intro w'
          go_simp
          with_reducible rfl
         rotate_left
         ·
          exact Goto.ap
         refine pure_ (i := 15) (N := some 25) (v := ?_) (a' := ?_) (Goto.bs 23 65535) rfl rfl (any_of HT_.out (by kernel_rfl)) (fun _ _ _ h => h) (Or.inl ⟨by rfl, ?_⟩) ?_ ?_
         rotate_left
         ·
          intro w'
          go_simp
          with_reducible rfl
         rotate_left
         ·
          exact Goto.ap
         refine pure_ (i := 17) (N := some 27) (v := ?_) (a' := ?_) (Goto.bs 23 196607) rfl rfl (any_of HT_.out (by kernel_rfl)) (fun _ _ _ h => h) (Or.inl ⟨by rfl, ?_⟩) ?_ ?_
         rotate_left
         ·
          intro w'
          go_simp
          with_reducible rfl
         rotate_left
         ·
          exact Goto.ap
         refine pure_ (i := 18) (N := some 28) (v := ?_) (a' := ?_) (Goto.bs 23 458751) rfl rfl (any_of HT_.out (by kernel_rfl)) (fun _ _ _ h => h) (Or.inl ⟨by rfl, ?_⟩) ?_ ?_
         rotate_left
         ·
          intro w'
          go_simp
          with_reducible rfl
         rotate_left
         ·
          exact Goto.ap
         refine pure_ (i := 19) (N := some 29) (v := ?_) (a' := ?_) (Goto.bs 23 983039) rfl rfl (any_of HT_.out (by kernel_rfl)) (fun _ _ _ h => h) (Or.inl ⟨by rfl, ?_⟩) ?_ ?_
         rotate_left
         ·
          intro w'
          go_simp
          with_reducible rfl
         rotate_left
         ·
          exact Goto.ap
         refine take_ (i := 16) (N := some 26) (v := ?_) (a' := ?_) (Goto.bs 23 1048575) rfl rfl (take_ofW HT_.out HW_.out (by kernel_rfl)) (fun _ _ _ h => h) (Or.inl ⟨by rfl, ?_⟩) hHeld ?_ ?_
         rotate_left
         ·
          rintro w' ⟨s0, s1, s2, s3, s4, s5, s6, s7⟩
          go_simp
          with_reducible rfl
         rotate_left
         ·
          exact Goto.ap
         refine take_ (i := 20) (N := some 30) (v := ?_) (a' := ?_) (Goto.bs 23 2097151) rfl rfl (take_ofW HT_.out HW_.out (by kernel_rfl)) (fun _ _ _ h => h) (Or.inl ⟨by rfl, ?_⟩) hHeld ?_ ?_
         rotate_left
         ·
          rintro w' ⟨s0, s1, s2, s3, s4, s5, s6, s7⟩
          go_simp
          with_reducible rfl
         rotate_left
         ·
          exact Goto.ap
         refine pure_ (i := 21) (N := some 31) (v := ?_) (a' := ?_) (Goto.bs 23 4194303) rfl rfl (any_of HT_.out (by kernel_rfl)) (fun _ _ _ h => h) (Or.inl ⟨by rfl, ?_⟩) ?_ ?_
         rotate_left
         ·
          intro w'
          go_simp
          with_reducible rfl
         rotate_left
         ·
          exact Goto.ap
         refine pure_ (i := 22) (N := some 32) (v := ?_) (a' := ?_) (Goto.bs 23 8388607) rfl rfl (any_of HT_.out (by kernel_rfl)) (fun _ _ _ h => h) (Or.inl ⟨by rfl, ?_⟩) ?_ ?_
         rotate_left
         ·
          intro w'
          go_simp
          with_reducible rfl
         rotate_left
         ·
          exact Goto.ap
         refine done_ (done_of HT_.out (by kernel_rfl)) ?_
         try go_wp2
         go_roundg k1
         case measure => have := HK1.out; omega
         case rel => exact ⟨(wrap64 (x3_1 + 1)), (by first | rfl | (simp; done) | (simp [*]; done)), H', ⟨by have := HK1.out; omega⟩, ⟨Goto.hx HB⟩⟩
       ·
        replace c8 := Bool.eq_false_iff.mpr c8
        subst c8
        rw [if_neg (show ¬ (false = true) by decide)] at H
        obtain rfl := Option.some.inj H
        try go_wp2
        replace HB := Goto.m0 (below_drew1 HB.out)
        have p120 : 0 ≤ ((ji3) : Int) := of_decide_eq_true (by first | (with_reducible assumption) | assumption)
        have q120 : (ji3) < (l0.length : Int) := of_decide_eq_true (by first | (with_reducible assumption) | assumption)
        obtain ⟨ad120, e120, hx120_0, hx120_1⟩ := at_T42 HR0.out (ji3) p120 q120
        have hw120_1 := hx120_1; have hw120_0 := hx120_0
        cases e120
        replace hx120_0 := Goto.kc HB.out hx120_0
        replace hx120_1 := Goto.kc HB.out hx120_1
        replace p120 := eq_true p120; replace q120 := eq_true q120
        have p121 : 0 ≤ (x3_1 : Int) := of_decide_eq_true (by first | (with_reducible assumption) | assumption)
        have q121 : x3_1 < (l0.length : Int) := of_decide_eq_true (by first | (with_reducible assumption) | assumption)
        obtain ⟨ad121, e121, hx121_0, hx121_1⟩ := at_T42 HR0.out x3_1 p121 q121
        have hw121_1 := hx121_1; have hw121_0 := hx121_0
        obtain rfl : ad120 = ad121 := (by injection e121)
        replace hx121_0 := Goto.kc HB.out hx121_0
        replace hx121_1 := Goto.kc HB.out hx121_1
        replace p121 := eq_true p121; replace q121 := eq_true q121
        refine start_ (n := 23) (S := fun w' => w'.cell? (ad120.add (((ji3)).toNat * 2)) = some (.int .i64 ((rd_T42 l0 (ji3)).f0)) ∧ w'.cell? ⟨(ad120.add (((ji3)).toNat * 2)).block, (ad120.add (((ji3)).toNat * 2)).off + 1, none⟩ = some (.int .u64 ((rd_T42 l0 (ji3)).f1)) ∧ w'.cell? (ad120.add ((x3_1).toNat * 2)) = some (.int .i64 ((rd_T42 l0 x3_1).f0)) ∧ w'.cell? ⟨(ad120.add ((x3_1).toNat * 2)).block, (ad120.add ((x3_1).toNat * 2)).off + 1, none⟩ = some (.int .u64 ((rd_T42 l0 x3_1).f1))) (ds := []) (.replicate 23 false) (by kernel_rfl) rfl rfl ⟨(Goto.kc HB.out hw120_0), (Goto.kc HB.out hw120_1), (Goto.kc HB.out hw121_0), (Goto.kc HB.out hw121_1)⟩ (fun hHeld => ?_); refine with_tabW tontineref1_Chain.tab4 tontineref1_Chain.bits4 (fun HT_ HW_ => ?_)
        generalize wr.drew = w14 at HB hx120_0 hx120_1 hx121_0 hx121_1 hHeld ⊢
        refine pure_ (i := 0) (N := some 10) (v := ?_) (a' := ?_) (Goto.bs 23 1) rfl rfl (any_of HT_.out (by kernel_rfl)) (fun _ _ _ h => h) (Or.inl ⟨by rfl, ?_⟩) ?_ ?_
        rotate_left
        ·
         intro w'
         go_simp
         with_reducible rfl
        rotate_left
        ·
         exact Goto.ap
        refine pure_ (i := 1) (N := some 11) (v := ?_) (a' := ?_) (Goto.bs 23 3) rfl rfl (any_of HT_.out (by kernel_rfl)) (fun _ _ _ h => h) (Or.inl ⟨by rfl, ?_⟩) ?_ ?_
        rotate_left
        ·
         intro w'
         go_simp
         with_reducible rfl
        rotate_left
        ·
         exact Goto.ap
        refine pure_ (i := 2) (N := some 12) (v := ?_) (a' := ?_) (Goto.bs 23 7) rfl rfl (any_of HT_.out (by kernel_rfl)) (fun _ _ _ h => h) (Or.inl ⟨by rfl, ?_⟩) ?_ ?_
        rotate_left
        ·
         intro w'
         go_simp
         with_reducible rfl
        rotate_left
        ·
         exact Goto.ap
        refine pure_ (i := 3) (N := some 13) (v := ?_) (a' := ?_) (Goto.bs 23 15) rfl rfl (any_of HT_.out (by kernel_rfl)) (fun _ _ _ h => h) (Or.inl ⟨by rfl, ?_⟩) ?_ ?_
        rotate_left
        ·
         intro w'
         go_simp
         with_reducible rfl
        rotate_left
        ·
         exact Goto.ap
        refine pure_ (i := 5) (N := some 15) (v := ?_) (a' := ?_) (Goto.bs 23 47) rfl rfl (any_of HT_.out (by kernel_rfl)) (fun _ _ _ h => h) (Or.inl ⟨by rfl, ?_⟩) ?_ ?_
        rotate_left
        ·
         intro w'
         go_simp
         with_reducible rfl
        rotate_left
        ·
         exact Goto.ap
        refine pure_ (i := 6) (N := some 16) (v := ?_) (a' := ?_) (Goto.bs 23 111) rfl rfl (any_of HT_.out (by kernel_rfl)) (fun _ _ _ h => h) (Or.inl ⟨by rfl, ?_⟩) ?_ ?_
        rotate_left
        ·
         intro w'
         go_simp
         with_reducible rfl
        rotate_left
        ·
         exact Goto.ap
        refine pure_ (i := 7) (N := some 17) (v := ?_) (a' := ?_) (Goto.bs 23 239) rfl rfl (any_of HT_.out (by kernel_rfl)) (fun _ _ _ h => h) (Or.inl ⟨by rfl, ?_⟩) ?_ ?_
        rotate_left
        ·
         intro w'
         go_simp
         with_reducible rfl
        rotate_left
        ·
         exact Goto.ap
        refine take_ (i := 4) (N := some 14) (v := ?_) (a' := ?_) (Goto.bs 23 255) rfl rfl (take_ofW HT_.out HW_.out (by kernel_rfl)) (fun _ _ _ h => h) (Or.inl ⟨by rfl, ?_⟩) hHeld ?_ ?_
        rotate_left
        ·
         rintro w' ⟨s0, s1, s2, s3⟩
         go_simp
         with_reducible rfl
        rotate_left
        ·
         exact Goto.ap
        refine take_ (i := 8) (N := some 18) (v := ?_) (a' := ?_) (Goto.bs 23 511) rfl rfl (take_ofW HT_.out HW_.out (by kernel_rfl)) (fun _ _ _ h => h) (Or.inl ⟨by rfl, ?_⟩) hHeld ?_ ?_
        rotate_left
        ·
         rintro w' ⟨s0, s1, s2, s3⟩
         go_simp
         with_reducible rfl
        rotate_left
        ·
         exact Goto.ap
        refine one_ (i := 9) (N := some 19) (Goto.bs 23 1023) rfl rfl (one_of HT_.out (by kernel_rfl)) (by decide) (fun K hK => ?_)
        refine goes_ Try.func29 (by kernel_rfl) rfl #[.agg #[.int .i64 ((rd_T42 l0 (ji3)).f0), .int .u64 ((rd_T42 l0 (ji3)).f1)], .agg #[.int .i64 ((rd_T42 l0 x3_1).f0), .int .u64 ((rd_T42 l0 x3_1).f1)]] (by rfl) rfl rfl (by (try simp only [List.map_toArray, List.map_cons, List.map_nil]); first | done | (simp only [hji3]; rfl) | rfl | (simp only [List.length_drop, List.length_take]; rfl)) ?_
        with_reducible refine (tontineref1_Leq.calls ((rd_T42 l0 (ji3)).f0) ((rd_T42 l0 (ji3)).f1) ((rd_T42 l0 x3_1).f0) ((rd_T42 l0 x3_1).f1) false _ A7.out).mono ?_
        rintro e w15 ⟨rfl, hb⟩
        refine ⟨_, rfl, ?_⟩
        replace HB := Goto.hs HB hb
        (try clear hb)
        (try clear hb2)
        (try clear hk)
        (try clear hi)
        refine hK.out _ _ ⟨(Goto.kc HB.out hw120_0), (Goto.kc HB.out hw120_1), (Goto.kc HB.out hw121_0), (Goto.kc HB.out hw121_1)⟩ (fun hHeld => ?_)
        clear hK K
        refine norm_ (a' := ?_) ?_ ?_
        rotate_left
        ·
         show Act.put _ (some 19) _ = _
         exact Goto.ap
        refine pure_ (i := 10) (N := some 20) (v := ?_) (a' := ?_) (Goto.bs 23 2047) rfl rfl (any_of HT_.out (by kernel_rfl)) (fun _ _ _ h => h) (Or.inl ⟨by rfl, ?_⟩) ?_ ?_
        rotate_left
        ·
         intro w'
         go_simp
         with_reducible rfl
        rotate_left
        ·
         exact Goto.ap
        refine pure_ (i := 11) (N := some 21) (v := ?_) (a' := ?_) (Goto.bs 23 4095) rfl rfl (any_of HT_.out (by kernel_rfl)) (fun _ _ _ h => h) (Or.inl ⟨by rfl, ?_⟩) ?_ ?_
        rotate_left
        ·
         intro w'
         go_simp
         with_reducible rfl
        rotate_left
        ·
         exact Goto.ap
        refine pure_ (i := 12) (N := some 22) (v := undef) (a' := ?_) (Goto.bs 23 8191) rfl rfl (any_of HT_.out (by kernel_rfl)) (fun _ _ _ h => h) (Or.inr ⟨by rfl, rfl⟩) ?_ ?_
        rotate_left
        ·
         exact Goto.ap
        refine pure_ (i := 13) (N := some 23) (v := undef) (a' := ?_) (Goto.bs 23 16383) rfl rfl (any_of HT_.out (by kernel_rfl)) (fun _ _ _ h => h) (Or.inr ⟨by rfl, rfl⟩) ?_ ?_
        rotate_left
        ·
         exact Goto.ap
        refine pure_ (i := 14) (N := some 24) (v := undef) (a' := ?_) (Goto.bs 23 32767) rfl rfl (any_of HT_.out (by kernel_rfl)) (fun _ _ _ h => h) (Or.inr ⟨by rfl, rfl⟩) ?_ ?_
        rotate_left
        ·
         exact Goto.ap
        refine pure_ (i := 15) (N := some 25) (v := undef) (a' := ?_) (Goto.bs 23 65535) rfl rfl (any_of HT_.out (by kernel_rfl)) (fun _ _ _ h => h) (Or.inr ⟨by rfl, rfl⟩) ?_ ?_
        rotate_left
        ·
         exact Goto.ap
        refine pure_ (i := 16) (N := some 26) (v := undef) (a' := ?_) (Goto.bs 23 131071) rfl rfl (any_of HT_.out (by kernel_rfl)) (fun _ _ _ h => h) (Or.inr ⟨by rfl, rfl⟩) ?_ ?_
        rotate_left
        ·
         exact Goto.ap
        refine pure_ (i := 17) (N := some 27) (v := undef) (a' := ?_) (Goto.bs 23 262143) rfl rfl (any_of HT_.out (by kernel_rfl)) (fun _ _ _ h => h) (Or.inr ⟨by rfl, rfl⟩) ?_ ?_
        rotate_left
        ·
         exact Goto.ap
        refine pure_ (i := 18) (N := some 28) (v := undef) (a' := ?_) (Goto.bs 23 524287) rfl rfl (any_of HT_.out (by kernel_rfl)) (fun _ _ _ h => h) (Or.inr ⟨by rfl, rfl⟩) ?_ ?_
        rotate_left
        ·
         exact Goto.ap
        refine pure_ (i := 19) (N := some 29) (v := undef) (a' := ?_) (Goto.bs 23 1048575) rfl rfl (any_of HT_.out (by kernel_rfl)) (fun _ _ _ h => h) (Or.inr ⟨by rfl, rfl⟩) ?_ ?_
        rotate_left
        ·
         exact Goto.ap
        refine pure_ (i := 20) (N := some 30) (v := undef) (a' := ?_) (Goto.bs 23 2097151) rfl rfl (any_of HT_.out (by kernel_rfl)) (fun _ _ _ h => h) (Or.inr ⟨by rfl, rfl⟩) ?_ ?_
        rotate_left
        ·
         exact Goto.ap
        refine pure_ (i := 21) (N := some 31) (v := undef) (a' := ?_) (Goto.bs 23 4194303) rfl rfl (any_of HT_.out (by kernel_rfl)) (fun _ _ _ h => h) (Or.inr ⟨by rfl, rfl⟩) ?_ ?_
        rotate_left
        ·
         exact Goto.ap
        refine pure_ (i := 22) (N := some 32) (v := ?_) (a' := ?_) (Goto.bs 23 8388607) rfl rfl (any_of HT_.out (by kernel_rfl)) (fun _ _ _ h => h) (Or.inl ⟨by rfl, ?_⟩) ?_ ?_
        rotate_left
        ·
         intro w'
         go_simp
         with_reducible rfl
        rotate_left
        ·
         exact Goto.ap
        refine done_ (done_of HT_.out (by kernel_rfl)) ?_
        try go_wp2
        go_ret
        exact ⟨by first | rfl | (simp [errW_none, errW_some] <;> rfl) | (simp only [← hji3]; first | rfl | (simp [errW_none, errW_some] <;> rfl)) | (simp [*, errW_none, errW_some] <;> rfl), by repeat (first | (with_reducible first | exact HB.out | apply below_alloc | apply pw_below_drewN | apply below_drew1) | exact HB.out)⟩
      ·
       rw [if_neg c6] at H
       exact absurd H (by simp)
     ·
      rw [if_neg c5] at H
      exact absurd H (by simp)
    ·
     rw [if_neg c4] at H
     exact absurd H (by simp)
   ·
    rw [if_neg c2] at H
    have c2b0 : decide (x3_1 < (l0.length : Int)) = false := decide_eq_false c2
    clear c2
    obtain rfl := Option.some.inj H
    go_wp2
    go_ret
    exact ⟨by first | rfl | (simp [errW_none, errW_some] <;> rfl) | (simp [*, errW_none, errW_some] <;> rfl), by repeat (first | (with_reducible first | exact HB.out | apply below_alloc | apply pw_below_drewN | apply below_drew1) | exact HB.out)⟩

end Go.Proofs.Ytbhfkhcedjgpdaa.P
