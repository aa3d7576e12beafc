/- Printed by a program of this workplace (a turned copy of the kit's optional print), out of the translation; not trusted: Lean checks it. -/
import Derived.Test.YtjgdcifbhmjinaaDoorPx0
import Derived.Test.YtjgdcifbhmjinaaDoorPx1
import Derived.Test.YtjgdcifbhmjinaaDoorPx9
namespace Go.Proofs.YtjgdcifbhmjinaaDoor.P
open Go.RowKit Go.Proofs.YtjgdcifbhmjinaaDoorW.PrintWords Go.Proofs.YtjgdcifbhmjinaaDoorW.PrintLast Go.Proofs.YtjgdcifbhmjinaaDoorW.PrintMore
attribute [local go_sem] max2_int min2_int max_two min_two max_three min_three max_four min_four   -- for this text's walks alone
set_option linter.unusedVariables false
set_option linter.unusedSimpArgs false

attribute [local go_sem high] eqA38
/-! ### tontineref1_Chain: function 42 -/
def tontineref1_Chain.l0 : Nat → List (S38) → Int → Option (Bool)
  | 0, _, _ => none
  | k + 1, x0, x3 => if x3 < (x0.length : Int) then (if 0 ≤ (wrap64 (x3 - 1)) then (if (wrap64 (x3 - 1)) < (x0.length : Int) then (if 0 ≤ x3 then ((tontineref1_Leq.f ((rd_T38 x0 (wrap64 (x3 - 1))).f0) ((rd_T38 x0 (wrap64 (x3 - 1))).f1) ((rd_T38 x0 x3).f0) ((rd_T38 x0 x3).f1)).bind fun t256 => (if t256 = true then (if (((rd_T38 x0 (wrap64 (x3 - 1))).f0) == ((rd_T38 x0 x3).f0) && (((rd_T38 x0 (wrap64 (x3 - 1))).f1) == ((rd_T38 x0 x3).f1))) = true then (some false) else (tontineref1_Chain.l0 k x0 (wrap64 (x3 + 1)))) else (some false))) else (none)) else (none)) else (none)) else (some true)
def tontineref1_Chain.f (k : Nat) (l0 : List (S38)) : Option (Bool) := tontineref1_Chain.l0 k l0 1
def tontineref1_Chain.T4 : Bool × List (List Nat × List Nat) := (true, [([], []), ([], []), ([1], [1]), ([0, 2], [0, 2]), ([3], [3]), ([], []), ([], []), ([5, 6], [5, 6]), ([7], [7]), ([4, 8], [4, 8]), ([9], [9]), ([10, 9], [10]), ([11], [11]), ([11], [11]), ([13, 11], [11, 13]), ([12, 14, 11], [11, 12, 14]), ([15, 11], [11, 15]), ([11], [11]), ([11], [11]), ([17, 18, 11], [11, 17, 18]), ([19, 11], [11, 19]), ([16, 20, 11], [11, 16, 20]), ([11, 21], [11, 21])])
def tontineref1_Chain.B4 : List Nat := [0, 0, 2, 7, 15, 0, 0, 96, 224, 511, 1023, 2047, 4095, 4095, 12287, 32767, 65535, 4095, 4095, 397311, 921599, 2097151, 4194303]
theorem tontineref1_Chain.tab4 : rtab .any (opsOf Tryd.f42 4) = tontineref1_Chain.T4 := by kernel_rfl
theorem tontineref1_Chain.bits4 : waitsOk tontineref1_Chain.T4.2 tontineref1_Chain.B4 = true := by kernel_rfl
set_option maxHeartbeats 8000000 in
set_option maxRecDepth 100000 in
theorem tontineref1_Chain.calls (k : Nat) (A0 : Option Addr) (c0 : Nat) (l0 : List (S38)) (r : Bool) (w : World) (hr0 : Kd.C k38 w A0 l0.length l0) (hc0 : l0.length ≤ c0) (h : tontineref1_Chain.f k l0 = some r) :
    Calls Tryd.prog 42 #[.slice A0 l0.length c0] w fun e w' => e = .returned (.bool r) ∧ Below w.heap.size w w' := by
 have hu38 := Tryd.underlying38
 have HR0 := Goto.m0 hr0
 have HC0 := Goto.m0 hc0
 clear hr0 hc0
 have HB := Goto.m0 (Below.refl w.heap.size w)
 have H : (tontineref1_Chain.l0 k l0 1) = some r := h
 clear h
 have H' := Goto.m0 H
 clear H
 go_enter Tryd.func42, Tryd.ntmps42
 go_wp2
 go_loopg [3] k (fun kq v3 w' => ∃ (x3_1 : Int), v3 = .int .i64 x3_1 ∧ Aside0 (tontineref1_Chain.l0 kq l0 x3_1 = some r) ∧ Aside0 (kq ≤ k) ∧ Aside0 (Below w.heap.size w w'))
 case atStart => exact ⟨(1), (by first | rfl | (simp; done) | (simp [*]; done)), H', ⟨Nat.le_refl _⟩, ⟨Goto.hx HB⟩⟩
 case round =>
  clear H'
  obtain ⟨x3_1, rfl, HA, HK1, HB⟩ := hrel
  cases gk with
  | zero => exact absurd HA.out (by simp [tontineref1_Chain.l0])
  | succ k1 =>
   have H := HA.out; clear HA
   simp only [tontineref1_Chain.l0] at H
   by_cases c2 : x3_1 < (l0.length : Int)
   ·
    rw [if_pos c2] at H
    have c2b0 : decide (x3_1 < (l0.length : Int)) = true := decide_eq_true c2
    clear c2
    obtain ⟨ji3, hji3⟩ : ∃ j_ : Int, (wrap64 (x3_1 - 1)) = j_ := ⟨_, rfl⟩
    replace H : (if 0 ≤ (ji3) then (if (ji3) < (l0.length : Int) then (if 0 ≤ x3_1 then ((tontineref1_Leq.f ((rd_T38 l0 (ji3)).f0) ((rd_T38 l0 (ji3)).f1) ((rd_T38 l0 x3_1).f0) ((rd_T38 l0 x3_1).f1)).bind fun t256 => (if t256 = true then (if (((rd_T38 l0 (ji3)).f0) == ((rd_T38 l0 x3_1).f0) && (((rd_T38 l0 (ji3)).f1) == ((rd_T38 l0 x3_1).f1))) = true then (some false) else (tontineref1_Chain.l0 k1 l0 (wrap64 (x3_1 + 1)))) else (some false))) else (none)) else (none)) else (none)) = some r := by first | (rw [hji3] at H; exact H) | (simp only [hji3] at H ⊢; exact H)
    have hji3w : (IntKind.i64.wrap (x3_1 - 1)) = ji3 := (i64_w _).trans hji3
    by_cases c4 : 0 ≤ (ji3)
    ·
     rw [if_pos c4] at H
     have c4b0 : decide (0 ≤ (ji3)) = true := decide_eq_true c4
     clear c4
     by_cases c5 : (ji3) < (l0.length : Int)
     ·
      rw [if_pos c5] at H
      have c5b0 : decide ((ji3) < (l0.length : Int)) = true := decide_eq_true c5
      clear c5
      by_cases c6 : 0 ≤ x3_1
      ·
       rw [if_pos c6] at H
       have c6b0 : decide (0 ≤ x3_1) = true := decide_eq_true c6
       clear c6
       replace H := Option.bind_eq_some_iff.mp H
       obtain ⟨t256, A70, H⟩ := H
       have A7 := Goto.m0 A70
       clear A70
       by_cases c8 : t256 = true
       ·
        subst c8
        rw [if_pos rfl] at H
        by_cases c9 : (((rd_T38 l0 (ji3)).f0) == ((rd_T38 l0 x3_1).f0) && (((rd_T38 l0 (ji3)).f1) == ((rd_T38 l0 x3_1).f1))) = true
        ·
         rw [if_pos c9] at H
         have c9b0 : (((rd_T38 l0 (ji3)).f0) == ((rd_T38 l0 x3_1).f0) && (((rd_T38 l0 (ji3)).f1) == ((rd_T38 l0 x3_1).f1))) = true := c9
         (try (have c9b1 : decide (((rd_T38 l0 (ji3)).f0) = ((rd_T38 l0 x3_1).f0) && (((rd_T38 l0 (ji3)).f1) == ((rd_T38 l0 x3_1).f1))) = true := by simpa using c9))
         (try (have c9b2 : (((rd_T38 l0 (ji3)).f0) == ((rd_T38 l0 x3_1).f0) && (((rd_T38 l0 (ji3)).f1) == ((rd_T38 l0 x3_1).f1))) = true := by simpa using c9))
         clear c9
         obtain rfl := Option.some.inj H
         try go_wp2
         replace HB := Goto.m0 (below_drew1 HB.out)
         have p254 : 0 ≤ ((ji3) : Int) := Goto.od
         have q254 : (ji3) < (l0.length : Int) := Goto.od
         obtain ⟨ad254, e254, hx254_0, hx254_1⟩ := at_T38 HR0.out (ji3) p254 q254
         have hw254_1 := hx254_1; have hw254_0 := hx254_0
         cases e254
         replace hx254_0 := Goto.kc HB.out hx254_0
         replace hx254_1 := Goto.kc HB.out hx254_1
         replace p254 := eq_true p254; replace q254 := eq_true q254
         have p255 : 0 ≤ (x3_1 : Int) := Goto.od
         have q255 : x3_1 < (l0.length : Int) := Goto.od
         obtain ⟨ad255, e255, hx255_0, hx255_1⟩ := at_T38 HR0.out x3_1 p255 q255
         have hw255_1 := hx255_1; have hw255_0 := hx255_0
         obtain rfl : ad254 = ad255 := (by injection e255)
         replace hx255_0 := Goto.kc HB.out hx255_0
         replace hx255_1 := Goto.kc HB.out hx255_1
         replace p255 := eq_true p255; replace q255 := eq_true q255
         have p257 : 0 ≤ ((ji3) : Int) := Goto.od
         have q257 : (ji3) < (l0.length : Int) := Goto.od
         obtain ⟨ad257, e257, hx257_0, hx257_1⟩ := at_T38 HR0.out (ji3) p257 q257
         have hw257_1 := hx257_1; have hw257_0 := hx257_0
         obtain rfl : ad254 = ad257 := (by injection e257)
         replace hx257_0 := Goto.kc HB.out hx257_0
         replace hx257_1 := Goto.kc HB.out hx257_1
         replace p257 := eq_true p257; replace q257 := eq_true q257
         have p258 : 0 ≤ (x3_1 : Int) := Goto.od
         have q258 : x3_1 < (l0.length : Int) := Goto.od
         obtain ⟨ad258, e258, hx258_0, hx258_1⟩ := at_T38 HR0.out x3_1 p258 q258
         have hw258_1 := hx258_1; have hw258_0 := hx258_0
         obtain rfl : ad254 = ad258 := (by injection e258)
         replace hx258_0 := Goto.kc HB.out hx258_0
         replace hx258_1 := Goto.kc HB.out hx258_1
         replace p258 := eq_true p258; replace q258 := eq_true q258
         refine start_ (n := 23) (S := fun w' => w'.cell? (ad254.add (((ji3)).toNat * 2)) = some (.int .i64 ((rd_T38 l0 (ji3)).f0)) ∧ w'.cell? ⟨(ad254.add (((ji3)).toNat * 2)).block, (ad254.add (((ji3)).toNat * 2)).off + 1, none⟩ = some (.int .u64 ((rd_T38 l0 (ji3)).f1)) ∧ w'.cell? (ad254.add ((x3_1).toNat * 2)) = some (.int .i64 ((rd_T38 l0 x3_1).f0)) ∧ w'.cell? ⟨(ad254.add ((x3_1).toNat * 2)).block, (ad254.add ((x3_1).toNat * 2)).off + 1, none⟩ = some (.int .u64 ((rd_T38 l0 x3_1).f1)) ∧ w'.cell? (ad254.add (((ji3)).toNat * 2)) = some (.int .i64 ((rd_T38 l0 (ji3)).f0)) ∧ w'.cell? ⟨(ad254.add (((ji3)).toNat * 2)).block, (ad254.add (((ji3)).toNat * 2)).off + 1, none⟩ = some (.int .u64 ((rd_T38 l0 (ji3)).f1)) ∧ w'.cell? (ad254.add ((x3_1).toNat * 2)) = some (.int .i64 ((rd_T38 l0 x3_1).f0)) ∧ w'.cell? ⟨(ad254.add ((x3_1).toNat * 2)).block, (ad254.add ((x3_1).toNat * 2)).off + 1, none⟩ = some (.int .u64 ((rd_T38 l0 x3_1).f1))) (ds := []) (.replicate 23 false) (by kernel_rfl) rfl rfl ⟨(Goto.kc HB.out hw254_0), (Goto.kc HB.out hw254_1), (Goto.kc HB.out hw255_0), (Goto.kc HB.out hw255_1), (Goto.kc HB.out hw257_0), (Goto.kc HB.out hw257_1), (Goto.kc HB.out hw258_0), (Goto.kc HB.out hw258_1)⟩ (fun hHeld => ?_); refine with_tabW tontineref1_Chain.tab4 tontineref1_Chain.bits4 (fun HT_ HW_ => ?_)
         generalize wr.drew = w10 at HB hx254_0 hx254_1 hx255_0 hx255_1 hx257_0 hx257_1 hx258_0 hx258_1 hHeld ⊢
         refine Goto.pu 0 10 23 1 ?_
         refine Goto.pu 1 11 23 3 ?_
         refine Goto.pu 2 12 23 7 ?_
         refine Goto.pu 3 13 23 15 ?_
         refine Goto.pu 5 15 23 47 ?_
         refine Goto.pu 6 16 23 111 ?_
         refine Goto.pu 7 17 23 239 ?_
         refine take_ (i := 4) (N := some 14) (v := ?_) (a' := ?_) (Goto.bs 23 255) rfl rfl (take_ofW HT_.out HW_.out (by kernel_rfl)) (fun _ _ _ h => h) (Or.inl ⟨by rfl, ?_⟩) hHeld ?_ ?_
         rotate_left
         ·
          rintro w' ⟨s0, s1, s2, s3, s4, s5, s6, s7⟩
          go_simp
          with_reducible rfl
         rotate_left
         ·
          exact Goto.ap
         refine take_ (i := 8) (N := some 18) (v := ?_) (a' := ?_) (Goto.bs 23 511) rfl rfl (take_ofW HT_.out HW_.out (by kernel_rfl)) (fun _ _ _ h => h) (Or.inl ⟨by rfl, ?_⟩) hHeld ?_ ?_
         rotate_left
         ·
          rintro w' ⟨s0, s1, s2, s3, s4, s5, s6, s7⟩
          go_simp
          with_reducible rfl
         rotate_left
         ·
          exact Goto.ap
         refine one_ (i := 9) (N := some 19) (Goto.bs 23 1023) rfl rfl (one_of HT_.out (by kernel_rfl)) (by decide) (fun K hK => ?_)
         refine goes_ Tryd.func43 (by kernel_rfl) rfl #[.agg #[.int .i64 ((rd_T38 l0 (ji3)).f0), .int .u64 ((rd_T38 l0 (ji3)).f1)], .agg #[.int .i64 ((rd_T38 l0 x3_1).f0), .int .u64 ((rd_T38 l0 x3_1).f1)]] (by rfl) rfl rfl (by (try simp only [List.map_toArray, List.map_cons, List.map_nil]); first | done | (simp only [hji3]; rfl) | rfl | (simp only [List.length_drop, List.length_take]; rfl)) ?_
         with_reducible refine (tontineref1_Leq.calls ((rd_T38 l0 (ji3)).f0) ((rd_T38 l0 (ji3)).f1) ((rd_T38 l0 x3_1).f0) ((rd_T38 l0 x3_1).f1) true _ A7.out).mono ?_
         rintro e w11 ⟨rfl, hb⟩
         refine ⟨_, rfl, ?_⟩
         replace HB := Goto.hs HB hb
         (try clear hb)
         (try clear hb2)
         (try clear hk)
         (try clear hi)
         refine hK.out _ _ ⟨(Goto.kc HB.out hw254_0), (Goto.kc HB.out hw254_1), (Goto.kc HB.out hw255_0), (Goto.kc HB.out hw255_1), (Goto.kc HB.out hw257_0), (Goto.kc HB.out hw257_1), (Goto.kc HB.out hw258_0), (Goto.kc HB.out hw258_1)⟩ (fun hHeld => ?_)
         clear hK K
         refine norm_ (a' := ?_) ?_ ?_
         rotate_left
         ·
          show Act.put _ (some 19) _ = _
          exact Goto.ap
         refine Goto.pu 10 20 23 2047 ?_
         refine Goto.pu 11 21 23 4095 ?_
         refine Goto.pu 12 22 23 8191 ?_
         refine Goto.pu 13 23 23 16383 ?_
         refine Goto.pu 14 24 23 32767 ?_
         refine Goto.pu 15 25 23 65535 ?_
         refine Goto.pu 17 27 23 196607 ?_
         refine Goto.pu 18 28 23 458751 ?_
         refine Goto.pu 19 29 23 983039 ?_
         refine take_ (i := 16) (N := some 26) (v := ?_) (a' := ?_) (Goto.bs 23 1048575) rfl rfl (take_ofW HT_.out HW_.out (by kernel_rfl)) (fun _ _ _ h => h) (Or.inl ⟨by rfl, ?_⟩) hHeld ?_ ?_
         rotate_left
         ·
          rintro w' ⟨s0, s1, s2, s3, s4, s5, s6, s7⟩
          go_simp
          with_reducible rfl
         rotate_left
         ·
          exact Goto.ap
         refine take_ (i := 20) (N := some 30) (v := ?_) (a' := ?_) (Goto.bs 23 2097151) rfl rfl (take_ofW HT_.out HW_.out (by kernel_rfl)) (fun _ _ _ h => h) (Or.inl ⟨by rfl, ?_⟩) hHeld ?_ ?_
         rotate_left
         ·
          rintro w' ⟨s0, s1, s2, s3, s4, s5, s6, s7⟩
          go_simp
          with_reducible rfl
         rotate_left
         ·
          exact Goto.ap
         refine Goto.pu 21 31 23 4194303 ?_
         refine Goto.pu 22 32 23 8388607 ?_
         refine done_ (done_of HT_.out (by kernel_rfl)) ?_
         try go_wp2
         go_ret
         exact ⟨by first | rfl | (simp [errW_none, errW_some] <;> rfl) | (simp only [← hji3]; first | rfl | (simp [errW_none, errW_some] <;> rfl)) | (simp [*, errW_none, errW_some] <;> rfl), by repeat (first | (with_reducible first | exact HB.out | apply below_alloc | apply pw_below_drewN | apply below_drew1) | exact HB.out)⟩
        ·
         rw [if_neg c9] at H
         have c9b0 : (((rd_T38 l0 (ji3)).f0) == ((rd_T38 l0 x3_1).f0) && (((rd_T38 l0 (ji3)).f1) == ((rd_T38 l0 x3_1).f1))) = false := by simpa using c9
         (try (have c9b1 : decide (((rd_T38 l0 (ji3)).f0) = ((rd_T38 l0 x3_1).f0) && (((rd_T38 l0 (ji3)).f1) == ((rd_T38 l0 x3_1).f1))) = false := by simpa using c9))
         (try (have c9b2 : (((rd_T38 l0 (ji3)).f0) == ((rd_T38 l0 x3_1).f0) && (((rd_T38 l0 (ji3)).f1) == ((rd_T38 l0 x3_1).f1))) = false := by simpa using c9))
         (try (have c9b3 : ¬ (((rd_T38 l0 (ji3)).f0) = ((rd_T38 l0 x3_1).f0) && (((rd_T38 l0 (ji3)).f1) == ((rd_T38 l0 x3_1).f1))) := by simpa using c9))
         clear c9
         have H' := Goto.m0 H
         clear H
         try go_wp2
         replace HB := Goto.m0 (below_drew1 HB.out)
         have p254 : 0 ≤ ((ji3) : Int) := Goto.od
         have q254 : (ji3) < (l0.length : Int) := Goto.od
         obtain ⟨ad254, e254, hx254_0, hx254_1⟩ := at_T38 HR0.out (ji3) p254 q254
         have hw254_1 := hx254_1; have hw254_0 := hx254_0
         cases e254
         replace hx254_0 := Goto.kc HB.out hx254_0
         replace hx254_1 := Goto.kc HB.out hx254_1
         replace p254 := eq_true p254; replace q254 := eq_true q254
         have p255 : 0 ≤ (x3_1 : Int) := Goto.od
         have q255 : x3_1 < (l0.length : Int) := Goto.od
         obtain ⟨ad255, e255, hx255_0, hx255_1⟩ := at_T38 HR0.out x3_1 p255 q255
         have hw255_1 := hx255_1; have hw255_0 := hx255_0
         obtain rfl : ad254 = ad255 := (by injection e255)
         replace hx255_0 := Goto.kc HB.out hx255_0
         replace hx255_1 := Goto.kc HB.out hx255_1
         replace p255 := eq_true p255; replace q255 := eq_true q255
         have p257 : 0 ≤ ((ji3) : Int) := Goto.od
         have q257 : (ji3) < (l0.length : Int) := Goto.od
         obtain ⟨ad257, e257, hx257_0, hx257_1⟩ := at_T38 HR0.out (ji3) p257 q257
         have hw257_1 := hx257_1; have hw257_0 := hx257_0
         obtain rfl : ad254 = ad257 := (by injection e257)
         replace hx257_0 := Goto.kc HB.out hx257_0
         replace hx257_1 := Goto.kc HB.out hx257_1
         replace p257 := eq_true p257; replace q257 := eq_true q257
         have p258 : 0 ≤ (x3_1 : Int) := Goto.od
         have q258 : x3_1 < (l0.length : Int) := Goto.od
         obtain ⟨ad258, e258, hx258_0, hx258_1⟩ := at_T38 HR0.out x3_1 p258 q258
         have hw258_1 := hx258_1; have hw258_0 := hx258_0
         obtain rfl : ad254 = ad258 := (by injection e258)
         replace hx258_0 := Goto.kc HB.out hx258_0
         replace hx258_1 := Goto.kc HB.out hx258_1
         replace p258 := eq_true p258; replace q258 := eq_true q258
         refine start_ (n := 23) (S := fun w' => w'.cell? (ad254.add (((ji3)).toNat * 2)) = some (.int .i64 ((rd_T38 l0 (ji3)).f0)) ∧ w'.cell? ⟨(ad254.add (((ji3)).toNat * 2)).block, (ad254.add (((ji3)).toNat * 2)).off + 1, none⟩ = some (.int .u64 ((rd_T38 l0 (ji3)).f1)) ∧ w'.cell? (ad254.add ((x3_1).toNat * 2)) = some (.int .i64 ((rd_T38 l0 x3_1).f0)) ∧ w'.cell? ⟨(ad254.add ((x3_1).toNat * 2)).block, (ad254.add ((x3_1).toNat * 2)).off + 1, none⟩ = some (.int .u64 ((rd_T38 l0 x3_1).f1)) ∧ w'.cell? (ad254.add (((ji3)).toNat * 2)) = some (.int .i64 ((rd_T38 l0 (ji3)).f0)) ∧ w'.cell? ⟨(ad254.add (((ji3)).toNat * 2)).block, (ad254.add (((ji3)).toNat * 2)).off + 1, none⟩ = some (.int .u64 ((rd_T38 l0 (ji3)).f1)) ∧ w'.cell? (ad254.add ((x3_1).toNat * 2)) = some (.int .i64 ((rd_T38 l0 x3_1).f0)) ∧ w'.cell? ⟨(ad254.add ((x3_1).toNat * 2)).block, (ad254.add ((x3_1).toNat * 2)).off + 1, none⟩ = some (.int .u64 ((rd_T38 l0 x3_1).f1))) (ds := []) (.replicate 23 false) (by kernel_rfl) rfl rfl ⟨(Goto.kc HB.out hw254_0), (Goto.kc HB.out hw254_1), (Goto.kc HB.out hw255_0), (Goto.kc HB.out hw255_1), (Goto.kc HB.out hw257_0), (Goto.kc HB.out hw257_1), (Goto.kc HB.out hw258_0), (Goto.kc HB.out hw258_1)⟩ (fun hHeld => ?_); refine with_tabW tontineref1_Chain.tab4 tontineref1_Chain.bits4 (fun HT_ HW_ => ?_)
         generalize wr.drew = w12 at HB hx254_0 hx254_1 hx255_0 hx255_1 hx257_0 hx257_1 hx258_0 hx258_1 hHeld ⊢
         refine Goto.pu 0 10 23 1 ?_
         refine Goto.pu 1 11 23 3 ?_
         refine Goto.pu 2 12 23 7 ?_
         refine Goto.pu 3 13 23 15 ?_
         refine Goto.pu 5 15 23 47 ?_
         refine Goto.pu 6 16 23 111 ?_
         refine Goto.pu 7 17 23 239 ?_
         refine take_ (i := 4) (N := some 14) (v := ?_) (a' := ?_) (Goto.bs 23 255) rfl rfl (take_ofW HT_.out HW_.out (by kernel_rfl)) (fun _ _ _ h => h) (Or.inl ⟨by rfl, ?_⟩) hHeld ?_ ?_
         rotate_left
         ·
          rintro w' ⟨s0, s1, s2, s3, s4, s5, s6, s7⟩
          go_simp
          with_reducible rfl
         rotate_left
         ·
          exact Goto.ap
         refine take_ (i := 8) (N := some 18) (v := ?_) (a' := ?_) (Goto.bs 23 511) rfl rfl (take_ofW HT_.out HW_.out (by kernel_rfl)) (fun _ _ _ h => h) (Or.inl ⟨by rfl, ?_⟩) hHeld ?_ ?_
         rotate_left
         ·
          rintro w' ⟨s0, s1, s2, s3, s4, s5, s6, s7⟩
          go_simp
          with_reducible rfl
         rotate_left
         ·
          exact Goto.ap
         refine one_ (i := 9) (N := some 19) (Goto.bs 23 1023) rfl rfl (one_of HT_.out (by kernel_rfl)) (by decide) (fun K hK => ?_)
         refine goes_ Tryd.func43 (by kernel_rfl) rfl #[.agg #[.int .i64 ((rd_T38 l0 (ji3)).f0), .int .u64 ((rd_T38 l0 (ji3)).f1)], .agg #[.int .i64 ((rd_T38 l0 x3_1).f0), .int .u64 ((rd_T38 l0 x3_1).f1)]] (by rfl) rfl rfl (by (try simp only [List.map_toArray, List.map_cons, List.map_nil]); first | done | (simp only [hji3]; rfl) | rfl | (simp only [List.length_drop, List.length_take]; rfl)) ?_
         with_reducible refine (tontineref1_Leq.calls ((rd_T38 l0 (ji3)).f0) ((rd_T38 l0 (ji3)).f1) ((rd_T38 l0 x3_1).f0) ((rd_T38 l0 x3_1).f1) true _ A7.out).mono ?_
         rintro e w13 ⟨rfl, hb⟩
         refine ⟨_, rfl, ?_⟩
         replace HB := Goto.hs HB hb
         (try clear hb)
         (try clear hb2)
         (try clear hk)
         (try clear hi)
         refine hK.out _ _ ⟨(Goto.kc HB.out hw254_0), (Goto.kc HB.out hw254_1), (Goto.kc HB.out hw255_0), (Goto.kc HB.out hw255_1), (Goto.kc HB.out hw257_0), (Goto.kc HB.out hw257_1), (Goto.kc HB.out hw258_0), (Goto.kc HB.out hw258_1)⟩ (fun hHeld => ?_)
         clear hK K
         refine norm_ (a' := ?_) ?_ ?_
         rotate_left
         ·
          show Act.put _ (some 19) _ = _
          exact Goto.ap
         refine Goto.pu 10 20 23 2047 ?_
         refine Goto.pu 11 21 23 4095 ?_
         refine Goto.pu 12 22 23 8191 ?_
         refine Goto.pu 13 23 23 16383 ?_
         refine Goto.pu 14 24 23 32767 ?_
         refine Goto.pu 15 25 23 65535 ?_
         refine Goto.pu 17 27 23 196607 ?_
         refine Goto.pu 18 28 23 458751 ?_
         refine Goto.pu 19 29 23 983039 ?_
         refine take_ (i := 16) (N := some 26) (v := ?_) (a' := ?_) (Goto.bs 23 1048575) rfl rfl (take_ofW HT_.out HW_.out (by kernel_rfl)) (fun _ _ _ h => h) (Or.inl ⟨by rfl, ?_⟩) hHeld ?_ ?_
         rotate_left
         ·
          rintro w' ⟨s0, s1, s2, s3, s4, s5, s6, s7⟩
          go_simp
          with_reducible rfl
         rotate_left
         ·
          exact Goto.ap
         refine take_ (i := 20) (N := some 30) (v := ?_) (a' := ?_) (Goto.bs 23 2097151) rfl rfl (take_ofW HT_.out HW_.out (by kernel_rfl)) (fun _ _ _ h => h) (Or.inl ⟨by rfl, ?_⟩) hHeld ?_ ?_
         rotate_left
         ·
          rintro w' ⟨s0, s1, s2, s3, s4, s5, s6, s7⟩
          go_simp
          with_reducible rfl
         rotate_left
         ·
          exact Goto.ap
         refine Goto.pu 21 31 23 4194303 ?_
         refine Goto.pu 22 32 23 8388607 ?_
         refine done_ (done_of HT_.out (by kernel_rfl)) ?_
         try go_wp2
         go_roundg k1
         case measure => have := HK1.out; omega
         case rel => exact ⟨(wrap64 (x3_1 + 1)), (by first | rfl | (simp; done) | (simp [*]; done)), H', ⟨by have := HK1.out; omega⟩, ⟨Goto.hx HB⟩⟩
       ·
        replace c8 := Bool.eq_false_iff.mpr c8
        subst c8
        rw [if_neg (show ¬ (false = true) by decide)] at H
        obtain rfl := Option.some.inj H
        try go_wp2
        replace HB := Goto.m0 (below_drew1 HB.out)
        have p254 : 0 ≤ ((ji3) : Int) := Goto.od
        have q254 : (ji3) < (l0.length : Int) := Goto.od
        obtain ⟨ad254, e254, hx254_0, hx254_1⟩ := at_T38 HR0.out (ji3) p254 q254
        have hw254_1 := hx254_1; have hw254_0 := hx254_0
        cases e254
        replace hx254_0 := Goto.kc HB.out hx254_0
        replace hx254_1 := Goto.kc HB.out hx254_1
        replace p254 := eq_true p254; replace q254 := eq_true q254
        have p255 : 0 ≤ (x3_1 : Int) := Goto.od
        have q255 : x3_1 < (l0.length : Int) := Goto.od
        obtain ⟨ad255, e255, hx255_0, hx255_1⟩ := at_T38 HR0.out x3_1 p255 q255
        have hw255_1 := hx255_1; have hw255_0 := hx255_0
        obtain rfl : ad254 = ad255 := (by injection e255)
        replace hx255_0 := Goto.kc HB.out hx255_0
        replace hx255_1 := Goto.kc HB.out hx255_1
        replace p255 := eq_true p255; replace q255 := eq_true q255
        refine start_ (n := 23) (S := fun w' => w'.cell? (ad254.add (((ji3)).toNat * 2)) = some (.int .i64 ((rd_T38 l0 (ji3)).f0)) ∧ w'.cell? ⟨(ad254.add (((ji3)).toNat * 2)).block, (ad254.add (((ji3)).toNat * 2)).off + 1, none⟩ = some (.int .u64 ((rd_T38 l0 (ji3)).f1)) ∧ w'.cell? (ad254.add ((x3_1).toNat * 2)) = some (.int .i64 ((rd_T38 l0 x3_1).f0)) ∧ w'.cell? ⟨(ad254.add ((x3_1).toNat * 2)).block, (ad254.add ((x3_1).toNat * 2)).off + 1, none⟩ = some (.int .u64 ((rd_T38 l0 x3_1).f1))) (ds := []) (.replicate 23 false) (by kernel_rfl) rfl rfl ⟨(Goto.kc HB.out hw254_0), (Goto.kc HB.out hw254_1), (Goto.kc HB.out hw255_0), (Goto.kc HB.out hw255_1)⟩ (fun hHeld => ?_); refine with_tabW tontineref1_Chain.tab4 tontineref1_Chain.bits4 (fun HT_ HW_ => ?_)
        generalize wr.drew = w14 at HB hx254_0 hx254_1 hx255_0 hx255_1 hHeld ⊢
        refine Goto.pu 0 10 23 1 ?_
        refine Goto.pu 1 11 23 3 ?_
        refine Goto.pu 2 12 23 7 ?_
        refine Goto.pu 3 13 23 15 ?_
        refine Goto.pu 5 15 23 47 ?_
        refine Goto.pu 6 16 23 111 ?_
        refine Goto.pu 7 17 23 239 ?_
        refine take_ (i := 4) (N := some 14) (v := ?_) (a' := ?_) (Goto.bs 23 255) rfl rfl (take_ofW HT_.out HW_.out (by kernel_rfl)) (fun _ _ _ h => h) (Or.inl ⟨by rfl, ?_⟩) hHeld ?_ ?_
        rotate_left
        ·
         rintro w' ⟨s0, s1, s2, s3⟩
         go_simp
         with_reducible rfl
        rotate_left
        ·
         exact Goto.ap
        refine take_ (i := 8) (N := some 18) (v := ?_) (a' := ?_) (Goto.bs 23 511) rfl rfl (take_ofW HT_.out HW_.out (by kernel_rfl)) (fun _ _ _ h => h) (Or.inl ⟨by rfl, ?_⟩) hHeld ?_ ?_
        rotate_left
        ·
         rintro w' ⟨s0, s1, s2, s3⟩
         go_simp
         with_reducible rfl
        rotate_left
        ·
         exact Goto.ap
        refine one_ (i := 9) (N := some 19) (Goto.bs 23 1023) rfl rfl (one_of HT_.out (by kernel_rfl)) (by decide) (fun K hK => ?_)
        refine goes_ Tryd.func43 (by kernel_rfl) rfl #[.agg #[.int .i64 ((rd_T38 l0 (ji3)).f0), .int .u64 ((rd_T38 l0 (ji3)).f1)], .agg #[.int .i64 ((rd_T38 l0 x3_1).f0), .int .u64 ((rd_T38 l0 x3_1).f1)]] (by rfl) rfl rfl (by (try simp only [List.map_toArray, List.map_cons, List.map_nil]); first | done | (simp only [hji3]; rfl) | rfl | (simp only [List.length_drop, List.length_take]; rfl)) ?_
        with_reducible refine (tontineref1_Leq.calls ((rd_T38 l0 (ji3)).f0) ((rd_T38 l0 (ji3)).f1) ((rd_T38 l0 x3_1).f0) ((rd_T38 l0 x3_1).f1) false _ A7.out).mono ?_
        rintro e w15 ⟨rfl, hb⟩
        refine ⟨_, rfl, ?_⟩
        replace HB := Goto.hs HB hb
        (try clear hb)
        (try clear hb2)
        (try clear hk)
        (try clear hi)
        refine hK.out _ _ ⟨(Goto.kc HB.out hw254_0), (Goto.kc HB.out hw254_1), (Goto.kc HB.out hw255_0), (Goto.kc HB.out hw255_1)⟩ (fun hHeld => ?_)
        clear hK K
        refine norm_ (a' := ?_) ?_ ?_
        rotate_left
        ·
         show Act.put _ (some 19) _ = _
         exact Goto.ap
        refine Goto.pu 10 20 23 2047 ?_
        refine Goto.pu 11 21 23 4095 ?_
        refine pure_ (i := 12) (N := some 22) (v := undef) (a' := ?_) (Goto.bs 23 8191) rfl rfl (any_of HT_.out (by kernel_rfl)) (fun _ _ _ h => h) (Or.inr ⟨by rfl, rfl⟩) ?_ ?_
        rotate_left
        ·
         exact Goto.ap
        refine pure_ (i := 13) (N := some 23) (v := undef) (a' := ?_) (Goto.bs 23 16383) rfl rfl (any_of HT_.out (by kernel_rfl)) (fun _ _ _ h => h) (Or.inr ⟨by rfl, rfl⟩) ?_ ?_
        rotate_left
        ·
         exact Goto.ap
        refine pure_ (i := 14) (N := some 24) (v := undef) (a' := ?_) (Goto.bs 23 32767) rfl rfl (any_of HT_.out (by kernel_rfl)) (fun _ _ _ h => h) (Or.inr ⟨by rfl, rfl⟩) ?_ ?_
        rotate_left
        ·
         exact Goto.ap
        refine pure_ (i := 15) (N := some 25) (v := undef) (a' := ?_) (Goto.bs 23 65535) rfl rfl (any_of HT_.out (by kernel_rfl)) (fun _ _ _ h => h) (Or.inr ⟨by rfl, rfl⟩) ?_ ?_
        rotate_left
        ·
         exact Goto.ap
        refine pure_ (i := 16) (N := some 26) (v := undef) (a' := ?_) (Goto.bs 23 131071) rfl rfl (any_of HT_.out (by kernel_rfl)) (fun _ _ _ h => h) (Or.inr ⟨by rfl, rfl⟩) ?_ ?_
        rotate_left
        ·
         exact Goto.ap
        refine pure_ (i := 17) (N := some 27) (v := undef) (a' := ?_) (Goto.bs 23 262143) rfl rfl (any_of HT_.out (by kernel_rfl)) (fun _ _ _ h => h) (Or.inr ⟨by rfl, rfl⟩) ?_ ?_
        rotate_left
        ·
         exact Goto.ap
        refine pure_ (i := 18) (N := some 28) (v := undef) (a' := ?_) (Goto.bs 23 524287) rfl rfl (any_of HT_.out (by kernel_rfl)) (fun _ _ _ h => h) (Or.inr ⟨by rfl, rfl⟩) ?_ ?_
        rotate_left
        ·
         exact Goto.ap
        refine pure_ (i := 19) (N := some 29) (v := undef) (a' := ?_) (Goto.bs 23 1048575) rfl rfl (any_of HT_.out (by kernel_rfl)) (fun _ _ _ h => h) (Or.inr ⟨by rfl, rfl⟩) ?_ ?_
        rotate_left
        ·
         exact Goto.ap
        refine pure_ (i := 20) (N := some 30) (v := undef) (a' := ?_) (Goto.bs 23 2097151) rfl rfl (any_of HT_.out (by kernel_rfl)) (fun _ _ _ h => h) (Or.inr ⟨by rfl, rfl⟩) ?_ ?_
        rotate_left
        ·
         exact Goto.ap
        refine pure_ (i := 21) (N := some 31) (v := undef) (a' := ?_) (Goto.bs 23 4194303) rfl rfl (any_of HT_.out (by kernel_rfl)) (fun _ _ _ h => h) (Or.inr ⟨by rfl, rfl⟩) ?_ ?_
        rotate_left
        ·
         exact Goto.ap
        refine Goto.pu 22 32 23 8388607 ?_
        refine done_ (done_of HT_.out (by kernel_rfl)) ?_
        try go_wp2
        go_ret
        exact ⟨by first | rfl | (simp [errW_none, errW_some] <;> rfl) | (simp only [← hji3]; first | rfl | (simp [errW_none, errW_some] <;> rfl)) | (simp [*, errW_none, errW_some] <;> rfl), by repeat (first | (with_reducible first | exact HB.out | apply below_alloc | apply pw_below_drewN | apply below_drew1) | exact HB.out)⟩
      ·
       rw [if_neg c6] at H
       exact absurd H (by simp)
     ·
      rw [if_neg c5] at H
      exact absurd H (by simp)
    ·
     rw [if_neg c4] at H
     exact absurd H (by simp)
   ·
    rw [if_neg c2] at H
    have c2b0 : decide (x3_1 < (l0.length : Int)) = false := decide_eq_false c2
    clear c2
    obtain rfl := Option.some.inj H
    go_wp2
    go_ret
    exact ⟨Goto.er, by repeat (first | (with_reducible first | exact HB.out | apply below_alloc | apply pw_below_drewN | apply below_drew1) | exact HB.out)⟩

end Go.Proofs.YtjgdcifbhmjinaaDoor.P
