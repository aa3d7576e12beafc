/- Printed by a program of this workplace (a turned copy of the kit's optional print), out of the translation; not trusted: Lean checks it. -/
import Derived.Test.YtnnkmkejcmdjpaaPx0
import Derived.Test.YtnnkmkejcmdjpaaPx15
import Derived.Test.YtnnkmkejcmdjpaaPx16
import Derived.Test.YtnnkmkejcmdjpaaKn
namespace Go.Proofs.Ytnnkmkejcmdjpaa.P
open Go.RowKit Go.Proofs.YtnnkmkejcmdjpaaW.PrintWords Go.Proofs.YtnnkmkejcmdjpaaW.PrintLast Go.Proofs.YtnnkmkejcmdjpaaW.PrintMore
attribute [local go_sem] max2_int min2_int max_two min_two max_three min_three max_four min_four   -- for this text's walks alone
set_option linter.unusedVariables false
set_option linter.unusedSimpArgs false

/-! ### tontinelaw25_rows: function 26 -/
def tontinelaw25_rows.l0 : Nat → List Int → List (List Int) → Int → Option ((List (List Int)))
  | 0, _, _, _ => none
  | k + 1, x0, x3, x4 => if (wrap64 (x4 + 4)) ≤ (x0.length : Int) then (if 0 ≤ x4 then (if x4 < (x0.length : Int) then (if 0 ≤ (wrap64 (x4 + 1)) then (if (wrap64 (x4 + 1)) < (x0.length : Int) then (if 0 ≤ (wrap64 (x4 + 2)) then (if (wrap64 (x4 + 2)) < (x0.length : Int) then (if 0 ≤ (wrap64 (x4 + 3)) then (if (wrap64 (x4 + 3)) < (x0.length : Int) then (if x3.length < 5864062014805 then (tontinelaw25_rows.l0 k x0 (x3 ++ [(([wrap64 (Int.tmod (rd x0 x4) 2), wrap64 (Int.tmod (rd x0 (wrap64 (x4 + 1))) 2), wrap64 (Int.tmod (rd x0 (wrap64 (x4 + 2))) 2), wrap64 (Int.tmod (rd x0 (wrap64 (x4 + 3))) 3)] : List Int))]) (wrap64 (x4 + 4))) else (none)) else (none)) else (none)) else (none)) else (none)) else (none)) else (none)) else (none)) else (none)) else (some x3)
def tontinelaw25_rows.f (k : Nat) (l0 : List Int) : Option ((List (List Int))) := tontinelaw25_rows.l0 k l0 ([] : List (List Int)) 0
theorem tontinelaw25_rows.mono_l : ∀ k, (∀ y0 y1 y2, LeO (tontinelaw25_rows.l0 k y0 y1 y2) (tontinelaw25_rows.l0 (k + 1) y0 y1 y2))
  | 0 => fun _ _ _ r h => by simp [tontinelaw25_rows.l0] at h
  | k + 1 => by
    have ih0 := tontinelaw25_rows.mono_l k
    · intro y0 y1 y2
      unfold tontinelaw25_rows.l0
      repeat' first
      | (with_reducible exact ih0 _ _ _)
      | (with_reducible exact LeO.refl _)
      | (with_reducible exact LeO.none _)
      | (with_reducible refine LeO.ite ?_ ?_)
      | (with_reducible refine LeO.bind ?_ (fun _ => ?_))
      | exact ih0 _ _ _
      | exact LeO.none _
      | refine LeO.ite ?_ ?_
      | refine LeO.bind ?_ (fun _ => ?_)
theorem tontinelaw25_rows.mono : ∀ a0 k, LeO (tontinelaw25_rows.f k a0) (tontinelaw25_rows.f (k + 1) a0) := by
 intro a0 k
 have ih0 := tontinelaw25_rows.mono_l k
 unfold tontinelaw25_rows.f
 repeat' first
   | (with_reducible exact ih0 _ _ _)
   | (with_reducible exact LeO.refl _)
   | (with_reducible exact LeO.none _)
   | (with_reducible refine LeO.ite ?_ ?_)
   | (with_reducible refine LeO.bind ?_ (fun _ => ?_))
   | exact ih0 _ _ _
   | exact LeO.none _
   | refine LeO.ite ?_ ?_
   | refine LeO.bind ?_ (fun _ => ?_)
def tontinelaw25_rows.T5 : Bool × List (List Nat × List Nat) := (true, [([], []), ([], []), ([], []), ([1, 2], [1, 2]), ([3], [3]), ([4], [4]), ([5], [5]), ([], []), ([], []), ([8], [8]), ([7, 9], [7, 9]), ([10], [10]), ([11], [11]), ([12], [12]), ([], []), ([], []), ([15], [15]), ([14, 16], [14, 16]), ([17], [17]), ([18], [18]), ([19], [19]), ([], []), ([], []), ([22], [22]), ([21, 23], [21, 23]), ([24], [24]), ([25], [25]), ([26], [26]), ([6, 13, 20, 27], [6, 13, 20, 27]), ([28], [28]), ([0, 29], [0, 29]), ([30, 30, 0, 1, 2, 3, 4, 5, 6, 7, 8, 9, 10, 11, 12, 13, 14, 15, 16, 17, 18, 19, 20, 21, 22, 23, 24, 25, 26, 27, 28, 29, 30], [0, 30])])
def tontinelaw25_rows.B5 : List Nat := [0, 0, 0, 6, 14, 30, 62, 0, 0, 256, 896, 1920, 3968, 8064, 0, 0, 32768, 114688, 245760, 507904, 1032192, 0, 0, 4194304, 14680064, 31457280, 65011712, 132120576, 268435454, 536870910, 1073741823, 2147483647]
theorem tontinelaw25_rows.tab5 : rtab .any (opsOf Try.f26 5) = tontinelaw25_rows.T5 := by kernel_rfl
theorem tontinelaw25_rows.bits5 : waitsOk tontinelaw25_rows.T5.2 tontinelaw25_rows.B5 = true := by kernel_rfl
set_option maxHeartbeats 8000000 in
set_option maxRecDepth 100000 in
theorem tontinelaw25_rows.calls (k : Nat) (A0 : Option Addr) (c0 : Nat) (l0 : List Int) (r : List (List Int)) (w : World) (hr0 : Kd.C (Kd.int .u8) w A0 l0.length l0) (hc0 : l0.length ≤ c0) (h : tontinelaw25_rows.f k l0 = some r) :
    Calls Try.prog 26 #[.slice A0 l0.length c0] w fun e w' => ∃ v0_ : Value, e = .returned (v0_) ∧ Kd.S (Kd.slice 3 (Kd.int .i64)) 44 w' w.heap.size (fun _ => True) v0_ r ∧ Below w.heap.size w w' := by
 have HR0 := Goto.m0 hr0
 have HC0 := Goto.m0 hc0
 clear hr0 hc0
 have HB := Goto.m0 (Below.refl w.heap.size w)
 have H : (tontinelaw25_rows.l0 k l0 ([] : List (List Int)) 0) = some r := h
 clear h
 have H' := Goto.m0 H
 clear H
 go_enter Try.func26, Try.ntmps26
 go_wp2
 go_loopg [3, 4] k (fun kq v3 v4 w' => ∃ (x3_1 : List (List Int)) (x4_1 : Int), v4 = .int .i64 x4_1 ∧ Aside0 (tontinelaw25_rows.l0 kq l0 x3_1 x4_1 = some r) ∧ Aside0 (kq ≤ k) ∧ Aside0 (Kd.S (Kd.slice 3 (Kd.int .i64)) 44 w' w.heap.size (fun _ => True) v3 x3_1) ∧ Aside0 (Below w.heap.size w w'))
 case atStart => exact ⟨(([] : List (List Int))), (0), (by first | rfl | (simp; done) | (simp [*]; done)), H', ⟨Nat.le_refl _⟩, ⟨by first | exact Kd.S_nil _ _ _ _ _ | exact Kd.N_nil _ _ _ _ _ | exact Kd.V_nil _ _ _ _ _ | exact Kd.Q_nil _ _ _ _ _ | exact Kd.R_nil _ _ _ _ _⟩, ⟨Goto.hx HB⟩⟩
 case round =>
  clear H'
  obtain ⟨x3_1, x4_1, rfl, HA, HK1, HO_3, HB⟩ := hrel
  cases gk with
  | zero => exact absurd HA.out (by simp [tontinelaw25_rows.l0])
  | succ k1 =>
   have H := HA.out; clear HA
   simp only [tontinelaw25_rows.l0] at H
   by_cases c2 : (wrap64 (x4_1 + 4)) ≤ (l0.length : Int)
   ·
    rw [if_pos c2] at H
    have c2b0 : decide ((wrap64 (x4_1 + 4)) ≤ (l0.length : Int)) = true := decide_eq_true c2
    clear c2
    by_cases c3 : 0 ≤ x4_1
    ·
     rw [if_pos c3] at H
     have c3b0 : decide (0 ≤ x4_1) = true := decide_eq_true c3
     clear c3
     by_cases c4 : x4_1 < (l0.length : Int)
     ·
      rw [if_pos c4] at H
      have c4b0 : decide (x4_1 < (l0.length : Int)) = true := decide_eq_true c4
      clear c4
      obtain ⟨ji5, hji5⟩ : ∃ j_ : Int, (wrap64 (x4_1 + 1)) = j_ := ⟨_, rfl⟩
      replace H : (if 0 ≤ (ji5) then (if (ji5) < (l0.length : Int) then (if 0 ≤ (wrap64 (x4_1 + 2)) then (if (wrap64 (x4_1 + 2)) < (l0.length : Int) then (if 0 ≤ (wrap64 (x4_1 + 3)) then (if (wrap64 (x4_1 + 3)) < (l0.length : Int) then (if x3_1.length < 5864062014805 then (tontinelaw25_rows.l0 k1 l0 (x3_1 ++ [(([wrap64 (Int.tmod (rd l0 x4_1) 2), wrap64 (Int.tmod (rd l0 (ji5)) 2), wrap64 (Int.tmod (rd l0 (wrap64 (x4_1 + 2))) 2), wrap64 (Int.tmod (rd l0 (wrap64 (x4_1 + 3))) 3)] : List Int))]) (wrap64 (x4_1 + 4))) else (none)) else (none)) else (none)) else (none)) else (none)) else (none)) else (none)) = some r := by first | (rw [hji5] at H; exact H) | (simp only [hji5] at H ⊢; exact H)
      have hji5w : (IntKind.i64.wrap (x4_1 + 1)) = ji5 := (i64_w _).trans hji5
      by_cases c6 : 0 ≤ (ji5)
      ·
       rw [if_pos c6] at H
       have c6b0 : decide (0 ≤ (ji5)) = true := decide_eq_true c6
       clear c6
       by_cases c7 : (ji5) < (l0.length : Int)
       ·
        rw [if_pos c7] at H
        have c7b0 : decide ((ji5) < (l0.length : Int)) = true := decide_eq_true c7
        clear c7
        obtain ⟨ji8, hji8⟩ : ∃ j_ : Int, (wrap64 (x4_1 + 2)) = j_ := ⟨_, rfl⟩
        (try rw [hji8] at hji5)
        (try rw [hji8] at hji5w)
        replace H : (if 0 ≤ (ji8) then (if (ji8) < (l0.length : Int) then (if 0 ≤ (wrap64 (x4_1 + 3)) then (if (wrap64 (x4_1 + 3)) < (l0.length : Int) then (if x3_1.length < 5864062014805 then (tontinelaw25_rows.l0 k1 l0 (x3_1 ++ [(([wrap64 (Int.tmod (rd l0 x4_1) 2), wrap64 (Int.tmod (rd l0 (ji5)) 2), wrap64 (Int.tmod (rd l0 (ji8)) 2), wrap64 (Int.tmod (rd l0 (wrap64 (x4_1 + 3))) 3)] : List Int))]) (wrap64 (x4_1 + 4))) else (none)) else (none)) else (none)) else (none)) else (none)) = some r := by first | (rw [hji8] at H; exact H) | (simp only [hji8] at H ⊢; exact H)
        have hji8w : (IntKind.i64.wrap (x4_1 + 2)) = ji8 := (i64_w _).trans hji8
        by_cases c9 : 0 ≤ (ji8)
        ·
         rw [if_pos c9] at H
         have c9b0 : decide (0 ≤ (ji8)) = true := decide_eq_true c9
         clear c9
         by_cases c10 : (ji8) < (l0.length : Int)
         ·
          rw [if_pos c10] at H
          have c10b0 : decide ((ji8) < (l0.length : Int)) = true := decide_eq_true c10
          clear c10
          obtain ⟨ji11, hji11⟩ : ∃ j_ : Int, (wrap64 (x4_1 + 3)) = j_ := ⟨_, rfl⟩
          (try rw [hji11] at hji5)
          (try rw [hji11] at hji5w)
          (try rw [hji11] at hji8)
          (try rw [hji11] at hji8w)
          replace H : (if 0 ≤ (ji11) then (if (ji11) < (l0.length : Int) then (if x3_1.length < 5864062014805 then (tontinelaw25_rows.l0 k1 l0 (x3_1 ++ [(([wrap64 (Int.tmod (rd l0 x4_1) 2), wrap64 (Int.tmod (rd l0 (ji5)) 2), wrap64 (Int.tmod (rd l0 (ji8)) 2), wrap64 (Int.tmod (rd l0 (ji11)) 3)] : List Int))]) (wrap64 (x4_1 + 4))) else (none)) else (none)) else (none)) = some r := by first | (rw [hji11] at H; exact H) | (simp only [hji11] at H ⊢; exact H)
          have hji11w : (IntKind.i64.wrap (x4_1 + 3)) = ji11 := (i64_w _).trans hji11
          by_cases c12 : 0 ≤ (ji11)
          ·
           rw [if_pos c12] at H
           have c12b0 : decide (0 ≤ (ji11)) = true := decide_eq_true c12
           clear c12
           by_cases c13 : (ji11) < (l0.length : Int)
           ·
            rw [if_pos c13] at H
            have c13b0 : decide ((ji11) < (l0.length : Int)) = true := decide_eq_true c13
            clear c13
            obtain ⟨y348, hy348⟩ : ∃ y_ : List Int, y_ = (([wrap64 (Int.tmod (rd l0 x4_1) 2), wrap64 (Int.tmod (rd l0 (ji5)) 2), wrap64 (Int.tmod (rd l0 (ji8)) 2), wrap64 (Int.tmod (rd l0 (ji11)) 3)] : List Int)) := ⟨_, rfl⟩
            replace H : (if x3_1.length < 5864062014805 then (tontinelaw25_rows.l0 k1 l0 (x3_1 ++ [y348]) (wrap64 (x4_1 + 4))) else (none)) = some r := by first | (rw [hy348]; with_reducible exact H) | (have H2_ := (Option.bind_some _ _).symm.trans H; rw [hy348]; with_reducible exact H2_) | (have H2_ := (Option.bind_some _ _).symm.trans H; with_reducible exact H2_) | with_reducible exact H | (rw [hy348]; exact H) | exact H
            have Ny348 := Goto.m0 hy348
            clear hy348
            by_cases c14 : x3_1.length < 5864062014805
            ·
             rw [if_pos c14] at H
             have LMc14 := Goto.m0 c14
             clear c14
             obtain ⟨y351, hy351⟩ : ∃ y_ : List (List Int), y_ = (x3_1 ++ [y348]) := ⟨_, rfl⟩
             replace H : (tontinelaw25_rows.l0 k1 l0 y351 (wrap64 (x4_1 + 4))) = some r := by first | (rw [hy351]; with_reducible exact H) | (have H2_ := (Option.bind_some _ _).symm.trans H; rw [hy351]; with_reducible exact H2_) | (have H2_ := (Option.bind_some _ _).symm.trans H; with_reducible exact H2_) | with_reducible exact H | (rw [hy351]; exact H) | exact H
             have Ny351 := Goto.m0 hy351
             clear hy351
             have H' := Goto.m0 H
             clear H
             try go_wp2
             replace HO_3 := Goto.m0 (Kd.S_drew HO_3.out); replace HB := Goto.m0 (below_drew1 HB.out)
             have p344 : 0 ≤ (x4_1 : Int) := Goto.od
             have q344 : x4_1 < (l0.length : Int) := Goto.od
             obtain ⟨ad344, e344, hx344_0⟩ := Kd.at_int HR0.out x4_1 p344 q344
             have hw344_0 := hx344_0
             cases e344
             replace hx344_0 := Goto.kc HB.out hx344_0
             replace p344 := eq_true p344; replace q344 := eq_true q344
             have p345 : 0 ≤ ((ji5) : Int) := Goto.od
             have q345 : (ji5) < (l0.length : Int) := Goto.od
             obtain ⟨ad345, e345, hx345_0⟩ := Kd.at_int HR0.out (ji5) p345 q345
             have hw345_0 := hx345_0
             obtain rfl : ad344 = ad345 := (by injection e345)
             replace hx345_0 := Goto.kc HB.out hx345_0
             replace p345 := eq_true p345; replace q345 := eq_true q345
             have p346 : 0 ≤ ((ji8) : Int) := Goto.od
             have q346 : (ji8) < (l0.length : Int) := Goto.od
             obtain ⟨ad346, e346, hx346_0⟩ := Kd.at_int HR0.out (ji8) p346 q346
             have hw346_0 := hx346_0
             obtain rfl : ad344 = ad346 := (by injection e346)
             replace hx346_0 := Goto.kc HB.out hx346_0
             replace p346 := eq_true p346; replace q346 := eq_true q346
             have p347 : 0 ≤ ((ji11) : Int) := Goto.od
             have q347 : (ji11) < (l0.length : Int) := Goto.od
             obtain ⟨ad347, e347, hx347_0⟩ := Kd.at_int HR0.out (ji11) p347 q347
             have hw347_0 := hx347_0
             obtain rfl : ad344 = ad347 := (by injection e347)
             replace hx347_0 := Goto.kc HB.out hx347_0
             replace p347 := eq_true p347; replace q347 := eq_true q347
             refine start_ (n := 32) (S := fun w' => w'.cell? (ad344.add (x4_1).toNat) = some (.int .u8 (rd l0 x4_1)) ∧ w'.cell? (ad344.add ((ji5)).toNat) = some (.int .u8 (rd l0 (ji5))) ∧ w'.cell? (ad344.add ((ji8)).toNat) = some (.int .u8 (rd l0 (ji8))) ∧ w'.cell? (ad344.add ((ji11)).toNat) = some (.int .u8 (rd l0 (ji11)))) (ds := []) (.replicate 32 false) (by kernel_rfl) rfl rfl ⟨(Goto.kc HB.out hw344_0), (Goto.kc HB.out hw345_0), (Goto.kc HB.out hw346_0), (Goto.kc HB.out hw347_0)⟩ (fun hHeld => ?_); refine with_tabW tontinelaw25_rows.tab5 tontinelaw25_rows.bits5 (fun HT_ HW_ => ?_)
             generalize wr.drew = w15 at HO_3 HB hx344_0 hx345_0 hx346_0 hx347_0 hHeld ⊢
             refine Goto.pu 0 12 32 1 ?_
             refine Goto.pu 1 13 32 3 ?_
             refine Goto.pu 2 14 32 7 ?_
             refine Goto.pu 3 15 32 15 ?_
             refine Goto.pu 7 19 32 143 ?_
             refine Goto.pu 8 20 32 399 ?_
             refine Goto.pu 9 21 32 911 ?_
             refine Goto.pu 10 22 32 1935 ?_
             refine Goto.pu 14 26 32 18319 ?_
             refine Goto.pu 15 27 32 51087 ?_
             refine Goto.pu 16 28 32 116623 ?_
             refine Goto.pu 17 29 32 247695 ?_
             refine Goto.pu 21 33 32 2344847 ?_
             refine Goto.pu 22 34 32 6539151 ?_
             refine Goto.pu 23 35 32 14927759 ?_
             refine Goto.pu 24 36 32 31704975 ?_
             refine take_ (i := 4) (N := some 16) (v := ?_) (a' := ?_) (Goto.bs 32 31704991) rfl rfl (take_ofW HT_.out HW_.out (by kernel_rfl)) (fun _ _ _ h => h) (Or.inl ⟨by rfl, ?_⟩) hHeld ?_ ?_
             rotate_left
             ·
              rintro w' ⟨s0, s1, s2, s3⟩
              go_simp
              with_reducible rfl
             rotate_left
             ·
              exact Goto.ap
             refine Goto.pu 5 17 32 31705023 ?_
             refine Goto.pu 6 18 32 31705087 ?_
             refine take_ (i := 11) (N := some 23) (v := ?_) (a' := ?_) (Goto.bs 32 31707135) rfl rfl (take_ofW HT_.out HW_.out (by kernel_rfl)) (fun _ _ _ h => h) (Or.inl ⟨by rfl, ?_⟩) hHeld ?_ ?_
             rotate_left
             ·
              rintro w' ⟨s0, s1, s2, s3⟩
              go_simp
              with_reducible rfl
             rotate_left
             ·
              exact Goto.ap
             refine Goto.pu 12 24 32 31711231 ?_
             refine Goto.pu 13 25 32 31719423 ?_
             refine take_ (i := 18) (N := some 30) (v := ?_) (a' := ?_) (Goto.bs 32 31981567) rfl rfl (take_ofW HT_.out HW_.out (by kernel_rfl)) (fun _ _ _ h => h) (Or.inl ⟨by rfl, ?_⟩) hHeld ?_ ?_
             rotate_left
             ·
              rintro w' ⟨s0, s1, s2, s3⟩
              go_simp
              with_reducible rfl
             rotate_left
             ·
              exact Goto.ap
             refine Goto.pu 19 31 32 32505855 ?_
             refine Goto.pu 20 32 32 33554431 ?_
             refine take_ (i := 25) (N := some 37) (v := ?_) (a' := ?_) (Goto.bs 32 67108863) rfl rfl (take_ofW HT_.out HW_.out (by kernel_rfl)) (fun _ _ _ h => h) (Or.inl ⟨by rfl, ?_⟩) hHeld ?_ ?_
             rotate_left
             ·
              rintro w' ⟨s0, s1, s2, s3⟩
              go_simp
              with_reducible rfl
             rotate_left
             ·
              exact Goto.ap
             refine Goto.pu 26 38 32 134217727 ?_
             refine Goto.pu 27 39 32 268435455 ?_
             refine one_ (i := 28) (N := some 40) (Goto.bs 32 536870911) rfl rfl (one_of HT_.out (by kernel_rfl)) (by decide) (fun K hK => ?_)
             refine Kd.R_lit_step (Kd.int .i64) _ 3 ?hg (N := 40) ?hd (xs := ([wrap64 (Int.tmod (rd l0 x4_1) 2), wrap64 (Int.tmod (rd l0 (ji5)) 2), wrap64 (Int.tmod (rd l0 (ji8)) 2), wrap64 (Int.tmod (rd l0 (ji11)) 3)] : List Int)) (inner := [.int .i64 (wrap64 (Int.tmod (rd l0 x4_1) 2)), .int .i64 (wrap64 (Int.tmod (rd l0 (ji5)) 2)), .int .i64 (wrap64 (Int.tmod (rd l0 (ji8)) 2)), .int .i64 (wrap64 (Int.tmod (rd l0 (ji11)) 3))]) (ok := fun _ => True) (okp := fun _ => True) ?hr ?hp (fun _ hk => hk) trivial (Below.refl _ _) (Nat.le_refl _) (by simp) ?_; (case hd => rfl); (case hg => rfl); (case hr => first | (go_simp; done) | (go_simp; rfl)); (case hp => exact (Reps.one (show Kd.M (Kd.int .i64) _ _ _ (wrap64 (Int.tmod (rd l0 x4_1) 2)) [.int .i64 (wrap64 (Int.tmod (rd l0 x4_1) 2))] from rfl) (Reps.one (show Kd.M (Kd.int .i64) _ _ _ (wrap64 (Int.tmod (rd l0 (ji5)) 2)) [.int .i64 (wrap64 (Int.tmod (rd l0 (ji5)) 2))] from rfl) (Reps.one (show Kd.M (Kd.int .i64) _ _ _ (wrap64 (Int.tmod (rd l0 (ji8)) 2)) [.int .i64 (wrap64 (Int.tmod (rd l0 (ji8)) 2))] from rfl) (Reps.one (show Kd.M (Kd.int .i64) _ _ _ (wrap64 (Int.tmod (rd l0 (ji11)) 3)) [.int .i64 (wrap64 (Int.tmod (rd l0 (ji11)) 3))] from rfl) (Reps.none _ _))))))
             intro v349 w16 ho17 hb hg_ hnew_
             clear hg_ hnew_
             (first | rw [← Ny348.out] at ho17 | (simp only [Int.reduceToNat] at ho17; rw [← Ny348.out] at ho17))
             have HO350 := Goto.m0 (Kd.R_lower ho17 (below_size (Goto.hx HB))); replace HO_3 := Goto.m0 (Kd.S_elder' (by (with_reducible repeat (first | apply Kd.S_alloc | apply Kd.S_drewN | apply Kd.S_drew)); exact HO_3.out) (Kd.R_base ho17) hb); replace HB := Goto.hs HB hb; clear hb ho17
             obtain ⟨Ao19, co19, eo19⟩ := Kd.R_slice HO350.out
             (first | subst eo19 | (injection eo19 with f1_ f2_ f3_; have f4_ := f1_.symm; have f5_ := f3_.symm; clear f1_ f2_ f3_; subst f4_; subst f5_))
             refine hK.out _ _ ⟨(Goto.kc HB.out hw344_0), (Goto.kc HB.out hw345_0), (Goto.kc HB.out hw346_0), (Goto.kc HB.out hw347_0)⟩ (fun hHeld => ?_)
             clear hK K
             refine norm_ (a' := ?_) ?_ ?_
             rotate_left
             ·
              show Act.put _ (some 40) _ = _
              exact Goto.ap
             refine one_ (i := 29) (N := some 41) (Goto.bs 32 1073741823) rfl rfl (one_of HT_.out (by kernel_rfl)) (by decide) (fun K hK => ?_)
             refine value_ (w1 := ?_) (v := ?_) (by rfl) rfl ?_ ?_
             rotate_left 2
             ·
              go_simp
              constructor
              ·
               rfl
              ·
               rfl
             refine hK.out _ _ ⟨(World.cell?_alloc_lt _ _ _ (World.block_lt_of_cell? _ _ ((Goto.kc HB.out hw344_0)))).trans ((Goto.kc HB.out hw344_0)), (World.cell?_alloc_lt _ _ _ (World.block_lt_of_cell? _ _ ((Goto.kc HB.out hw345_0)))).trans ((Goto.kc HB.out hw345_0)), (World.cell?_alloc_lt _ _ _ (World.block_lt_of_cell? _ _ ((Goto.kc HB.out hw346_0)))).trans ((Goto.kc HB.out hw346_0)), (World.cell?_alloc_lt _ _ _ (World.block_lt_of_cell? _ _ ((Goto.kc HB.out hw347_0)))).trans ((Goto.kc HB.out hw347_0))⟩ (fun hHeld => ?_)
             clear hK K
             refine norm_ (a' := ?_) ?_ ?_
             rotate_left
             ·
              show Act.put _ (some 41) _ = _
              exact Goto.ap
             refine one_ (i := 30) (N := some 42) (Goto.bs 32 2147483647) rfl rfl (one_of HT_.out (by kernel_rfl)) (by decide) (fun K hK => ?_)
             refine Kd.S_append_step (Kd.slice 3 (Kd.int .i64)) (w0 := w) w.heap.size (by rfl) (.tmp 12) (.tmp 41) 22 44 (.slice none 0 0) 24 rfl Try.underlying22 info44 rfl (by decide) (by omega) u3 x3_1 y348 [.slice Ao19 y348.length co19] (fun _ => True) (fun k_ => some k_ = (.slice Ao19 y348.length co19 : Value).ownBlock) rfl rfl ?aP (fun k_ hk_ => ((Kd.R_mono (ok' := fun k_ => ((fun _ => True)) k_ ∧ some k_ ≠ (u3 : Value).ownBlock) (Kd.R_apart' (HO350.out) (Kd.S_typed HO_3.out) (by decide)) (fun k_ hk => ⟨trivial, hk.2⟩))).1 k_ hk_.symm) ?aF ?aO ?aB ?aS ?aL ?_
             (case aP => exact Kd.M_row (Kd.R_mono (Kd.R_tight rfl (Kd.R_mono (ok' := fun k_ => ((fun _ => True)) k_ ∧ some k_ ≠ (u3 : Value).ownBlock) (Kd.R_apart' (HO350.out) (Kd.S_typed HO_3.out) (by decide)) (fun k_ hk => ⟨trivial, hk.2⟩))) (fun _ h_ => h_)))
             (case aB => exact (Goto.hx HB))
             (case aF => exact (fun _ _ => trivial))
             (case aO => exact (by (with_reducible repeat (first | apply Kd.S_alloc | apply Kd.S_drewN | apply Kd.S_drew)); exact Kd.S_mono HO_3.out (fun k_ hk => ⟨trivial, fun e_ => hk.2 e_⟩)))
             (case aS => exact (below_size (Goto.hx HB)))
             (case aL => have := LMc14.out; omega)
             intro v352 w18 ho hb hg hat
             rw [← Ny351.out] at ho
             have n0_ := Goto.m0 (hb)
             have n1_ := Goto.m0 (ho)
             clear HB; clear HO_3; clear HO350; have HB := n0_; have HO353 := n1_; clear n0_ n1_; clear ho hb hg hat
             refine hK.out _ _ ⟨(Goto.kc HB.out hw344_0), (Goto.kc HB.out hw345_0), (Goto.kc HB.out hw346_0), (Goto.kc HB.out hw347_0)⟩ (fun hHeld => ?_)
             clear hK K
             refine norm_ (a' := ?_) ?_ ?_
             rotate_left
             ·
              show Act.put _ (some 42) _ = _
              exact Goto.ap
             refine Goto.pu 31 3 32 4294967295 ?_
             refine done_ (done_of HT_.out (by kernel_rfl)) ?_
             try go_wp2
             go_roundg k1
             case measure => have := HK1.out; omega
             case rel => exact ⟨(y351), (wrap64 (x4_1 + 4)), (by first | rfl | (simp; done) | (simp [*]; done)), H', ⟨by have := HK1.out; omega⟩, ⟨by (with_reducible repeat (first | apply Kd.S_alloc | apply Kd.S_drewN | apply Kd.S_drew)); exact HO353.out⟩, ⟨Goto.hx HB⟩⟩
            ·
             rw [if_neg c14] at H
             exact absurd H (by simp)
           ·
            rw [if_neg c13] at H
            exact absurd H (by simp)
          ·
           rw [if_neg c12] at H
           exact absurd H (by simp)
         ·
          rw [if_neg c10] at H
          exact absurd H (by simp)
        ·
         rw [if_neg c9] at H
         exact absurd H (by simp)
       ·
        rw [if_neg c7] at H
        exact absurd H (by simp)
      ·
       rw [if_neg c6] at H
       exact absurd H (by simp)
     ·
      rw [if_neg c4] at H
      exact absurd H (by simp)
    ·
     rw [if_neg c3] at H
     exact absurd H (by simp)
   ·
    rw [if_neg c2] at H
    have c2b0 : decide ((wrap64 (x4_1 + 4)) ≤ (l0.length : Int)) = false := decide_eq_false c2
    clear c2
    obtain rfl := Option.some.inj H
    go_wp2
    go_ret
    exact ⟨_, Goto.er, by (with_reducible repeat (first | apply Kd.S_alloc | apply Kd.S_drewN | apply Kd.S_drew)); exact HO_3.out, by repeat (first | (with_reducible first | exact HB.out | apply below_alloc | apply pw_below_drewN | apply below_drew1) | exact HB.out)⟩

/-! ### tontinelaw25_LowLevels: function 6 -/
mutual
def tontinelaw25_LowLevels.j0 : Nat → List Int → List Int → Int → Bool → Option (Bool)
  | 0, _, _, _, _ => none
  | k + 1, x0, x1, x2, x24 => if x24 = true then (some true) else ((tontinehelp_Base.f).bind fun bt355 => ((tontinelaw25_rows.f k x0).bind fun t364 => ((tontinelaw25_rows.f k x1).bind fun t367 => (if 0 ≤ (Int.tmod x2 4) then (if (Int.tmod x2 4) < (bt355.2.2.2.length : Int) then (if 3 < (bt355.2.2.2.length : Int) then ((low_Levels.f k bt355.1 bt355.2.1 bt355.2.2.1 bt355.2.2.2 t364 t367 ((rd_T46 bt355.2.2.2 (Int.tmod x2 4)).f0.f0) ((rd_T46 bt355.2.2.2 (Int.tmod x2 4)).f0.f1)).bind fun t374 => ((low_Levels.f k bt355.1 bt355.2.1 bt355.2.2.1 bt355.2.2.2 t367 t364 ((rd_T46 bt355.2.2.2 (Int.tmod x2 4)).f0.f0) ((rd_T46 bt355.2.2.2 (Int.tmod x2 4)).f0.f1)).bind fun t375 => (if (t374 != t375) = true then (tontinelaw25_LowLevels.j1 k t364 t367 true bt355.1 bt355.2.1 bt355.2.2.1 bt355.2.2.2 ((rd_T46 bt355.2.2.2 3).f0.f0) ((rd_T46 bt355.2.2.2 3).f0.f1)) else (if t374 = true then ((low_Levels.f k bt355.1 bt355.2.1 bt355.2.2.1 bt355.2.2.2 t364 t367 ((rd_T46 bt355.2.2.2 3).f0.f0) ((rd_T46 bt355.2.2.2 3).f0.f1)).bind fun t376 => (if t376 = true then ((low_Levels.f k bt355.1 bt355.2.1 bt355.2.2.1 bt355.2.2.2 t364 t364 ((rd_T46 bt355.2.2.2 (Int.tmod x2 4)).f0.f0) ((rd_T46 bt355.2.2.2 (Int.tmod x2 4)).f0.f1)).bind fun t377 => (if t377 = true then (if (t364.length : Int) = (t367.length : Int) then (tontinelaw25_LowLevels.j1 k t364 t367 false bt355.1 bt355.2.1 bt355.2.2.1 bt355.2.2.2 ((rd_T46 bt355.2.2.2 3).f0.f0) ((rd_T46 bt355.2.2.2 3).f0.f1)) else (tontinelaw25_LowLevels.j1 k t364 t367 t374 bt355.1 bt355.2.1 bt355.2.2.1 bt355.2.2.2 ((rd_T46 bt355.2.2.2 3).f0.f0) ((rd_T46 bt355.2.2.2 3).f0.f1))) else (tontinelaw25_LowLevels.j1 k t364 t367 true bt355.1 bt355.2.1 bt355.2.2.1 bt355.2.2.2 ((rd_T46 bt355.2.2.2 3).f0.f0) ((rd_T46 bt355.2.2.2 3).f0.f1)))) else (tontinelaw25_LowLevels.j1 k t364 t367 true bt355.1 bt355.2.1 bt355.2.2.1 bt355.2.2.2 ((rd_T46 bt355.2.2.2 3).f0.f0) ((rd_T46 bt355.2.2.2 3).f0.f1)))) else ((low_Levels.f k bt355.1 bt355.2.1 bt355.2.2.1 bt355.2.2.2 t364 t364 ((rd_T46 bt355.2.2.2 (Int.tmod x2 4)).f0.f0) ((rd_T46 bt355.2.2.2 (Int.tmod x2 4)).f0.f1)).bind fun t378 => (if t378 = true then (if (t364.length : Int) = (t367.length : Int) then (tontinelaw25_LowLevels.j1 k t364 t367 false bt355.1 bt355.2.1 bt355.2.2.1 bt355.2.2.2 ((rd_T46 bt355.2.2.2 3).f0.f0) ((rd_T46 bt355.2.2.2 3).f0.f1)) else (tontinelaw25_LowLevels.j1 k t364 t367 t374 bt355.1 bt355.2.1 bt355.2.2.1 bt355.2.2.2 ((rd_T46 bt355.2.2.2 3).f0.f0) ((rd_T46 bt355.2.2.2 3).f0.f1))) else (tontinelaw25_LowLevels.j1 k t364 t367 true bt355.1 bt355.2.1 bt355.2.2.1 bt355.2.2.2 ((rd_T46 bt355.2.2.2 3).f0.f0) ((rd_T46 bt355.2.2.2 3).f0.f1)))))))) else (none)) else (none)) else (none)))))
def tontinelaw25_LowLevels.j1 : Nat → List (List Int) → List (List Int) → Bool → Int → Int → List (List Int) → List (S46) → Int → Int → Option (Bool)
  | 0, _, _, _, _, _, _, _, _, _ => none
  | k + 1, x10, x11, x82, x364000, x364001, x364002, x364003, x374000, x374001 => if x82 = true then (some false) else (if (x10.length : Int) = (x11.length : Int) then ((low_Levels.f k x364000 x364001 x364002 x364003 x10 x11 x374000 x374001).bind fun t379 => (some t379)) else (some true))
end
def tontinelaw25_LowLevels.f (k : Nat) (l0 : List Int) (l1 : List Int) (a2 : Int) (a3 : Int) : Option (Bool) := (ext_7.f).bind fun t354 => (if t354 = true then (if (l0.length : Int) > 40 then (tontinelaw25_LowLevels.j0 k l0 l1 a2 true) else (tontinelaw25_LowLevels.j0 k l0 l1 a2 (decide ((l1.length : Int) > 40)))) else (some false))
theorem tontinelaw25_LowLevels.mono_l : ∀ k, (∀ y0 y1 y2 y3, LeO (tontinelaw25_LowLevels.j0 k y0 y1 y2 y3) (tontinelaw25_LowLevels.j0 (k + 1) y0 y1 y2 y3)) ∧ (∀ y0 y1 y2 y3 y4 y5 y6 y7 y8, LeO (tontinelaw25_LowLevels.j1 k y0 y1 y2 y3 y4 y5 y6 y7 y8) (tontinelaw25_LowLevels.j1 (k + 1) y0 y1 y2 y3 y4 y5 y6 y7 y8))
  | 0 => ⟨fun _ _ _ _ r h => by simp [tontinelaw25_LowLevels.j0] at h, fun _ _ _ _ _ _ _ _ _ r h => by simp [tontinelaw25_LowLevels.j1] at h⟩
  | k + 1 => by
    obtain ⟨ih0, ih1⟩ := tontinelaw25_LowLevels.mono_l k
    refine ⟨?_, ?_⟩
    · intro y0 y1 y2 y3
      unfold tontinelaw25_LowLevels.j0
      repeat' first
      | (with_reducible exact ih0 _ _ _ _)
      | (with_reducible exact ih1 _ _ _ _ _ _ _ _ _)
      | (with_reducible exact low_Levels.mono _ _ _ _ _ _ _ _ _)
      | (with_reducible exact tontinelaw25_rows.mono _ _)
      | (with_reducible exact LeO.refl _)
      | (with_reducible exact LeO.none _)
      | (with_reducible refine LeO.ite ?_ ?_)
      | (with_reducible refine LeO.bind ?_ (fun _ => ?_))
      | exact ih0 _ _ _ _
      | exact ih1 _ _ _ _ _ _ _ _ _
      | exact low_Levels.mono _ _ _ _ _ _ _ _ _
      | exact tontinelaw25_rows.mono _ _
      | exact LeO.none _
      | refine LeO.ite ?_ ?_
      | refine LeO.bind ?_ (fun _ => ?_)
    · intro y0 y1 y2 y3 y4 y5 y6 y7 y8
      unfold tontinelaw25_LowLevels.j1
      repeat' first
      | (with_reducible exact ih0 _ _ _ _)
      | (with_reducible exact ih1 _ _ _ _ _ _ _ _ _)
      | (with_reducible exact low_Levels.mono _ _ _ _ _ _ _ _ _)
      | (with_reducible exact tontinelaw25_rows.mono _ _)
      | (with_reducible exact LeO.refl _)
      | (with_reducible exact LeO.none _)
      | (with_reducible refine LeO.ite ?_ ?_)
      | (with_reducible refine LeO.bind ?_ (fun _ => ?_))
      | exact ih0 _ _ _ _
      | exact ih1 _ _ _ _ _ _ _ _ _
      | exact low_Levels.mono _ _ _ _ _ _ _ _ _
      | exact tontinelaw25_rows.mono _ _
      | exact LeO.none _
      | refine LeO.ite ?_ ?_
      | refine LeO.bind ?_ (fun _ => ?_)
theorem tontinelaw25_LowLevels.mono : ∀ a0 a1 a2 a3 k, LeO (tontinelaw25_LowLevels.f k a0 a1 a2 a3) (tontinelaw25_LowLevels.f (k + 1) a0 a1 a2 a3) := by
 intro a0 a1 a2 a3 k
 obtain ⟨ih0, ih1⟩ := tontinelaw25_LowLevels.mono_l k
 unfold tontinelaw25_LowLevels.f
 repeat' first
   | (with_reducible exact ih0 _ _ _ _)
   | (with_reducible exact ih1 _ _ _ _ _ _ _ _ _)
   | (with_reducible exact low_Levels.mono _ _ _ _ _ _ _ _ _)
   | (with_reducible exact tontinelaw25_rows.mono _ _)
   | (with_reducible exact LeO.refl _)
   | (with_reducible exact LeO.none _)
   | (with_reducible refine LeO.ite ?_ ?_)
   | (with_reducible refine LeO.bind ?_ (fun _ => ?_))
   | exact ih0 _ _ _ _
   | exact ih1 _ _ _ _ _ _ _ _ _
   | exact low_Levels.mono _ _ _ _ _ _ _ _ _
   | exact tontinelaw25_rows.mono _ _
   | exact LeO.none _
   | refine LeO.ite ?_ ?_
   | refine LeO.bind ?_ (fun _ => ?_)
theorem tontinelaw25_LowLevels.flatc {P : Program} {ops : Array Oper} {Q : Exit → Act → World → Prop} {o : Oper} {l m : List Oper} {a : Act} {W : World} (h : wpList P ops Q (o :: List.append l m) a W) : wpList P ops Q (List.append (o :: l) m) a W := h
theorem tontinelaw25_LowLevels.flatn {P : Program} {ops : Array Oper} {Q : Exit → Act → World → Prop} {o : Oper} {l m : List Oper} {a : Act} {W : World} (h : wpList P ops Q (m) a W) : wpList P ops Q (List.append [] m) a W := h
set_option maxHeartbeats 8000000 in
set_option maxRecDepth 100000 in
theorem tontinelaw25_LowLevels.calls (k : Nat) (A0 : Option Addr) (c0 : Nat) (l0 : List Int) (A1 : Option Addr) (c1 : Nat) (l1 : List Int) (a2 : Int) (a3 : Int) (r : Bool) (hrt : r = true) (w : World) (hr0 : Kd.C (Kd.int .u8) w A0 l0.length l0) (hc0 : l0.length ≤ c0) (hr1 : Kd.C (Kd.int .u8) w A1 l1.length l1) (hc1 : l1.length ≤ c1) (h : tontinelaw25_LowLevels.f k l0 l1 a2 a3 = some r) :
    Calls Try.prog 6 #[.slice A0 l0.length c0, .slice A1 l1.length c1, .int .u8 a2, .int .u8 a3] w fun e w' => e = .returned (.bool r) ∧ Below w.heap.size w w' := by
 have hu25 := Try.underlying25; have hu32 := Try.underlying32
 have HR0 := Goto.m0 hr0
 have HC0 := Goto.m0 hc0
 clear hr0 hc0
 have HR1 := Goto.m0 hr1
 have HC1 := Goto.m0 hc1
 clear hr1 hc1
 have HB := Goto.m0 (Below.refl w.heap.size w)
 have HRT := Goto.m0 hrt
 clear hrt
 have H : ((ext_7.f).bind fun t354 => (if t354 = true then (if (l0.length : Int) > 40 then (tontinelaw25_LowLevels.j0 k l0 l1 a2 true) else (tontinelaw25_LowLevels.j0 k l0 l1 a2 (decide ((l1.length : Int) > 40)))) else (some false))) = some r := h
 clear h
 replace H := Option.bind_eq_some_iff.mp H
 obtain ⟨t354, A50, H⟩ := H
 have A5 := Goto.m0 A50
 clear A50
 by_cases c6 : t354 = true
 ·
  subst c6
  rw [if_pos rfl] at H
  have HC7 := Goto.m0 H
  clear H
  go_enter Try.func6, Try.ntmps6
  go_upto_region 3 with (first | ((first | (with_reducible refine gate_callee (f := 7) rfl ?_) | (with_reducible refine Goto.gate_calleeF rfl ?_)); (first | refine goesL_ (some 15) rfl rfl Try.func7 (by kernel_rfl) rfl #[] rfl (by (try simp only [List.map_toArray, List.map_cons, List.map_nil]); first | done | rfl | (simp only [List.length_drop, List.length_take]; rfl)) ?_ | refine Goto.goesF_ (some 15) rfl rfl Try.func7 (by kernel_rfl) rfl #[] rfl (by (try simp only [List.map_toArray, List.map_cons, List.map_nil]); first | done | rfl | (simp only [List.length_drop, List.length_take]; rfl)) ?_); (with_reducible refine (ext_7.calls  true (by first | rfl | assumption | (simp only [Bool.not_eq_true, Bool.not_eq_false] at *; assumption)) _ A5.out).mono ?_); rintro e w8 ⟨rfl, hb⟩; refine ⟨_, rfl, ?_⟩; replace HB := Goto.hs HB hb; (try clear hb); (try clear hb2); (try clear hk); (try clear hi)))
  (try simp only [Act.put, List.setIfInBounds_toArray, List.set_cons_zero, List.set_cons_succ])
  go_cut [24] (fun v24 wc => ∃ (kq : Nat) (x24_6 : Bool), v24 = .bool x24_6 ∧ Aside0 (tontinelaw25_LowLevels.j0 kq l0 l1 a2 x24_6 = some r) ∧ Aside0 (kq ≤ k) ∧ Aside0 (Below w.heap.size w wc))
  case first =>
   have H := HC7.out; clear HC7
   by_cases c9 : (l0.length : Int) > 40
   ·
    rw [if_pos c9] at H
    have c9b0 : decide (40 < (l0.length : Int)) = true := decide_eq_true c9
    have c9b1 : decide (40 < l0.length) = true := decide_eq_true (by omega)
    clear c9
    (first | rw [c9b0] | (simp only [i64_w, i32_w]; rw [c9b0]) | skip)
    have H' := Goto.m0 H
    clear H
    go_wp2
    go_meet
    case rel => exact ⟨_, (true), (by first | rfl | (simp; done) | (simp [*]; done)), H', ⟨by first | omega | exact Nat.le_refl _⟩, ⟨Goto.hx HB⟩⟩
   ·
    rw [if_neg c9] at H
    have c9b0 : decide (40 < (l0.length : Int)) = false := decide_eq_false c9
    have c9b1 : decide (40 < l0.length) = false := decide_eq_false (by omega)
    clear c9
    (first | rw [c9b0] | (simp only [i64_w, i32_w]; rw [c9b0]) | skip)
    have H' := Goto.m0 H
    clear H
    go_wp2
    go_meet
    case rel => exact ⟨_, (decide ((l1.length : Int) > 40)), (by first | rfl | (simp; done) | (simp [*]; done)), H', ⟨by first | omega | exact Nat.le_refl _⟩, ⟨Goto.hx HB⟩⟩
  case rest =>
   clear HC7; try clear c1; try clear p2; try clear c6; try clear c7; try clear c9; try clear c9b0; try clear c9b1
   obtain ⟨kq, x24_6, rfl, HA, HJ6, HB⟩ := hcut
   cases kq with
   | zero => exact absurd HA.out (by simp [tontinelaw25_LowLevels.j0])
   | succ kj6 =>
    have H := HA.out; clear HA
    simp only [tontinelaw25_LowLevels.j0] at H
    by_cases c10 : x24_6 = true
    ·
     subst c10
     rw [if_pos rfl] at H
     obtain rfl := Option.some.inj H
     go_wp2
     go_ret
     exact ⟨Goto.er, by repeat (first | (with_reducible first | exact HB.out | apply below_alloc | apply pw_below_drewN | apply below_drew1) | exact HB.out)⟩
    ·
     replace c10 := Bool.eq_false_iff.mpr c10
     subst c10
     rw [if_neg (show ¬ (false = true) by decide)] at H
     replace H := Option.bind_eq_some_iff.mp H
     obtain ⟨⟨t355, t356, t357, t360⟩, A110, H⟩ := H
     replace H : ((tontinelaw25_rows.f kj6 l0).bind fun t364 => ((tontinelaw25_rows.f kj6 l1).bind fun t367 => (if 0 ≤ (Int.tmod a2 4) then (if (Int.tmod a2 4) < (t360.length : Int) then (if 3 < (t360.length : Int) then ((low_Levels.f kj6 t355 t356 t357 t360 t364 t367 ((rd_T46 t360 (Int.tmod a2 4)).f0.f0) ((rd_T46 t360 (Int.tmod a2 4)).f0.f1)).bind fun t374 => ((low_Levels.f kj6 t355 t356 t357 t360 t367 t364 ((rd_T46 t360 (Int.tmod a2 4)).f0.f0) ((rd_T46 t360 (Int.tmod a2 4)).f0.f1)).bind fun t375 => (if (t374 != t375) = true then (tontinelaw25_LowLevels.j1 kj6 t364 t367 true t355 t356 t357 t360 ((rd_T46 t360 3).f0.f0) ((rd_T46 t360 3).f0.f1)) else (if t374 = true then ((low_Levels.f kj6 t355 t356 t357 t360 t364 t367 ((rd_T46 t360 3).f0.f0) ((rd_T46 t360 3).f0.f1)).bind fun t376 => (if t376 = true then ((low_Levels.f kj6 t355 t356 t357 t360 t364 t364 ((rd_T46 t360 (Int.tmod a2 4)).f0.f0) ((rd_T46 t360 (Int.tmod a2 4)).f0.f1)).bind fun t377 => (if t377 = true then (if (t364.length : Int) = (t367.length : Int) then (tontinelaw25_LowLevels.j1 kj6 t364 t367 false t355 t356 t357 t360 ((rd_T46 t360 3).f0.f0) ((rd_T46 t360 3).f0.f1)) else (tontinelaw25_LowLevels.j1 kj6 t364 t367 t374 t355 t356 t357 t360 ((rd_T46 t360 3).f0.f0) ((rd_T46 t360 3).f0.f1))) else (tontinelaw25_LowLevels.j1 kj6 t364 t367 true t355 t356 t357 t360 ((rd_T46 t360 3).f0.f0) ((rd_T46 t360 3).f0.f1)))) else (tontinelaw25_LowLevels.j1 kj6 t364 t367 true t355 t356 t357 t360 ((rd_T46 t360 3).f0.f0) ((rd_T46 t360 3).f0.f1)))) else ((low_Levels.f kj6 t355 t356 t357 t360 t364 t364 ((rd_T46 t360 (Int.tmod a2 4)).f0.f0) ((rd_T46 t360 (Int.tmod a2 4)).f0.f1)).bind fun t378 => (if t378 = true then (if (t364.length : Int) = (t367.length : Int) then (tontinelaw25_LowLevels.j1 kj6 t364 t367 false t355 t356 t357 t360 ((rd_T46 t360 3).f0.f0) ((rd_T46 t360 3).f0.f1)) else (tontinelaw25_LowLevels.j1 kj6 t364 t367 t374 t355 t356 t357 t360 ((rd_T46 t360 3).f0.f0) ((rd_T46 t360 3).f0.f1))) else (tontinelaw25_LowLevels.j1 kj6 t364 t367 true t355 t356 t357 t360 ((rd_T46 t360 3).f0.f0) ((rd_T46 t360 3).f0.f1)))))))) else (none)) else (none)) else (none)))) = some r := H
     have A11 := Goto.m0 A110
     clear A110
     replace H := Option.bind_eq_some_iff.mp H
     obtain ⟨t364, A120, H⟩ := H
     have A12 := Goto.m0 A120
     clear A120
     replace H := Option.bind_eq_some_iff.mp H
     obtain ⟨t367, A130, H⟩ := H
     have A13 := Goto.m0 A130
     clear A130
     obtain ⟨ji14, hji14⟩ : ∃ j_ : Int, (Int.tmod a2 4) = j_ := ⟨_, rfl⟩
     replace H : (if 0 ≤ (ji14) then (if (ji14) < (t360.length : Int) then (if 3 < (t360.length : Int) then ((low_Levels.f kj6 t355 t356 t357 t360 t364 t367 ((rd_T46 t360 (ji14)).f0.f0) ((rd_T46 t360 (ji14)).f0.f1)).bind fun t374 => ((low_Levels.f kj6 t355 t356 t357 t360 t367 t364 ((rd_T46 t360 (ji14)).f0.f0) ((rd_T46 t360 (ji14)).f0.f1)).bind fun t375 => (if (t374 != t375) = true then (tontinelaw25_LowLevels.j1 kj6 t364 t367 true t355 t356 t357 t360 ((rd_T46 t360 3).f0.f0) ((rd_T46 t360 3).f0.f1)) else (if t374 = true then ((low_Levels.f kj6 t355 t356 t357 t360 t364 t367 ((rd_T46 t360 3).f0.f0) ((rd_T46 t360 3).f0.f1)).bind fun t376 => (if t376 = true then ((low_Levels.f kj6 t355 t356 t357 t360 t364 t364 ((rd_T46 t360 (ji14)).f0.f0) ((rd_T46 t360 (ji14)).f0.f1)).bind fun t377 => (if t377 = true then (if (t364.length : Int) = (t367.length : Int) then (tontinelaw25_LowLevels.j1 kj6 t364 t367 false t355 t356 t357 t360 ((rd_T46 t360 3).f0.f0) ((rd_T46 t360 3).f0.f1)) else (tontinelaw25_LowLevels.j1 kj6 t364 t367 t374 t355 t356 t357 t360 ((rd_T46 t360 3).f0.f0) ((rd_T46 t360 3).f0.f1))) else (tontinelaw25_LowLevels.j1 kj6 t364 t367 true t355 t356 t357 t360 ((rd_T46 t360 3).f0.f0) ((rd_T46 t360 3).f0.f1)))) else (tontinelaw25_LowLevels.j1 kj6 t364 t367 true t355 t356 t357 t360 ((rd_T46 t360 3).f0.f0) ((rd_T46 t360 3).f0.f1)))) else ((low_Levels.f kj6 t355 t356 t357 t360 t364 t364 ((rd_T46 t360 (ji14)).f0.f0) ((rd_T46 t360 (ji14)).f0.f1)).bind fun t378 => (if t378 = true then (if (t364.length : Int) = (t367.length : Int) then (tontinelaw25_LowLevels.j1 kj6 t364 t367 false t355 t356 t357 t360 ((rd_T46 t360 3).f0.f0) ((rd_T46 t360 3).f0.f1)) else (tontinelaw25_LowLevels.j1 kj6 t364 t367 t374 t355 t356 t357 t360 ((rd_T46 t360 3).f0.f0) ((rd_T46 t360 3).f0.f1))) else (tontinelaw25_LowLevels.j1 kj6 t364 t367 true t355 t356 t357 t360 ((rd_T46 t360 3).f0.f0) ((rd_T46 t360 3).f0.f1)))))))) else (none)) else (none)) else (none)) = some r := by first | (rw [hji14] at H; exact H) | (simp only [hji14] at H ⊢; exact H)
     (try rw [hji14] at A11)
     (try rw [hji14] at A12)
     (try rw [hji14] at A13)
     by_cases c15 : 0 ≤ (ji14)
     ·
      rw [if_pos c15] at H
      have c15b0 : decide (0 ≤ (ji14)) = true := decide_eq_true c15
      clear c15
      by_cases c16 : (ji14) < (t360.length : Int)
      ·
       rw [if_pos c16] at H
       have c16b0 : decide ((ji14) < (t360.length : Int)) = true := decide_eq_true c16
       clear c16
       by_cases c17 : 3 < (t360.length : Int)
       ·
        rw [if_pos c17] at H
        have c17b0 : decide (3 < (t360.length : Int)) = true := decide_eq_true c17
        have c17b1 : decide (3 < t360.length) = true := decide_eq_true (by omega)
        clear c17
        replace H := Option.bind_eq_some_iff.mp H
        obtain ⟨t374, A180, H⟩ := H
        have A18 := Goto.m0 A180
        clear A180
        have HC19 := Goto.m0 H
        clear H
        go_upto_region 10 with (first | ((first | (with_reducible refine gate_callee (f := 25) rfl ?_) | (with_reducible refine Goto.gate_calleeF rfl ?_)); (first | refine goesL_ (some 25) rfl rfl Try.func25 (by kernel_rfl) rfl #[] rfl (by (try simp only [List.map_toArray, List.map_cons, List.map_nil]); first | done | rfl | (simp only [List.length_drop, List.length_take]; rfl)) ?_ | refine Goto.goesF_ (some 25) rfl rfl Try.func25 (by kernel_rfl) rfl #[] rfl (by (try simp only [List.map_toArray, List.map_cons, List.map_nil]); first | done | rfl | (simp only [List.length_drop, List.length_take]; rfl)) ?_); (with_reducible refine (tontinehelp_Base.calls  t355 t356 t357 t360 _ A11.out).mono ?_); rintro e w20 ⟨v358, v361, rfl, ho0, ho1, hb⟩; refine ⟨_, rfl, ?_⟩; have HO359 := Goto.m0 (Kd.N_lower (Kd.N_mono (ok' := fun k_ => some k_ ≠ (v361 : Value).ownBlock) ho0 (fun k_ hk_ => hk_.2)) (below_size (Goto.hx HB))); have HO362 := Goto.m0 (Kd.N_lower (Kd.N_mono (ok' := fun k_ => some k_ ≠ (v358 : Value).ownBlock) ho1 (fun k_ hk_ => hk_.2)) (below_size (Goto.hx HB))); replace HB := Goto.hs HB hb; (try clear hb); (try clear hb2); (try clear hk); (try clear hi); (try clear ho0); (try clear ho1)) | ((with_reducible refine gate_dst (N := 9) rfl ?_); (try (refine gate_guard (by rfl) ?_; dsimp only)); refine box_event ?hg (N := 9) ?hd (cs := #[.int .i64 0, .int .i64 0, .slice none 0 0, .slice none 0 0]) (t := 25) ?hr ?_; (case hd => rfl); (case hg => rfl); (case hr => first | (go_simp; done) | (go_simp; rfl)); intro gb363 hg w21 hbox hb; have BK363 := Goto.m0 (hbox); have GW363 := Goto.gs HB hg; have GE363 := Goto.gs HB hg; replace HO359 := Goto.ngN HO359 hg hb; replace HO362 := Goto.ngN HO362 hg hb; replace HB := Goto.hs HB hb; clear hb hbox hg; have hcz22_0 := Goto.bc0 BK363; have hcz22_1 := Goto.bc1 BK363; have hcz22_2 := Goto.bc2 BK363; have hcz22_3 := Goto.bc3 BK363; have hfz22_0 := Goto.bf BK363 0; have hfz22_1 := Goto.bf BK363 1; have hfz22_2 := Goto.bf BK363 2; have hfz22_3 := Goto.bf BK363 3; obtain ⟨Ao23, co23, eo23⟩ := Kd.N_slice HO359.out; subst eo23; obtain ⟨Ao24, co24, eo24⟩ := Kd.N_slice HO362.out; subst eo24) | ((first | (with_reducible refine gate_callee (f := 26) rfl ?_) | (with_reducible refine Goto.gate_calleeF rfl ?_)); (first | refine goesL_ (some 27) rfl rfl Try.func26 (by kernel_rfl) rfl #[.slice A0 l0.length c0] rfl (by (try simp only [List.map_toArray, List.map_cons, List.map_nil]); first | done | rfl | (simp only [List.length_drop, List.length_take]; rfl)) ?_ | refine Goto.goesF_ (some 27) rfl rfl Try.func26 (by kernel_rfl) rfl #[.slice A0 l0.length c0] rfl (by (try simp only [List.map_toArray, List.map_cons, List.map_nil]); first | done | rfl | (simp only [List.length_drop, List.length_take]; rfl)) ?_); (with_reducible refine (tontinelaw25_rows.calls kj6 _ _ l0 t364 _ ?side1 ?side2 A12.out).mono ?_); (case side1 => exact Kd.C_below HR0.out (Goto.hx HB)); (case side2 => exact HC0.out); rintro e w25 ⟨v365, rfl, ho0, hb⟩; refine ⟨_, rfl, ?_⟩; have HO366 := Goto.m0 (Kd.N_lower (Kd.N_mono (ok' := fun k_ => some k_ ≠ (.slice Ao23 t357.length co23 : Value).ownBlock ∧ some k_ ≠ (.slice Ao24 t360.length co24 : Value).ownBlock ∧ k_ ≠ gb363) (Kd.S_N (Kd.S_bound ho0)) (fun k_ hk_ => ⟨(Kd.fresh' (Kd.N_lt (Goto.frN HO359)) k_ hk_.2.1), (Kd.fresh' (Kd.N_lt (Goto.frN HO362)) k_ hk_.2.1), (Kd.freshB (g := gb363) (o := .cells #[.int .i64 t355, .int .i64 t356, .slice Ao23 t357.length co23, .slice Ao24 t360.length co24] 25 (0, 0)) (Goto.bx BK363) k_ hk_.2.1)⟩)) (below_size (Goto.hx HB))); replace HO359 := Goto.m0 (Kd.N_elder' (Goto.frN HO359) (Kd.S_base ho0) hb); replace HO362 := Goto.m0 (Kd.N_elder' (Goto.frN HO362) (Kd.S_base ho0) hb); replace BK363 := Goto.bp (.cells #[.int .i64 t355, .int .i64 t356, .slice Ao23 t357.length co23, .slice Ao24 t360.length co24] 25 (0, 0)) BK363 hb; replace HB := Goto.hs HB hb; (try clear hb); (try clear hb2); (try clear hk); (try clear hi); (try clear ho0)) | ((first | (with_reducible refine gate_callee (f := 26) rfl ?_) | (with_reducible refine Goto.gate_calleeF rfl ?_)); (first | refine goesL_ (some 29) rfl rfl Try.func26 (by kernel_rfl) rfl #[.slice A1 l1.length c1] rfl (by (try simp only [List.map_toArray, List.map_cons, List.map_nil]); first | done | rfl | (simp only [List.length_drop, List.length_take]; rfl)) ?_ | refine Goto.goesF_ (some 29) rfl rfl Try.func26 (by kernel_rfl) rfl #[.slice A1 l1.length c1] rfl (by (try simp only [List.map_toArray, List.map_cons, List.map_nil]); first | done | rfl | (simp only [List.length_drop, List.length_take]; rfl)) ?_); (with_reducible refine (tontinelaw25_rows.calls kj6 _ _ l1 t367 _ ?side1 ?side2 A13.out).mono ?_); (case side1 => repeat (first | exact (Kd.C_below HR1.out HB.out) | (with_reducible refine Kd.C_alloc ?_ _) | (with_reducible refine Kd.C_drewN ?_ _) | (with_reducible refine Kd.C_drew ?_))); (case side2 => exact HC1.out); rintro e w26 ⟨v368, rfl, ho0, hb⟩; refine ⟨_, rfl, ?_⟩; have HO369 := Goto.m0 (Kd.N_lower (Kd.N_mono (ok' := fun k_ => some k_ ≠ (.slice Ao23 t357.length co23 : Value).ownBlock ∧ some k_ ≠ (.slice Ao24 t360.length co24 : Value).ownBlock ∧ some k_ ≠ (v365 : Value).ownBlock ∧ k_ ≠ gb363) (Kd.S_N (Kd.S_bound ho0)) (fun k_ hk_ => ⟨(Kd.fresh' (Kd.N_lt (by (with_reducible repeat (first | apply Kd.N_alloc | apply Kd.N_drewN | apply Kd.N_drew)); exact HO359.out)) k_ hk_.2.1), (Kd.fresh' (Kd.N_lt (by (with_reducible repeat (first | apply Kd.N_alloc | apply Kd.N_drewN | apply Kd.N_drew)); exact HO362.out)) k_ hk_.2.1), (Kd.fresh' (Kd.N_lt (by (with_reducible repeat (first | apply Kd.N_alloc | apply Kd.N_drewN | apply Kd.N_drew)); exact HO366.out)) k_ hk_.2.1), (Kd.freshB (g := gb363) (o := .cells #[.int .i64 t355, .int .i64 t356, .slice Ao23 t357.length co23, .slice Ao24 t360.length co24] 25 (0, 0)) (Goto.bx BK363) k_ hk_.2.1)⟩)) (below_size (Goto.hx HB))); replace HO359 := Goto.nqN HO359 (Kd.S_base ho0) hb; replace HO362 := Goto.nqN HO362 (Kd.S_base ho0) hb; replace HO366 := Goto.nqN HO366 (Kd.S_base ho0) hb; replace BK363 := Goto.bb BK363 hb; replace HB := Goto.hs HB hb; (try clear hb); (try clear hb2); (try clear hk); (try clear hi); (try clear ho0); have hcz27_0 := Goto.bc0 BK363; have hcz27_1 := Goto.bc1 BK363; have hcz27_2 := Goto.bc2 BK363; have hcz27_3 := Goto.bc3 BK363; have hfz27_0 := Goto.bf BK363 0; have hfz27_1 := Goto.bf BK363 1; have hfz27_2 := Goto.bf BK363 2; have hfz27_3 := Goto.bf BK363 3; have p370 : 0 ≤ ((ji14) : Int) := Goto.od; have q370 : (ji14) < (t360.length : Int) := Goto.od; obtain ⟨ad370, A370_2, c370_2, A370_3, c370_3, e370, hx370_0, hx370_1, hx370_2, hx370_3, hx370_4, hx370_5, hx370_6, hx370_7, hx370_8, hx370_9, hl370_2, hi370_2, hl370_3, hi370_3⟩ := at_T46 (Kd.N_reads' HO362.out).2.2 (ji14) p370 q370; cases e370; obtain ⟨ce370, hce370, hMe370, hcc370⟩ := Kd.N_get HO362.out z46 (ji14) p370 (by first | exact q370 | exact of_decide_eq_true (by first | (with_reducible assumption) | assumption) | (have e_ := (Kd.N_reads' HO362.out).1; omega)); obtain ⟨ua370_2, uc370_2, ua370_3, uc370_3, rfl, ul370_2, ge370_2, ul370_3, ge370_3⟩ := k46_openF hMe370; have hv370_2 := hcc370 2 _ rfl; rw [add_field _ _ 2 (by omega)] at hv370_2; replace hv370_2 := Option.some.inj (hv370_2.symm.trans hx370_2); injection hv370_2 with hva_ hvn_ hvc_; rw [hva_] at ge370_2; rw [hvc_] at ul370_2; have HL370_2 := Goto.m0 (show Kd.V (Kd.slice 3 (Kd.int .i64)) 44 _ w.heap.size _ _ ((rd_T46 t360 (ji14)).f1) from Kd.V_mk ul370_2 ge370_2); clear hva_ hvn_ hvc_ ge370_2 ul370_2; have hv370_3 := hcc370 3 _ rfl; rw [add_field _ _ 3 (by omega)] at hv370_3; replace hv370_3 := Option.some.inj (hv370_3.symm.trans hx370_3); injection hv370_3 with hva_ hvn_ hvc_; rw [hva_] at ge370_3; rw [hvc_] at ul370_3; have HL370_3 := Goto.m0 (show Kd.V (Kd.int .i64) 3 _ w.heap.size _ _ ((rd_T46 t360 (ji14)).f2) from Kd.V_mk ul370_3 ge370_3); clear hva_ hvn_ hvc_ ge370_3 ul370_3; clear hcc370 hce370; have HR370_2 := Goto.m0 hi370_2; have HC370_2 := Goto.m0 hl370_2; clear hi370_2 hl370_2; have HR370_3 := Goto.m0 hi370_3; have HC370_3 := Goto.m0 hl370_3; clear hi370_3 hl370_3; replace p370 := eq_true p370; replace q370 := eq_true q370) | ((with_reducible refine gate_dst (N := 12) rfl ?_); (try (refine gate_guard (by rfl) ?_; dsimp only)); refine box_event ?hg (N := 12) ?hd (cs := #[.int .i64 0, .int .u64 0]) (t := 32) ?hr ?_; (case hd => rfl); (case hg => rfl); (case hr => first | (go_simp; done) | (go_simp; rfl)); intro gb371 hg w28 hbox hb; have BK371 := Goto.m0 (hbox); have GW371 := Goto.gs HB hg; have GE371 := Goto.gs HB hg; have NB363_371 := Goto.nl BK363 hg; have NB371_363 := Goto.nr BK363 hg; replace HO359 := Goto.ngN HO359 hg hb; replace HO362 := Goto.ngN HO362 hg hb; replace HO366 := Goto.ngN HO366 hg hb; replace HO369 := Goto.ngN HO369 hg hb; replace HL370_2 := Goto.ngV HL370_2 hg hb; replace HL370_3 := Goto.ngV HL370_3 hg hb; replace BK363 := Goto.bb BK363 hb; replace HR370_2 := Goto.cb HR370_2 hb; replace HR370_3 := Goto.cb HR370_3 hb; replace HB := Goto.hs HB hb; clear hb hbox hg; have hnb29 := NB371_363.out; have hnc29 := NB363_371.out; have hcz30_0 := Goto.bc0 BK371; have hcz30_1 := Goto.bc1 BK371; have hfz30_0 := Goto.bf BK371 0; have hfz30_1 := Goto.bf BK371 1) | ((with_reducible refine gate_store (t := 32) (p := 12) rfl ?_); refine store_event (t := 32) (p := 12) (v := ?vo_w31) (w1 := ((w28.setCell ⟨gb371, 0, none⟩ (.int .i64 ((rd_T46 t360 (ji14)).f0.f0))).setCell ⟨gb371, 1, none⟩ (.int .u64 ((rd_T46 t360 (ji14)).f0.f1)))) ?hg ?ho ?hn ?hr ?_; (case ho => rfl); (case hg => rfl); (case hn => rfl); (case hr => first | (go_simp; done) | (go_simp; rfl)); intro w31 hw; have n0_ : Aside0 (Kd.N (Kd.slice 3 (Kd.int .i64)) 44 w31 w.heap.size (fun k_ => some k_ ≠ (.slice (some ad370) t360.length co24 : Value).ownBlock ∧ some k_ ≠ (v365 : Value).ownBlock ∧ some k_ ≠ (v368 : Value).ownBlock ∧ k_ ≠ gb363 ∧ k_ ≠ gb371) (.slice Ao23 t357.length co23) t357) := ⟨(by rw [hw]; exact (Goto.fmN HO359))⟩; have n1_ : Aside0 (Kd.N k46 46 w31 w.heap.size (fun k_ => some k_ ≠ (.slice Ao23 t357.length co23 : Value).ownBlock ∧ some k_ ≠ (v365 : Value).ownBlock ∧ some k_ ≠ (v368 : Value).ownBlock ∧ k_ ≠ gb363 ∧ k_ ≠ gb371) (.slice (some ad370) t360.length co24) t360) := ⟨(by rw [hw]; exact (Goto.fmN HO362))⟩; have n2_ : Aside0 (Kd.N (Kd.slice 3 (Kd.int .i64)) 44 w31 w.heap.size (fun k_ => some k_ ≠ (.slice Ao23 t357.length co23 : Value).ownBlock ∧ some k_ ≠ (.slice (some ad370) t360.length co24 : Value).ownBlock ∧ some k_ ≠ (v368 : Value).ownBlock ∧ k_ ≠ gb363 ∧ k_ ≠ gb371) v365 t364) := ⟨(by rw [hw]; exact (Goto.fmN HO366))⟩; have n3_ : Aside0 (Kd.N (Kd.slice 3 (Kd.int .i64)) 44 w31 w.heap.size (fun k_ => some k_ ≠ (.slice Ao23 t357.length co23 : Value).ownBlock ∧ some k_ ≠ (.slice (some ad370) t360.length co24 : Value).ownBlock ∧ some k_ ≠ (v365 : Value).ownBlock ∧ k_ ≠ gb363 ∧ k_ ≠ gb371) v368 t367) := ⟨(by rw [hw]; exact (Goto.fmN HO369))⟩; have n4_ : Aside0 (Kd.V (Kd.slice 3 (Kd.int .i64)) 44 w31 w.heap.size (fun k_ => some k_ ≠ (.slice Ao23 t357.length co23 : Value).ownBlock ∧ some k_ ≠ (.slice (some ad370) t360.length co24 : Value).ownBlock ∧ some k_ ≠ (v365 : Value).ownBlock ∧ some k_ ≠ (v368 : Value).ownBlock ∧ k_ ≠ gb363 ∧ k_ ≠ gb371) (.slice A370_2 ((rd_T46 t360 (ji14)).f1).length c370_2) ((rd_T46 t360 (ji14)).f1)) := ⟨(by rw [hw]; exact (Goto.fmV HL370_2))⟩; have n5_ : Aside0 (Kd.V (Kd.int .i64) 3 w31 w.heap.size (fun k_ => some k_ ≠ (.slice Ao23 t357.length co23 : Value).ownBlock ∧ some k_ ≠ (.slice (some ad370) t360.length co24 : Value).ownBlock ∧ some k_ ≠ (v365 : Value).ownBlock ∧ some k_ ≠ (v368 : Value).ownBlock ∧ k_ ≠ gb363 ∧ k_ ≠ gb371) (.slice A370_3 ((rd_T46 t360 (ji14)).f2).length c370_3) ((rd_T46 t360 (ji14)).f2)) := ⟨(by rw [hw]; exact (Goto.fmV HL370_3))⟩; have n6_ : Aside0 (w31.heap[gb363]? = some (.cells #[.int .i64 t355, .int .i64 t356, .slice Ao23 t357.length co23, .slice (some ad370) t360.length co24] 25 (0, 0))) := ⟨(by rw [hw]; exact (Goto.bx BK363))⟩; have n7_ : Aside0 (w31.heap[gb371]? = some (.cells #[.int .i64 ((rd_T46 t360 (ji14)).f0.f0), .int .u64 ((rd_T46 t360 (ji14)).f0.f1)] 32 (0, 0))) := ⟨(by rw [hw]; exact (Goto.bx BK371))⟩; have n8_ : Aside0 (Below w.heap.size w w31) := ⟨(by rw [hw]; exact (Goto.hx HB))⟩; clear hw; clear HO359; clear HO362; clear HO366; clear HO369; clear HL370_2; clear HL370_3; clear BK363; clear BK371; clear HB; have HO359 := n0_; have HO362 := n1_; have HO366 := n2_; have HO369 := n3_; have HL370_2 := n4_; have HL370_3 := n5_; have BK363 := n6_; have BK371 := n7_; have HB := n8_; clear n0_ n1_ n2_ n3_ n4_ n5_ n6_ n7_ n8_; replace HR370_2 := Goto.m0 ((Kd.V_reads' HL370_2.out).2.2); replace HR370_3 := Goto.m0 ((Kd.V_reads' HL370_3.out).2.2); have hcz32_0 := Goto.bc0 BK363; have hcz32_1 := Goto.bc1 BK363; have hcz32_2 := Goto.bc2 BK363; have hcz32_3 := Goto.bc3 BK363; have hfz32_0 := Goto.bf BK363 0; have hfz32_1 := Goto.bf BK363 1; have hfz32_2 := Goto.bf BK363 2; have hfz32_3 := Goto.bf BK363 3; have p372 : 0 ≤ (3 : Int) := (by omega); have q372 : 3 < (t360.length : Int) := Goto.od; obtain ⟨ad372, A372_2, c372_2, A372_3, c372_3, e372, hx372_0, hx372_1, hx372_2, hx372_3, hx372_4, hx372_5, hx372_6, hx372_7, hx372_8, hx372_9, hl372_2, hi372_2, hl372_3, hi372_3⟩ := at_T46 (Kd.N_reads' HO362.out).2.2 3 p372 q372; obtain rfl : ad370 = ad372 := (by injection e372); obtain ⟨ce372, hce372, hMe372, hcc372⟩ := Kd.N_get HO362.out z46 3 p372 (by first | exact q372 | exact of_decide_eq_true (by first | (with_reducible assumption) | assumption) | (have e_ := (Kd.N_reads' HO362.out).1; omega)); obtain ⟨ua372_2, uc372_2, ua372_3, uc372_3, rfl, ul372_2, ge372_2, ul372_3, ge372_3⟩ := k46_openF hMe372; have hv372_2 := hcc372 2 _ rfl; rw [add_field _ _ 2 (by omega)] at hv372_2; replace hv372_2 := Option.some.inj (hv372_2.symm.trans hx372_2); injection hv372_2 with hva_ hvn_ hvc_; rw [hva_] at ge372_2; rw [hvc_] at ul372_2; have HL372_2 := Goto.m0 (show Kd.V (Kd.slice 3 (Kd.int .i64)) 44 _ w.heap.size _ _ ((rd_T46 t360 3).f1) from Kd.V_mk ul372_2 ge372_2); clear hva_ hvn_ hvc_ ge372_2 ul372_2; have hv372_3 := hcc372 3 _ rfl; rw [add_field _ _ 3 (by omega)] at hv372_3; replace hv372_3 := Option.some.inj (hv372_3.symm.trans hx372_3); injection hv372_3 with hva_ hvn_ hvc_; rw [hva_] at ge372_3; rw [hvc_] at ul372_3; have HL372_3 := Goto.m0 (show Kd.V (Kd.int .i64) 3 _ w.heap.size _ _ ((rd_T46 t360 3).f2) from Kd.V_mk ul372_3 ge372_3); clear hva_ hvn_ hvc_ ge372_3 ul372_3; clear hcc372 hce372; (try simp only [show (3 : Int).toNat = 3 from rfl, Nat.reduceMul, Nat.reduceEqDiff, Go.Addr.add, ↓reduceIte] at hx372_0); (try simp only [show (3 : Int).toNat = 3 from rfl, Nat.reduceMul, Nat.reduceEqDiff, Go.Addr.add, ↓reduceIte] at hx372_1); (try simp only [show (3 : Int).toNat = 3 from rfl, Nat.reduceMul, Nat.reduceEqDiff, Go.Addr.add, ↓reduceIte] at hx372_2); (try simp only [show (3 : Int).toNat = 3 from rfl, Nat.reduceMul, Nat.reduceEqDiff, Go.Addr.add, ↓reduceIte] at hx372_3); (try simp only [show (3 : Int).toNat = 3 from rfl, Nat.reduceMul, Nat.reduceEqDiff, Go.Addr.add, ↓reduceIte] at hx372_4); (try simp only [show (3 : Int).toNat = 3 from rfl, Nat.reduceMul, Nat.reduceEqDiff, Go.Addr.add, ↓reduceIte] at hx372_5); (try simp only [show (3 : Int).toNat = 3 from rfl, Nat.reduceMul, Nat.reduceEqDiff, Go.Addr.add, ↓reduceIte] at hx372_6); (try simp only [show (3 : Int).toNat = 3 from rfl, Nat.reduceMul, Nat.reduceEqDiff, Go.Addr.add, ↓reduceIte] at hx372_7); (try simp only [show (3 : Int).toNat = 3 from rfl, Nat.reduceMul, Nat.reduceEqDiff, Go.Addr.add, ↓reduceIte] at hx372_8); (try simp only [show (3 : Int).toNat = 3 from rfl, Nat.reduceMul, Nat.reduceEqDiff, Go.Addr.add, ↓reduceIte] at hx372_9); have qi372 : (3 < t360.length) = True := eq_true (by omega); (try rw [show ((3 : Int)).toNat = 3 from rfl] at hx372_0); (try rw [show 3 * 10 = 30 from rfl] at hx372_0); (try rw [show ((3 : Int)).toNat = 3 from rfl] at hx372_1); (try rw [show 3 * 10 = 30 from rfl] at hx372_1); (try rw [show ((3 : Int)).toNat = 3 from rfl] at hx372_2); (try rw [show 3 * 10 = 30 from rfl] at hx372_2); (try rw [show ((3 : Int)).toNat = 3 from rfl] at hx372_3); (try rw [show 3 * 10 = 30 from rfl] at hx372_3); (try rw [show ((3 : Int)).toNat = 3 from rfl] at hx372_4); (try rw [show 3 * 10 = 30 from rfl] at hx372_4); (try rw [show ((3 : Int)).toNat = 3 from rfl] at hx372_5); (try rw [show 3 * 10 = 30 from rfl] at hx372_5); (try rw [show ((3 : Int)).toNat = 3 from rfl] at hx372_6); (try rw [show 3 * 10 = 30 from rfl] at hx372_6); (try rw [show ((3 : Int)).toNat = 3 from rfl] at hx372_7); (try rw [show 3 * 10 = 30 from rfl] at hx372_7); (try rw [show ((3 : Int)).toNat = 3 from rfl] at hx372_8); (try rw [show 3 * 10 = 30 from rfl] at hx372_8); (try rw [show ((3 : Int)).toNat = 3 from rfl] at hx372_9); (try rw [show 3 * 10 = 30 from rfl] at hx372_9); have HR372_2 := Goto.m0 hi372_2; have HC372_2 := Goto.m0 hl372_2; clear hi372_2 hl372_2; have HR372_3 := Goto.m0 hi372_3; have HC372_3 := Goto.m0 hl372_3; clear hi372_3 hl372_3; replace p372 := eq_true p372; replace q372 := eq_true q372) | ((with_reducible refine gate_dst (N := 13) rfl ?_); (try (refine gate_guard (by rfl) ?_; dsimp only)); refine box_event ?hg (N := 13) ?hd (cs := #[.int .i64 0, .int .u64 0]) (t := 32) ?hr ?_; (case hd => rfl); (case hg => rfl); (case hr => first | (go_simp; done) | (go_simp; rfl)); intro gb373 hg w33 hbox hb; have BK373 := Goto.m0 (hbox); have GW373 := Goto.gs HB hg; have GE373 := Goto.gs HB hg; have NB363_373 := Goto.nl BK363 hg; have NB373_363 := Goto.nr BK363 hg; have NB371_373 := Goto.nl BK371 hg; have NB373_371 := Goto.nr BK371 hg; replace HO359 := Goto.ngN HO359 hg hb; replace HO362 := Goto.ngN HO362 hg hb; replace HO366 := Goto.ngN HO366 hg hb; replace HO369 := Goto.ngN HO369 hg hb; replace HL370_2 := Goto.ngV HL370_2 hg hb; replace HL370_3 := Goto.ngV HL370_3 hg hb; replace HL372_2 := Goto.ngV HL372_2 hg hb; replace HL372_3 := Goto.ngV HL372_3 hg hb; replace BK363 := Goto.bb BK363 hb; replace HR370_2 := Goto.cb HR370_2 hb; replace HR370_3 := Goto.cb HR370_3 hb; replace BK371 := Goto.bb BK371 hb; replace HR372_2 := Goto.cb HR372_2 hb; replace HR372_3 := Goto.cb HR372_3 hb; replace HB := Goto.hs HB hb; clear hb hbox hg; have hnb34 := NB373_363.out; have hnc34 := NB363_373.out; have hnb35 := NB373_371.out; have hnc35 := NB371_373.out; have hcz36_0 := Goto.bc0 BK373; have hcz36_1 := Goto.bc1 BK373; have hfz36_0 := Goto.bf BK373 0; have hfz36_1 := Goto.bf BK373 1; have hcz37_0 := Goto.bc0 BK363; have hcz37_1 := Goto.bc1 BK363; have hcz37_2 := Goto.bc2 BK363; have hcz37_3 := Goto.bc3 BK363; have hfz37_0 := Goto.bf BK363 0; have hfz37_1 := Goto.bf BK363 1; have hfz37_2 := Goto.bf BK363 2; have hfz37_3 := Goto.bf BK363 3; have hcz38_0 := Goto.bc0 BK371; have hcz38_1 := Goto.bc1 BK371; have hfz38_0 := Goto.bf BK371 0; have hfz38_1 := Goto.bf BK371 1; obtain ⟨Ao39, co39, eo39⟩ := Kd.N_slice HO366.out; subst eo39; obtain ⟨Ao40, co40, eo40⟩ := Kd.N_slice HO369.out; subst eo40) | ((first | (with_reducible refine gate_callee (f := 14) rfl ?_) | (with_reducible refine Goto.gate_calleeF rfl ?_)); (first | refine goesL_ (some 46) rfl rfl Try.func14 (by kernel_rfl) rfl #[.agg #[.int .i64 t355, .int .i64 t356, .slice Ao23 t357.length co23, .slice (some ad370) t360.length co24], .slice Ao39 t364.length co39, .slice Ao40 t367.length co40, .agg #[.int .i64 ((rd_T46 t360 (ji14)).f0.f0), .int .u64 ((rd_T46 t360 (ji14)).f0.f1)]] rfl (by (try simp only [List.map_toArray, List.map_cons, List.map_nil]); first | done | (simp only [hji14]; rfl) | rfl | (simp only [List.length_drop, List.length_take]; rfl)) ?_ | refine Goto.goesF_ (some 46) rfl rfl Try.func14 (by kernel_rfl) rfl #[.agg #[.int .i64 t355, .int .i64 t356, .slice Ao23 t357.length co23, .slice (some ad370) t360.length co24], .slice Ao39 t364.length co39, .slice Ao40 t367.length co40, .agg #[.int .i64 ((rd_T46 t360 (ji14)).f0.f0), .int .u64 ((rd_T46 t360 (ji14)).f0.f1)]] rfl (by (try simp only [List.map_toArray, List.map_cons, List.map_nil]); first | done | (simp only [hji14]; rfl) | rfl | (simp only [List.length_drop, List.length_take]; rfl)) ?_); (with_reducible refine (low_Levels.calls kj6 t355 t356 _ _ t357 _ _ t360 _ _ t364 _ _ t367 ((rd_T46 t360 (ji14)).f0.f0) ((rd_T46 t360 (ji14)).f0.f1) t374 _ ?side1 ?side2 ?side3 ?side4 ?side5 ?side6 ?side7 ?side8 A18.out).mono ?_); (case side1 => refine (Kd.N_reads' (e := 44) (base := w.heap.size) (ok := fun k_ => ((some k_ ≠ (.slice (some ad370) t360.length co24 : Value).ownBlock ∧ (some k_ ≠ (.slice Ao39 t364.length co39 : Value).ownBlock ∧ (some k_ ≠ (.slice Ao40 t367.length co40 : Value).ownBlock ∧ (k_ ≠ gb363 ∧ k_ ≠ gb371)))) ∧ k_ ≠ gb373)) (n := t357.length) (c := co23) ?_).2.2; exact (Goto.frN HO359)); (case side2 => exact (Kd.N_reads' HO359.out).2.1); (case side3 => refine (Kd.N_reads' (e := 46) (base := w.heap.size) (ok := fun k_ => ((some k_ ≠ (.slice Ao23 t357.length co23 : Value).ownBlock ∧ (some k_ ≠ (.slice Ao39 t364.length co39 : Value).ownBlock ∧ (some k_ ≠ (.slice Ao40 t367.length co40 : Value).ownBlock ∧ (k_ ≠ gb363 ∧ k_ ≠ gb371)))) ∧ k_ ≠ gb373)) (n := t360.length) (c := co24) ?_).2.2; exact (Goto.frN HO362)); (case side4 => exact (Kd.N_reads' HO362.out).2.1); (case side5 => refine (Kd.N_reads' (e := 44) (base := w.heap.size) (ok := fun k_ => ((some k_ ≠ (.slice Ao23 t357.length co23 : Value).ownBlock ∧ (some k_ ≠ (.slice (some ad370) t360.length co24 : Value).ownBlock ∧ (some k_ ≠ (.slice Ao40 t367.length co40 : Value).ownBlock ∧ (k_ ≠ gb363 ∧ k_ ≠ gb371)))) ∧ k_ ≠ gb373)) (n := t364.length) (c := co39) ?_).2.2; exact (Goto.frN HO366)); (case side6 => exact (Kd.N_reads' HO366.out).2.1); (case side7 => refine (Kd.N_reads' (e := 44) (base := w.heap.size) (ok := fun k_ => ((some k_ ≠ (.slice Ao23 t357.length co23 : Value).ownBlock ∧ (some k_ ≠ (.slice (some ad370) t360.length co24 : Value).ownBlock ∧ (some k_ ≠ (.slice Ao39 t364.length co39 : Value).ownBlock ∧ (k_ ≠ gb363 ∧ k_ ≠ gb371)))) ∧ k_ ≠ gb373)) (n := t367.length) (c := co40) ?_).2.2; exact (Goto.frN HO369)); (case side8 => exact (Kd.N_reads' HO369.out).2.1); rintro e w41 ⟨rfl, hb⟩; refine ⟨_, rfl, ?_⟩; replace HO359 := Goto.m0 (Kd.N_below (Goto.frN HO359) hb); replace HO362 := Goto.m0 (Kd.N_below (Goto.frN HO362) hb); replace HO366 := Goto.m0 (Kd.N_below (Goto.frN HO366) hb); replace HO369 := Goto.m0 (Kd.N_below (Goto.frN HO369) hb); replace BK363 := Goto.bb BK363 hb; replace HR370_2 := Goto.m0 (Kd.C_below ((Kd.V_reads' (Goto.frV HL370_2)).2.2) hb); replace HL370_2 := Goto.m0 (Kd.V_below (Goto.frV HL370_2) hb); replace HR370_3 := Goto.m0 (Kd.C_below ((Kd.V_reads' (Goto.frV HL370_3)).2.2) hb); replace HL370_3 := Goto.m0 (Kd.V_below (Goto.frV HL370_3) hb); replace BK371 := Goto.bb BK371 hb; replace HR372_2 := Goto.m0 (Kd.C_below ((Kd.V_reads' (Goto.frV HL372_2)).2.2) hb); replace HL372_2 := Goto.m0 (Kd.V_below (Goto.frV HL372_2) hb); replace HR372_3 := Goto.m0 (Kd.C_below ((Kd.V_reads' (Goto.frV HL372_3)).2.2) hb); replace HL372_3 := Goto.m0 (Kd.V_below (Goto.frV HL372_3) hb); replace BK373 := Goto.bp (.cells #[.int .i64 ((rd_T46 t360 3).f0.f0), .int .u64 ((rd_T46 t360 3).f0.f1)] 32 (0, 0)) BK373 hb; replace HB := Goto.hs HB hb; (try clear hb); (try clear hb2); (try clear hk); (try clear hi)))
        (try simp only [Act.put, List.setIfInBounds_toArray, List.set_cons_zero, List.set_cons_succ])
        go_cut [82] (fun v82 wc => ∃ (kq : Nat) (x82_18 : Bool), v82 = .bool x82_18 ∧ Aside0 (tontinelaw25_LowLevels.j1 kq t364 t367 x82_18 t355 t356 t357 t360 ((rd_T46 t360 3).f0.f0) ((rd_T46 t360 3).f0.f1) = some r) ∧ Aside0 (kq ≤ kj6) ∧ Aside0 (Kd.N (Kd.slice 3 (Kd.int .i64)) 44 wc w.heap.size (fun k_ => some k_ ≠ ((.slice Ao40 t367.length co40) : Value).ownBlock ∧ some k_ ≠ ((.slice Ao23 t357.length co23) : Value).ownBlock ∧ some k_ ≠ ((.slice (some ad370) t360.length co24) : Value).ownBlock ∧ k_ ≠ gb363 ∧ k_ ≠ gb371 ∧ k_ ≠ gb373) (.slice Ao39 t364.length co39) t364) ∧ Aside0 (Kd.N (Kd.slice 3 (Kd.int .i64)) 44 wc w.heap.size (fun k_ => some k_ ≠ ((.slice Ao39 t364.length co39) : Value).ownBlock ∧ some k_ ≠ ((.slice Ao23 t357.length co23) : Value).ownBlock ∧ some k_ ≠ ((.slice (some ad370) t360.length co24) : Value).ownBlock ∧ k_ ≠ gb363 ∧ k_ ≠ gb371 ∧ k_ ≠ gb373) (.slice Ao40 t367.length co40) t367) ∧ Aside0 (Kd.N (Kd.slice 3 (Kd.int .i64)) 44 wc w.heap.size (fun k_ => some k_ ≠ ((.slice Ao39 t364.length co39) : Value).ownBlock ∧ some k_ ≠ ((.slice Ao40 t367.length co40) : Value).ownBlock ∧ some k_ ≠ ((.slice (some ad370) t360.length co24) : Value).ownBlock ∧ k_ ≠ gb363 ∧ k_ ≠ gb371 ∧ k_ ≠ gb373) (.slice Ao23 t357.length co23) t357) ∧ Aside0 (Kd.N k46 46 wc w.heap.size (fun k_ => some k_ ≠ ((.slice Ao39 t364.length co39) : Value).ownBlock ∧ some k_ ≠ ((.slice Ao40 t367.length co40) : Value).ownBlock ∧ some k_ ≠ ((.slice Ao23 t357.length co23) : Value).ownBlock ∧ k_ ≠ gb363 ∧ k_ ≠ gb371 ∧ k_ ≠ gb373) (.slice (some ad370) t360.length co24) t360) ∧ Aside0 (wc.heap[gb363]? = some (.cells #[.int .i64 t355, .int .i64 t356, (.slice Ao23 t357.length co23), (.slice (some ad370) t360.length co24)] 25 (0, 0))) ∧ Aside0 (wc.heap[gb371]? = some (.cells #[.int .i64 ((rd_T46 t360 (ji14)).f0.f0), .int .u64 ((rd_T46 t360 (ji14)).f0.f1)] 32 (0, 0))) ∧ Aside0 (wc.heap[gb373]? = some (.cells #[.int .i64 ((rd_T46 t360 3).f0.f0), .int .u64 ((rd_T46 t360 3).f0.f1)] 32 (0, 0))) ∧ Aside0 (Kd.C (Kd.slice 3 (Kd.int .i64)) wc A370_2 ((rd_T46 t360 (ji14)).f1).length ((rd_T46 t360 (ji14)).f1)) ∧ Aside0 (Kd.C (Kd.int .i64) wc A370_3 ((rd_T46 t360 (ji14)).f2).length ((rd_T46 t360 (ji14)).f2)) ∧ Aside0 (Kd.C (Kd.slice 3 (Kd.int .i64)) wc A372_2 ((rd_T46 t360 3).f1).length ((rd_T46 t360 3).f1)) ∧ Aside0 (Kd.C (Kd.int .i64) wc A372_3 ((rd_T46 t360 3).f2).length ((rd_T46 t360 3).f2)) ∧ Aside0 (Below w.heap.size w wc))
        case first =>
         have H := HC19.out; clear HC19
         replace H := Option.bind_eq_some_iff.mp H
         obtain ⟨t375, A420, H⟩ := H
         have A42 := Goto.m0 A420
         clear A420
         by_cases c43 : (t374 != t375) = true
         ·
          rw [if_pos c43] at H
          have c43b0 : (t374 != t375) = true := c43
          (try (have c43b1 : decide (t374 = t375) = false := by simpa using c43))
          (try (have c43b2 : (t374 == t375) = false := by simpa using c43))
          (try (have c43b3 : ¬ (t374 = t375) := by simpa using c43))
          clear c43
          (first | rw [c43b0] | (simp only [i64_w, i32_w]; rw [c43b0]) | skip)
          have H' := Goto.m0 H
          clear H; have hnb44 := NB363_371.out; have hnc44 := NB371_363.out; have hnb45 := NB363_373.out; have hnc45 := NB373_363.out; have hcz46_0 := Goto.bc0 BK363; have hcz46_1 := Goto.bc1 BK363; have hcz46_2 := Goto.bc2 BK363
          have hcz46_3 := Goto.bc3 BK363
          have hfz46_0 := Goto.bf BK363 0; have hfz46_1 := Goto.bf BK363 1; have hfz46_2 := Goto.bf BK363 2; have hfz46_3 := Goto.bf BK363 3; have hnb47 := NB371_373.out; have hnc47 := NB373_371.out
          have hcz48_0 := Goto.bc0 BK371
          have hcz48_1 := Goto.bc1 BK371
          have hfz48_0 := Goto.bf BK371 0; have hfz48_1 := Goto.bf BK371 1
          go_wp2_with (first | (apply wp_region_lit; refine tontinelaw25_LowLevels.flatc ?_) | (with_reducible refine tontinelaw25_LowLevels.flatc ?_) | (with_reducible refine tontinelaw25_LowLevels.flatn ?_) | (go_at_call 14; (with_reducible refine (low_Levels.calls kj6 t355 t356 _ _ t357 _ _ t360 _ _ t367 _ _ t364 ((rd_T46 t360 (ji14)).f0.f0) ((rd_T46 t360 (ji14)).f0.f1) t375 _ ?side1 ?side2 ?side3 ?side4 ?side5 ?side6 ?side7 ?side8 A42.out).mono ?_); (case side1 => repeat (first | exact (Kd.N_reads' HO359.out).2.2 | (with_reducible refine Kd.C_alloc ?_ _) | (with_reducible refine Kd.C_drewN ?_ _) | (with_reducible refine Kd.C_drew ?_))); (case side2 => exact (Kd.N_reads' HO359.out).2.1); (case side3 => repeat (first | exact (Kd.N_reads' HO362.out).2.2 | (with_reducible refine Kd.C_alloc ?_ _) | (with_reducible refine Kd.C_drewN ?_ _) | (with_reducible refine Kd.C_drew ?_))); (case side4 => exact (Kd.N_reads' HO362.out).2.1); (case side5 => repeat (first | exact (Kd.N_reads' HO369.out).2.2 | (with_reducible refine Kd.C_alloc ?_ _) | (with_reducible refine Kd.C_drewN ?_ _) | (with_reducible refine Kd.C_drew ?_))); (case side6 => exact (Kd.N_reads' HO369.out).2.1); (case side7 => repeat (first | exact (Kd.N_reads' HO366.out).2.2 | (with_reducible refine Kd.C_alloc ?_ _) | (with_reducible refine Kd.C_drewN ?_ _) | (with_reducible refine Kd.C_drew ?_))); (case side8 => exact (Kd.N_reads' HO366.out).2.1); rintro e w49 ⟨rfl, hb⟩; replace HO359 := Goto.nbN HO359 hb; replace HO362 := Goto.nbN HO362 hb; replace HO366 := Goto.nbN HO366 hb; replace HO369 := Goto.nbN HO369 hb; replace HL370_2 := Goto.nbV HL370_2 hb; replace HL370_3 := Goto.nbV HL370_3 hb; replace HL372_2 := Goto.nbV HL372_2 hb; replace HL372_3 := Goto.nbV HL372_3 hb; replace BK363 := Goto.bb BK363 hb; replace HR370_2 := Goto.cb HR370_2 hb; replace HR370_3 := Goto.cb HR370_3 hb; replace BK371 := Goto.bb BK371 hb; replace HR372_2 := Goto.cb HR372_2 hb; replace HR372_3 := Goto.cb HR372_3 hb; replace BK373 := Goto.bb BK373 hb; replace HB := Goto.hs HB hb; (try clear hb); (try clear hb2); (try clear hk); (try clear hi)))
          go_meet
          case rel => exact ⟨_, (true), (by first | rfl | (simp; done) | (simp [*]; done)), H', ⟨by have := HJ6.out; first | omega | exact Nat.le_refl _⟩, ⟨Goto.fmN HO366⟩, ⟨Goto.fmN HO369⟩, ⟨Goto.fmN HO359⟩, ⟨Goto.fmN HO362⟩, ⟨Goto.bx BK363⟩, ⟨Goto.bx BK371⟩, ⟨Goto.bx BK373⟩, ⟨by repeat (first | (with_reducible exact HR370_2.out) | (with_reducible refine Kd.C_alloc ?_ _) | (with_reducible refine Kd.C_drewN ?_ _) | (with_reducible refine Kd.C_drew ?_) | exact HR370_2.out)⟩, ⟨by repeat (first | (with_reducible exact HR370_3.out) | (with_reducible refine Kd.C_alloc ?_ _) | (with_reducible refine Kd.C_drewN ?_ _) | (with_reducible refine Kd.C_drew ?_) | exact HR370_3.out)⟩, ⟨by repeat (first | (with_reducible exact HR372_2.out) | (with_reducible refine Kd.C_alloc ?_ _) | (with_reducible refine Kd.C_drewN ?_ _) | (with_reducible refine Kd.C_drew ?_) | exact HR372_2.out)⟩, ⟨by repeat (first | (with_reducible exact HR372_3.out) | (with_reducible refine Kd.C_alloc ?_ _) | (with_reducible refine Kd.C_drewN ?_ _) | (with_reducible refine Kd.C_drew ?_) | exact HR372_3.out)⟩, ⟨Goto.hx HB⟩⟩
         ·
          rw [if_neg c43] at H
          have c43b0 : (t374 != t375) = false := by simpa using c43
          (try (have c43b1 : decide (t374 = t375) = true := by simpa using c43))
          (try (have c43b2 : (t374 == t375) = true := by simpa using c43))
          clear c43
          (first | rw [c43b0] | (simp only [i64_w, i32_w]; rw [c43b0]) | skip)
          by_cases c50 : t374 = true
          ·
           subst c50
           rw [if_pos rfl] at H
           replace H := Option.bind_eq_some_iff.mp H
           obtain ⟨t376, A510, H⟩ := H
           have A51 := Goto.m0 A510
           clear A510
           by_cases c52 : t376 = true
           ·
            subst c52
            rw [if_pos rfl] at H
            replace H := Option.bind_eq_some_iff.mp H
            obtain ⟨t377, A530, H⟩ := H
            have A53 := Goto.m0 A530
            clear A530
            by_cases c54 : t377 = true
            ·
             subst c54
             rw [if_pos rfl] at H
             by_cases c55 : (t364.length : Int) = (t367.length : Int)
             ·
              rw [if_pos c55] at H
              have c55b0 : ((t364.length : Int) == (t367.length : Int)) = true := beq_iff_eq.mpr c55
              have c55b1 : ((t364.length : Int) != (t367.length : Int)) = false := bne_eq_false_iff_eq.mpr c55
              have c55b2 : (t364.length == t367.length) = true := by first | simpa using c55 | (simp at c55 ⊢; omega)
              clear c55
              have H' := Goto.m0 H
              clear H; have hnb56 := NB363_371.out; have hnc56 := NB371_363.out; have hnb57 := NB363_373.out; have hnc57 := NB373_363.out; have hcz58_0 := Goto.bc0 BK363; have hcz58_1 := Goto.bc1 BK363; have hcz58_2 := Goto.bc2 BK363
              have hcz58_3 := Goto.bc3 BK363
              have hfz58_0 := Goto.bf BK363 0; have hfz58_1 := Goto.bf BK363 1; have hfz58_2 := Goto.bf BK363 2; have hfz58_3 := Goto.bf BK363 3; have hnb59 := NB371_373.out; have hnc59 := NB373_371.out
              have hcz60_0 := Goto.bc0 BK371
              have hcz60_1 := Goto.bc1 BK371
              have hfz60_0 := Goto.bf BK371 0; have hfz60_1 := Goto.bf BK371 1
              go_wp2_with (first | (apply wp_region_lit; refine tontinelaw25_LowLevels.flatc ?_) | (with_reducible refine tontinelaw25_LowLevels.flatc ?_) | (with_reducible refine tontinelaw25_LowLevels.flatn ?_) | (go_at_call 14; (with_reducible refine (low_Levels.calls kj6 t355 t356 _ _ t357 _ _ t360 _ _ t367 _ _ t364 ((rd_T46 t360 (ji14)).f0.f0) ((rd_T46 t360 (ji14)).f0.f1) t375 _ ?side1 ?side2 ?side3 ?side4 ?side5 ?side6 ?side7 ?side8 A42.out).mono ?_); (case side1 => repeat (first | exact (Kd.N_reads' HO359.out).2.2 | (with_reducible refine Kd.C_alloc ?_ _) | (with_reducible refine Kd.C_drewN ?_ _) | (with_reducible refine Kd.C_drew ?_))); (case side2 => exact (Kd.N_reads' HO359.out).2.1); (case side3 => repeat (first | exact (Kd.N_reads' HO362.out).2.2 | (with_reducible refine Kd.C_alloc ?_ _) | (with_reducible refine Kd.C_drewN ?_ _) | (with_reducible refine Kd.C_drew ?_))); (case side4 => exact (Kd.N_reads' HO362.out).2.1); (case side5 => repeat (first | exact (Kd.N_reads' HO369.out).2.2 | (with_reducible refine Kd.C_alloc ?_ _) | (with_reducible refine Kd.C_drewN ?_ _) | (with_reducible refine Kd.C_drew ?_))); (case side6 => exact (Kd.N_reads' HO369.out).2.1); (case side7 => repeat (first | exact (Kd.N_reads' HO366.out).2.2 | (with_reducible refine Kd.C_alloc ?_ _) | (with_reducible refine Kd.C_drewN ?_ _) | (with_reducible refine Kd.C_drew ?_))); (case side8 => exact (Kd.N_reads' HO366.out).2.1); rintro e w61 ⟨rfl, hb⟩; replace HO359 := Goto.nbN HO359 hb; replace HO362 := Goto.nbN HO362 hb; replace HO366 := Goto.nbN HO366 hb; replace HO369 := Goto.nbN HO369 hb; replace HL370_2 := Goto.nbV HL370_2 hb; replace HL370_3 := Goto.nbV HL370_3 hb; replace HL372_2 := Goto.nbV HL372_2 hb; replace HL372_3 := Goto.nbV HL372_3 hb; replace BK363 := Goto.bb BK363 hb; replace HR370_2 := Goto.cb HR370_2 hb; replace HR370_3 := Goto.cb HR370_3 hb; replace BK371 := Goto.bb BK371 hb; replace HR372_2 := Goto.cb HR372_2 hb; replace HR372_3 := Goto.cb HR372_3 hb; replace BK373 := Goto.bb BK373 hb; replace HB := Goto.hs HB hb; (try clear hb); (try clear hb2); (try clear hk); (try clear hi); have hcz62_0 := Goto.bc0 BK363; have hcz62_1 := Goto.bc1 BK363; have hcz62_2 := Goto.bc2 BK363; have hcz62_3 := Goto.bc3 BK363; have hfz62_0 := Goto.bf BK363 0; have hfz62_1 := Goto.bf BK363 1; have hfz62_2 := Goto.bf BK363 2; have hfz62_3 := Goto.bf BK363 3; have hcz63_0 := Goto.bc0 BK373; have hcz63_1 := Goto.bc1 BK373; have hfz63_0 := Goto.bf BK373 0; have hfz63_1 := Goto.bf BK373 1) | (go_at_call 14; (with_reducible refine (low_Levels.calls kj6 t355 t356 _ _ t357 _ _ t360 _ _ t364 _ _ t367 ((rd_T46 t360 3).f0.f0) ((rd_T46 t360 3).f0.f1) true _ ?side1 ?side2 ?side3 ?side4 ?side5 ?side6 ?side7 ?side8 A51.out).mono ?_); (case side1 => repeat (first | exact (Kd.N_reads' HO359.out).2.2 | (with_reducible refine Kd.C_alloc ?_ _) | (with_reducible refine Kd.C_drewN ?_ _) | (with_reducible refine Kd.C_drew ?_))); (case side2 => exact (Kd.N_reads' HO359.out).2.1); (case side3 => repeat (first | exact (Kd.N_reads' HO362.out).2.2 | (with_reducible refine Kd.C_alloc ?_ _) | (with_reducible refine Kd.C_drewN ?_ _) | (with_reducible refine Kd.C_drew ?_))); (case side4 => exact (Kd.N_reads' HO362.out).2.1); (case side5 => repeat (first | exact (Kd.N_reads' HO366.out).2.2 | (with_reducible refine Kd.C_alloc ?_ _) | (with_reducible refine Kd.C_drewN ?_ _) | (with_reducible refine Kd.C_drew ?_))); (case side6 => exact (Kd.N_reads' HO366.out).2.1); (case side7 => repeat (first | exact (Kd.N_reads' HO369.out).2.2 | (with_reducible refine Kd.C_alloc ?_ _) | (with_reducible refine Kd.C_drewN ?_ _) | (with_reducible refine Kd.C_drew ?_))); (case side8 => exact (Kd.N_reads' HO369.out).2.1); rintro e w64 ⟨rfl, hb⟩; replace HO359 := Goto.nbN HO359 hb; replace HO362 := Goto.nbN HO362 hb; replace HO366 := Goto.nbN HO366 hb; replace HO369 := Goto.nbN HO369 hb; replace HL370_2 := Goto.nbV HL370_2 hb; replace HL370_3 := Goto.nbV HL370_3 hb; replace HL372_2 := Goto.nbV HL372_2 hb; replace HL372_3 := Goto.nbV HL372_3 hb; replace BK363 := Goto.bb BK363 hb; replace HR370_2 := Goto.cb HR370_2 hb; replace HR370_3 := Goto.cb HR370_3 hb; replace BK371 := Goto.bb BK371 hb; replace HR372_2 := Goto.cb HR372_2 hb; replace HR372_3 := Goto.cb HR372_3 hb; replace BK373 := Goto.bb BK373 hb; replace HB := Goto.hs HB hb; (try clear hb); (try clear hb2); (try clear hk); (try clear hi); have hcz65_0 := Goto.bc0 BK363; have hcz65_1 := Goto.bc1 BK363; have hcz65_2 := Goto.bc2 BK363; have hcz65_3 := Goto.bc3 BK363; have hfz65_0 := Goto.bf BK363 0; have hfz65_1 := Goto.bf BK363 1; have hfz65_2 := Goto.bf BK363 2; have hfz65_3 := Goto.bf BK363 3; have hcz66_0 := Goto.bc0 BK371; have hcz66_1 := Goto.bc1 BK371; have hfz66_0 := Goto.bf BK371 0; have hfz66_1 := Goto.bf BK371 1) | (go_at_call 14; (with_reducible refine (low_Levels.calls kj6 t355 t356 _ _ t357 _ _ t360 _ _ t364 _ _ t364 ((rd_T46 t360 (ji14)).f0.f0) ((rd_T46 t360 (ji14)).f0.f1) true _ ?side1 ?side2 ?side3 ?side4 ?side5 ?side6 ?side7 ?side8 A53.out).mono ?_); (case side1 => repeat (first | exact (Kd.N_reads' HO359.out).2.2 | (with_reducible refine Kd.C_alloc ?_ _) | (with_reducible refine Kd.C_drewN ?_ _) | (with_reducible refine Kd.C_drew ?_))); (case side2 => exact (Kd.N_reads' HO359.out).2.1); (case side3 => repeat (first | exact (Kd.N_reads' HO362.out).2.2 | (with_reducible refine Kd.C_alloc ?_ _) | (with_reducible refine Kd.C_drewN ?_ _) | (with_reducible refine Kd.C_drew ?_))); (case side4 => exact (Kd.N_reads' HO362.out).2.1); (case side5 => repeat (first | exact (Kd.N_reads' HO366.out).2.2 | (with_reducible refine Kd.C_alloc ?_ _) | (with_reducible refine Kd.C_drewN ?_ _) | (with_reducible refine Kd.C_drew ?_))); (case side6 => exact (Kd.N_reads' HO366.out).2.1); (case side7 => repeat (first | exact (Kd.N_reads' HO366.out).2.2 | (with_reducible refine Kd.C_alloc ?_ _) | (with_reducible refine Kd.C_drewN ?_ _) | (with_reducible refine Kd.C_drew ?_))); (case side8 => exact (Kd.N_reads' HO366.out).2.1); rintro e w67 ⟨rfl, hb⟩; replace HO359 := Goto.nbN HO359 hb; replace HO362 := Goto.nbN HO362 hb; replace HO366 := Goto.nbN HO366 hb; replace HO369 := Goto.nbN HO369 hb; replace HL370_2 := Goto.nbV HL370_2 hb; replace HL370_3 := Goto.nbV HL370_3 hb; replace HL372_2 := Goto.nbV HL372_2 hb; replace HL372_3 := Goto.nbV HL372_3 hb; replace BK363 := Goto.bb BK363 hb; replace HR370_2 := Goto.cb HR370_2 hb; replace HR370_3 := Goto.cb HR370_3 hb; replace BK371 := Goto.bb BK371 hb; replace HR372_2 := Goto.cb HR372_2 hb; replace HR372_3 := Goto.cb HR372_3 hb; replace BK373 := Goto.bb BK373 hb; replace HB := Goto.hs HB hb; (try clear hb); (try clear hb2); (try clear hk); (try clear hi)))
              go_meet
              case rel => exact ⟨_, (false), (by first | rfl | (simp; done) | (simp [*]; done)), H', ⟨by have := HJ6.out; first | omega | exact Nat.le_refl _⟩, ⟨Goto.fmN HO366⟩, ⟨Goto.fmN HO369⟩, ⟨Goto.fmN HO359⟩, ⟨Goto.fmN HO362⟩, ⟨Goto.bx BK363⟩, ⟨Goto.bx BK371⟩, ⟨Goto.bx BK373⟩, ⟨by repeat (first | (with_reducible exact HR370_2.out) | (with_reducible refine Kd.C_alloc ?_ _) | (with_reducible refine Kd.C_drewN ?_ _) | (with_reducible refine Kd.C_drew ?_) | exact HR370_2.out)⟩, ⟨by repeat (first | (with_reducible exact HR370_3.out) | (with_reducible refine Kd.C_alloc ?_ _) | (with_reducible refine Kd.C_drewN ?_ _) | (with_reducible refine Kd.C_drew ?_) | exact HR370_3.out)⟩, ⟨by repeat (first | (with_reducible exact HR372_2.out) | (with_reducible refine Kd.C_alloc ?_ _) | (with_reducible refine Kd.C_drewN ?_ _) | (with_reducible refine Kd.C_drew ?_) | exact HR372_2.out)⟩, ⟨by repeat (first | (with_reducible exact HR372_3.out) | (with_reducible refine Kd.C_alloc ?_ _) | (with_reducible refine Kd.C_drewN ?_ _) | (with_reducible refine Kd.C_drew ?_) | exact HR372_3.out)⟩, ⟨Goto.hx HB⟩⟩
             ·
              rw [if_neg c55] at H
              have c55b0 : ((t364.length : Int) == (t367.length : Int)) = false := beq_eq_false_iff_ne.mpr c55
              have c55b1 : ((t364.length : Int) != (t367.length : Int)) = true := bne_iff_ne.mpr c55
              have c55b2 : (t364.length == t367.length) = false := by first | simpa using c55 | (simp at c55 ⊢; omega)
              have H' := Goto.m0 H
              clear H; have hnb68 := NB363_371.out; have hnc68 := NB371_363.out; have hnb69 := NB363_373.out; have hnc69 := NB373_363.out; have hcz70_0 := Goto.bc0 BK363; have hcz70_1 := Goto.bc1 BK363; have hcz70_2 := Goto.bc2 BK363
              have hcz70_3 := Goto.bc3 BK363
              have hfz70_0 := Goto.bf BK363 0; have hfz70_1 := Goto.bf BK363 1; have hfz70_2 := Goto.bf BK363 2; have hfz70_3 := Goto.bf BK363 3; have hnb71 := NB371_373.out; have hnc71 := NB373_371.out
              have hcz72_0 := Goto.bc0 BK371
              have hcz72_1 := Goto.bc1 BK371
              have hfz72_0 := Goto.bf BK371 0; have hfz72_1 := Goto.bf BK371 1
              go_wp2_with (first | (apply wp_region_lit; refine tontinelaw25_LowLevels.flatc ?_) | (with_reducible refine tontinelaw25_LowLevels.flatc ?_) | (with_reducible refine tontinelaw25_LowLevels.flatn ?_) | (go_at_call 14; (with_reducible refine (low_Levels.calls kj6 t355 t356 _ _ t357 _ _ t360 _ _ t367 _ _ t364 ((rd_T46 t360 (ji14)).f0.f0) ((rd_T46 t360 (ji14)).f0.f1) t375 _ ?side1 ?side2 ?side3 ?side4 ?side5 ?side6 ?side7 ?side8 A42.out).mono ?_); (case side1 => repeat (first | exact (Kd.N_reads' HO359.out).2.2 | (with_reducible refine Kd.C_alloc ?_ _) | (with_reducible refine Kd.C_drewN ?_ _) | (with_reducible refine Kd.C_drew ?_))); (case side2 => exact (Kd.N_reads' HO359.out).2.1); (case side3 => repeat (first | exact (Kd.N_reads' HO362.out).2.2 | (with_reducible refine Kd.C_alloc ?_ _) | (with_reducible refine Kd.C_drewN ?_ _) | (with_reducible refine Kd.C_drew ?_))); (case side4 => exact (Kd.N_reads' HO362.out).2.1); (case side5 => repeat (first | exact (Kd.N_reads' HO369.out).2.2 | (with_reducible refine Kd.C_alloc ?_ _) | (with_reducible refine Kd.C_drewN ?_ _) | (with_reducible refine Kd.C_drew ?_))); (case side6 => exact (Kd.N_reads' HO369.out).2.1); (case side7 => repeat (first | exact (Kd.N_reads' HO366.out).2.2 | (with_reducible refine Kd.C_alloc ?_ _) | (with_reducible refine Kd.C_drewN ?_ _) | (with_reducible refine Kd.C_drew ?_))); (case side8 => exact (Kd.N_reads' HO366.out).2.1); rintro e w73 ⟨rfl, hb⟩; replace HO359 := Goto.nbN HO359 hb; replace HO362 := Goto.nbN HO362 hb; replace HO366 := Goto.nbN HO366 hb; replace HO369 := Goto.nbN HO369 hb; replace HL370_2 := Goto.nbV HL370_2 hb; replace HL370_3 := Goto.nbV HL370_3 hb; replace HL372_2 := Goto.nbV HL372_2 hb; replace HL372_3 := Goto.nbV HL372_3 hb; replace BK363 := Goto.bb BK363 hb; replace HR370_2 := Goto.cb HR370_2 hb; replace HR370_3 := Goto.cb HR370_3 hb; replace BK371 := Goto.bb BK371 hb; replace HR372_2 := Goto.cb HR372_2 hb; replace HR372_3 := Goto.cb HR372_3 hb; replace BK373 := Goto.bb BK373 hb; replace HB := Goto.hs HB hb; (try clear hb); (try clear hb2); (try clear hk); (try clear hi); have hcz74_0 := Goto.bc0 BK363; have hcz74_1 := Goto.bc1 BK363; have hcz74_2 := Goto.bc2 BK363; have hcz74_3 := Goto.bc3 BK363; have hfz74_0 := Goto.bf BK363 0; have hfz74_1 := Goto.bf BK363 1; have hfz74_2 := Goto.bf BK363 2; have hfz74_3 := Goto.bf BK363 3; have hcz75_0 := Goto.bc0 BK373; have hcz75_1 := Goto.bc1 BK373; have hfz75_0 := Goto.bf BK373 0; have hfz75_1 := Goto.bf BK373 1) | (go_at_call 14; (with_reducible refine (low_Levels.calls kj6 t355 t356 _ _ t357 _ _ t360 _ _ t364 _ _ t367 ((rd_T46 t360 3).f0.f0) ((rd_T46 t360 3).f0.f1) true _ ?side1 ?side2 ?side3 ?side4 ?side5 ?side6 ?side7 ?side8 A51.out).mono ?_); (case side1 => repeat (first | exact (Kd.N_reads' HO359.out).2.2 | (with_reducible refine Kd.C_alloc ?_ _) | (with_reducible refine Kd.C_drewN ?_ _) | (with_reducible refine Kd.C_drew ?_))); (case side2 => exact (Kd.N_reads' HO359.out).2.1); (case side3 => repeat (first | exact (Kd.N_reads' HO362.out).2.2 | (with_reducible refine Kd.C_alloc ?_ _) | (with_reducible refine Kd.C_drewN ?_ _) | (with_reducible refine Kd.C_drew ?_))); (case side4 => exact (Kd.N_reads' HO362.out).2.1); (case side5 => repeat (first | exact (Kd.N_reads' HO366.out).2.2 | (with_reducible refine Kd.C_alloc ?_ _) | (with_reducible refine Kd.C_drewN ?_ _) | (with_reducible refine Kd.C_drew ?_))); (case side6 => exact (Kd.N_reads' HO366.out).2.1); (case side7 => repeat (first | exact (Kd.N_reads' HO369.out).2.2 | (with_reducible refine Kd.C_alloc ?_ _) | (with_reducible refine Kd.C_drewN ?_ _) | (with_reducible refine Kd.C_drew ?_))); (case side8 => exact (Kd.N_reads' HO369.out).2.1); rintro e w76 ⟨rfl, hb⟩; replace HO359 := Goto.nbN HO359 hb; replace HO362 := Goto.nbN HO362 hb; replace HO366 := Goto.nbN HO366 hb; replace HO369 := Goto.nbN HO369 hb; replace HL370_2 := Goto.nbV HL370_2 hb; replace HL370_3 := Goto.nbV HL370_3 hb; replace HL372_2 := Goto.nbV HL372_2 hb; replace HL372_3 := Goto.nbV HL372_3 hb; replace BK363 := Goto.bb BK363 hb; replace HR370_2 := Goto.cb HR370_2 hb; replace HR370_3 := Goto.cb HR370_3 hb; replace BK371 := Goto.bb BK371 hb; replace HR372_2 := Goto.cb HR372_2 hb; replace HR372_3 := Goto.cb HR372_3 hb; replace BK373 := Goto.bb BK373 hb; replace HB := Goto.hs HB hb; (try clear hb); (try clear hb2); (try clear hk); (try clear hi); have hcz77_0 := Goto.bc0 BK363; have hcz77_1 := Goto.bc1 BK363; have hcz77_2 := Goto.bc2 BK363; have hcz77_3 := Goto.bc3 BK363; have hfz77_0 := Goto.bf BK363 0; have hfz77_1 := Goto.bf BK363 1; have hfz77_2 := Goto.bf BK363 2; have hfz77_3 := Goto.bf BK363 3; have hcz78_0 := Goto.bc0 BK371; have hcz78_1 := Goto.bc1 BK371; have hfz78_0 := Goto.bf BK371 0; have hfz78_1 := Goto.bf BK371 1) | (go_at_call 14; (with_reducible refine (low_Levels.calls kj6 t355 t356 _ _ t357 _ _ t360 _ _ t364 _ _ t364 ((rd_T46 t360 (ji14)).f0.f0) ((rd_T46 t360 (ji14)).f0.f1) true _ ?side1 ?side2 ?side3 ?side4 ?side5 ?side6 ?side7 ?side8 A53.out).mono ?_); (case side1 => repeat (first | exact (Kd.N_reads' HO359.out).2.2 | (with_reducible refine Kd.C_alloc ?_ _) | (with_reducible refine Kd.C_drewN ?_ _) | (with_reducible refine Kd.C_drew ?_))); (case side2 => exact (Kd.N_reads' HO359.out).2.1); (case side3 => repeat (first | exact (Kd.N_reads' HO362.out).2.2 | (with_reducible refine Kd.C_alloc ?_ _) | (with_reducible refine Kd.C_drewN ?_ _) | (with_reducible refine Kd.C_drew ?_))); (case side4 => exact (Kd.N_reads' HO362.out).2.1); (case side5 => repeat (first | exact (Kd.N_reads' HO366.out).2.2 | (with_reducible refine Kd.C_alloc ?_ _) | (with_reducible refine Kd.C_drewN ?_ _) | (with_reducible refine Kd.C_drew ?_))); (case side6 => exact (Kd.N_reads' HO366.out).2.1); (case side7 => repeat (first | exact (Kd.N_reads' HO366.out).2.2 | (with_reducible refine Kd.C_alloc ?_ _) | (with_reducible refine Kd.C_drewN ?_ _) | (with_reducible refine Kd.C_drew ?_))); (case side8 => exact (Kd.N_reads' HO366.out).2.1); rintro e w79 ⟨rfl, hb⟩; replace HO359 := Goto.nbN HO359 hb; replace HO362 := Goto.nbN HO362 hb; replace HO366 := Goto.nbN HO366 hb; replace HO369 := Goto.nbN HO369 hb; replace HL370_2 := Goto.nbV HL370_2 hb; replace HL370_3 := Goto.nbV HL370_3 hb; replace HL372_2 := Goto.nbV HL372_2 hb; replace HL372_3 := Goto.nbV HL372_3 hb; replace BK363 := Goto.bb BK363 hb; replace HR370_2 := Goto.cb HR370_2 hb; replace HR370_3 := Goto.cb HR370_3 hb; replace BK371 := Goto.bb BK371 hb; replace HR372_2 := Goto.cb HR372_2 hb; replace HR372_3 := Goto.cb HR372_3 hb; replace BK373 := Goto.bb BK373 hb; replace HB := Goto.hs HB hb; (try clear hb); (try clear hb2); (try clear hk); (try clear hi)))
              go_meet
              case rel => exact ⟨_, (true), (by first | rfl | (simp; done) | (simp [*]; done)), H', ⟨by have := HJ6.out; first | omega | exact Nat.le_refl _⟩, ⟨Goto.fmN HO366⟩, ⟨Goto.fmN HO369⟩, ⟨Goto.fmN HO359⟩, ⟨Goto.fmN HO362⟩, ⟨Goto.bx BK363⟩, ⟨Goto.bx BK371⟩, ⟨Goto.bx BK373⟩, ⟨by repeat (first | (with_reducible exact HR370_2.out) | (with_reducible refine Kd.C_alloc ?_ _) | (with_reducible refine Kd.C_drewN ?_ _) | (with_reducible refine Kd.C_drew ?_) | exact HR370_2.out)⟩, ⟨by repeat (first | (with_reducible exact HR370_3.out) | (with_reducible refine Kd.C_alloc ?_ _) | (with_reducible refine Kd.C_drewN ?_ _) | (with_reducible refine Kd.C_drew ?_) | exact HR370_3.out)⟩, ⟨by repeat (first | (with_reducible exact HR372_2.out) | (with_reducible refine Kd.C_alloc ?_ _) | (with_reducible refine Kd.C_drewN ?_ _) | (with_reducible refine Kd.C_drew ?_) | exact HR372_2.out)⟩, ⟨by repeat (first | (with_reducible exact HR372_3.out) | (with_reducible refine Kd.C_alloc ?_ _) | (with_reducible refine Kd.C_drewN ?_ _) | (with_reducible refine Kd.C_drew ?_) | exact HR372_3.out)⟩, ⟨Goto.hx HB⟩⟩
            ·
             replace c54 := Bool.eq_false_iff.mpr c54
             subst c54
             rw [if_neg (show ¬ (false = true) by decide)] at H
             have H' := Goto.m0 H
             clear H; have hnb80 := NB363_371.out; have hnc80 := NB371_363.out; have hnb81 := NB363_373.out; have hnc81 := NB373_363.out; have hcz82_0 := Goto.bc0 BK363; have hcz82_1 := Goto.bc1 BK363; have hcz82_2 := Goto.bc2 BK363
             have hcz82_3 := Goto.bc3 BK363
             have hfz82_0 := Goto.bf BK363 0; have hfz82_1 := Goto.bf BK363 1; have hfz82_2 := Goto.bf BK363 2; have hfz82_3 := Goto.bf BK363 3; have hnb83 := NB371_373.out; have hnc83 := NB373_371.out
             have hcz84_0 := Goto.bc0 BK371
             have hcz84_1 := Goto.bc1 BK371
             have hfz84_0 := Goto.bf BK371 0; have hfz84_1 := Goto.bf BK371 1
             go_wp2_with (first | (apply wp_region_lit; refine tontinelaw25_LowLevels.flatc ?_) | (with_reducible refine tontinelaw25_LowLevels.flatc ?_) | (with_reducible refine tontinelaw25_LowLevels.flatn ?_) | (go_at_call 14; (with_reducible refine (low_Levels.calls kj6 t355 t356 _ _ t357 _ _ t360 _ _ t367 _ _ t364 ((rd_T46 t360 (ji14)).f0.f0) ((rd_T46 t360 (ji14)).f0.f1) t375 _ ?side1 ?side2 ?side3 ?side4 ?side5 ?side6 ?side7 ?side8 A42.out).mono ?_); (case side1 => repeat (first | exact (Kd.N_reads' HO359.out).2.2 | (with_reducible refine Kd.C_alloc ?_ _) | (with_reducible refine Kd.C_drewN ?_ _) | (with_reducible refine Kd.C_drew ?_))); (case side2 => exact (Kd.N_reads' HO359.out).2.1); (case side3 => repeat (first | exact (Kd.N_reads' HO362.out).2.2 | (with_reducible refine Kd.C_alloc ?_ _) | (with_reducible refine Kd.C_drewN ?_ _) | (with_reducible refine Kd.C_drew ?_))); (case side4 => exact (Kd.N_reads' HO362.out).2.1); (case side5 => repeat (first | exact (Kd.N_reads' HO369.out).2.2 | (with_reducible refine Kd.C_alloc ?_ _) | (with_reducible refine Kd.C_drewN ?_ _) | (with_reducible refine Kd.C_drew ?_))); (case side6 => exact (Kd.N_reads' HO369.out).2.1); (case side7 => repeat (first | exact (Kd.N_reads' HO366.out).2.2 | (with_reducible refine Kd.C_alloc ?_ _) | (with_reducible refine Kd.C_drewN ?_ _) | (with_reducible refine Kd.C_drew ?_))); (case side8 => exact (Kd.N_reads' HO366.out).2.1); rintro e w85 ⟨rfl, hb⟩; replace HO359 := Goto.nbN HO359 hb; replace HO362 := Goto.nbN HO362 hb; replace HO366 := Goto.nbN HO366 hb; replace HO369 := Goto.nbN HO369 hb; replace HL370_2 := Goto.nbV HL370_2 hb; replace HL370_3 := Goto.nbV HL370_3 hb; replace HL372_2 := Goto.nbV HL372_2 hb; replace HL372_3 := Goto.nbV HL372_3 hb; replace BK363 := Goto.bb BK363 hb; replace HR370_2 := Goto.cb HR370_2 hb; replace HR370_3 := Goto.cb HR370_3 hb; replace BK371 := Goto.bb BK371 hb; replace HR372_2 := Goto.cb HR372_2 hb; replace HR372_3 := Goto.cb HR372_3 hb; replace BK373 := Goto.bb BK373 hb; replace HB := Goto.hs HB hb; (try clear hb); (try clear hb2); (try clear hk); (try clear hi); have hcz86_0 := Goto.bc0 BK363; have hcz86_1 := Goto.bc1 BK363; have hcz86_2 := Goto.bc2 BK363; have hcz86_3 := Goto.bc3 BK363; have hfz86_0 := Goto.bf BK363 0; have hfz86_1 := Goto.bf BK363 1; have hfz86_2 := Goto.bf BK363 2; have hfz86_3 := Goto.bf BK363 3; have hcz87_0 := Goto.bc0 BK373; have hcz87_1 := Goto.bc1 BK373; have hfz87_0 := Goto.bf BK373 0; have hfz87_1 := Goto.bf BK373 1) | (go_at_call 14; (with_reducible refine (low_Levels.calls kj6 t355 t356 _ _ t357 _ _ t360 _ _ t364 _ _ t367 ((rd_T46 t360 3).f0.f0) ((rd_T46 t360 3).f0.f1) true _ ?side1 ?side2 ?side3 ?side4 ?side5 ?side6 ?side7 ?side8 A51.out).mono ?_); (case side1 => repeat (first | exact (Kd.N_reads' HO359.out).2.2 | (with_reducible refine Kd.C_alloc ?_ _) | (with_reducible refine Kd.C_drewN ?_ _) | (with_reducible refine Kd.C_drew ?_))); (case side2 => exact (Kd.N_reads' HO359.out).2.1); (case side3 => repeat (first | exact (Kd.N_reads' HO362.out).2.2 | (with_reducible refine Kd.C_alloc ?_ _) | (with_reducible refine Kd.C_drewN ?_ _) | (with_reducible refine Kd.C_drew ?_))); (case side4 => exact (Kd.N_reads' HO362.out).2.1); (case side5 => repeat (first | exact (Kd.N_reads' HO366.out).2.2 | (with_reducible refine Kd.C_alloc ?_ _) | (with_reducible refine Kd.C_drewN ?_ _) | (with_reducible refine Kd.C_drew ?_))); (case side6 => exact (Kd.N_reads' HO366.out).2.1); (case side7 => repeat (first | exact (Kd.N_reads' HO369.out).2.2 | (with_reducible refine Kd.C_alloc ?_ _) | (with_reducible refine Kd.C_drewN ?_ _) | (with_reducible refine Kd.C_drew ?_))); (case side8 => exact (Kd.N_reads' HO369.out).2.1); rintro e w88 ⟨rfl, hb⟩; replace HO359 := Goto.nbN HO359 hb; replace HO362 := Goto.nbN HO362 hb; replace HO366 := Goto.nbN HO366 hb; replace HO369 := Goto.nbN HO369 hb; replace HL370_2 := Goto.nbV HL370_2 hb; replace HL370_3 := Goto.nbV HL370_3 hb; replace HL372_2 := Goto.nbV HL372_2 hb; replace HL372_3 := Goto.nbV HL372_3 hb; replace BK363 := Goto.bb BK363 hb; replace HR370_2 := Goto.cb HR370_2 hb; replace HR370_3 := Goto.cb HR370_3 hb; replace BK371 := Goto.bb BK371 hb; replace HR372_2 := Goto.cb HR372_2 hb; replace HR372_3 := Goto.cb HR372_3 hb; replace BK373 := Goto.bb BK373 hb; replace HB := Goto.hs HB hb; (try clear hb); (try clear hb2); (try clear hk); (try clear hi); have hcz89_0 := Goto.bc0 BK363; have hcz89_1 := Goto.bc1 BK363; have hcz89_2 := Goto.bc2 BK363; have hcz89_3 := Goto.bc3 BK363; have hfz89_0 := Goto.bf BK363 0; have hfz89_1 := Goto.bf BK363 1; have hfz89_2 := Goto.bf BK363 2; have hfz89_3 := Goto.bf BK363 3; have hcz90_0 := Goto.bc0 BK371; have hcz90_1 := Goto.bc1 BK371; have hfz90_0 := Goto.bf BK371 0; have hfz90_1 := Goto.bf BK371 1) | (go_at_call 14; (with_reducible refine (low_Levels.calls kj6 t355 t356 _ _ t357 _ _ t360 _ _ t364 _ _ t364 ((rd_T46 t360 (ji14)).f0.f0) ((rd_T46 t360 (ji14)).f0.f1) false _ ?side1 ?side2 ?side3 ?side4 ?side5 ?side6 ?side7 ?side8 A53.out).mono ?_); (case side1 => repeat (first | exact (Kd.N_reads' HO359.out).2.2 | (with_reducible refine Kd.C_alloc ?_ _) | (with_reducible refine Kd.C_drewN ?_ _) | (with_reducible refine Kd.C_drew ?_))); (case side2 => exact (Kd.N_reads' HO359.out).2.1); (case side3 => repeat (first | exact (Kd.N_reads' HO362.out).2.2 | (with_reducible refine Kd.C_alloc ?_ _) | (with_reducible refine Kd.C_drewN ?_ _) | (with_reducible refine Kd.C_drew ?_))); (case side4 => exact (Kd.N_reads' HO362.out).2.1); (case side5 => repeat (first | exact (Kd.N_reads' HO366.out).2.2 | (with_reducible refine Kd.C_alloc ?_ _) | (with_reducible refine Kd.C_drewN ?_ _) | (with_reducible refine Kd.C_drew ?_))); (case side6 => exact (Kd.N_reads' HO366.out).2.1); (case side7 => repeat (first | exact (Kd.N_reads' HO366.out).2.2 | (with_reducible refine Kd.C_alloc ?_ _) | (with_reducible refine Kd.C_drewN ?_ _) | (with_reducible refine Kd.C_drew ?_))); (case side8 => exact (Kd.N_reads' HO366.out).2.1); rintro e w91 ⟨rfl, hb⟩; replace HO359 := Goto.nbN HO359 hb; replace HO362 := Goto.nbN HO362 hb; replace HO366 := Goto.nbN HO366 hb; replace HO369 := Goto.nbN HO369 hb; replace HL370_2 := Goto.nbV HL370_2 hb; replace HL370_3 := Goto.nbV HL370_3 hb; replace HL372_2 := Goto.nbV HL372_2 hb; replace HL372_3 := Goto.nbV HL372_3 hb; replace BK363 := Goto.bb BK363 hb; replace HR370_2 := Goto.cb HR370_2 hb; replace HR370_3 := Goto.cb HR370_3 hb; replace BK371 := Goto.bb BK371 hb; replace HR372_2 := Goto.cb HR372_2 hb; replace HR372_3 := Goto.cb HR372_3 hb; replace BK373 := Goto.bb BK373 hb; replace HB := Goto.hs HB hb; (try clear hb); (try clear hb2); (try clear hk); (try clear hi)))
             go_meet
             case rel => exact ⟨_, (true), (by first | rfl | (simp; done) | (simp [*]; done)), H', ⟨by have := HJ6.out; first | omega | exact Nat.le_refl _⟩, ⟨Goto.fmN HO366⟩, ⟨Goto.fmN HO369⟩, ⟨Goto.fmN HO359⟩, ⟨Goto.fmN HO362⟩, ⟨Goto.bx BK363⟩, ⟨Goto.bx BK371⟩, ⟨Goto.bx BK373⟩, ⟨by repeat (first | (with_reducible exact HR370_2.out) | (with_reducible refine Kd.C_alloc ?_ _) | (with_reducible refine Kd.C_drewN ?_ _) | (with_reducible refine Kd.C_drew ?_) | exact HR370_2.out)⟩, ⟨by repeat (first | (with_reducible exact HR370_3.out) | (with_reducible refine Kd.C_alloc ?_ _) | (with_reducible refine Kd.C_drewN ?_ _) | (with_reducible refine Kd.C_drew ?_) | exact HR370_3.out)⟩, ⟨by repeat (first | (with_reducible exact HR372_2.out) | (with_reducible refine Kd.C_alloc ?_ _) | (with_reducible refine Kd.C_drewN ?_ _) | (with_reducible refine Kd.C_drew ?_) | exact HR372_2.out)⟩, ⟨by repeat (first | (with_reducible exact HR372_3.out) | (with_reducible refine Kd.C_alloc ?_ _) | (with_reducible refine Kd.C_drewN ?_ _) | (with_reducible refine Kd.C_drew ?_) | exact HR372_3.out)⟩, ⟨Goto.hx HB⟩⟩
           ·
            replace c52 := Bool.eq_false_iff.mpr c52
            subst c52
            rw [if_neg (show ¬ (false = true) by decide)] at H
            have H' := Goto.m0 H
            clear H; have hnb92 := NB363_371.out; have hnc92 := NB371_363.out; have hnb93 := NB363_373.out; have hnc93 := NB373_363.out; have hcz94_0 := Goto.bc0 BK363; have hcz94_1 := Goto.bc1 BK363; have hcz94_2 := Goto.bc2 BK363
            have hcz94_3 := Goto.bc3 BK363
            have hfz94_0 := Goto.bf BK363 0; have hfz94_1 := Goto.bf BK363 1; have hfz94_2 := Goto.bf BK363 2; have hfz94_3 := Goto.bf BK363 3; have hnb95 := NB371_373.out; have hnc95 := NB373_371.out
            have hcz96_0 := Goto.bc0 BK371
            have hcz96_1 := Goto.bc1 BK371
            have hfz96_0 := Goto.bf BK371 0; have hfz96_1 := Goto.bf BK371 1
            go_wp2_with (first | (apply wp_region_lit; refine tontinelaw25_LowLevels.flatc ?_) | (with_reducible refine tontinelaw25_LowLevels.flatc ?_) | (with_reducible refine tontinelaw25_LowLevels.flatn ?_) | (go_at_call 14; (with_reducible refine (low_Levels.calls kj6 t355 t356 _ _ t357 _ _ t360 _ _ t367 _ _ t364 ((rd_T46 t360 (ji14)).f0.f0) ((rd_T46 t360 (ji14)).f0.f1) t375 _ ?side1 ?side2 ?side3 ?side4 ?side5 ?side6 ?side7 ?side8 A42.out).mono ?_); (case side1 => repeat (first | exact (Kd.N_reads' HO359.out).2.2 | (with_reducible refine Kd.C_alloc ?_ _) | (with_reducible refine Kd.C_drewN ?_ _) | (with_reducible refine Kd.C_drew ?_))); (case side2 => exact (Kd.N_reads' HO359.out).2.1); (case side3 => repeat (first | exact (Kd.N_reads' HO362.out).2.2 | (with_reducible refine Kd.C_alloc ?_ _) | (with_reducible refine Kd.C_drewN ?_ _) | (with_reducible refine Kd.C_drew ?_))); (case side4 => exact (Kd.N_reads' HO362.out).2.1); (case side5 => repeat (first | exact (Kd.N_reads' HO369.out).2.2 | (with_reducible refine Kd.C_alloc ?_ _) | (with_reducible refine Kd.C_drewN ?_ _) | (with_reducible refine Kd.C_drew ?_))); (case side6 => exact (Kd.N_reads' HO369.out).2.1); (case side7 => repeat (first | exact (Kd.N_reads' HO366.out).2.2 | (with_reducible refine Kd.C_alloc ?_ _) | (with_reducible refine Kd.C_drewN ?_ _) | (with_reducible refine Kd.C_drew ?_))); (case side8 => exact (Kd.N_reads' HO366.out).2.1); rintro e w97 ⟨rfl, hb⟩; replace HO359 := Goto.nbN HO359 hb; replace HO362 := Goto.nbN HO362 hb; replace HO366 := Goto.nbN HO366 hb; replace HO369 := Goto.nbN HO369 hb; replace HL370_2 := Goto.nbV HL370_2 hb; replace HL370_3 := Goto.nbV HL370_3 hb; replace HL372_2 := Goto.nbV HL372_2 hb; replace HL372_3 := Goto.nbV HL372_3 hb; replace BK363 := Goto.bb BK363 hb; replace HR370_2 := Goto.cb HR370_2 hb; replace HR370_3 := Goto.cb HR370_3 hb; replace BK371 := Goto.bb BK371 hb; replace HR372_2 := Goto.cb HR372_2 hb; replace HR372_3 := Goto.cb HR372_3 hb; replace BK373 := Goto.bb BK373 hb; replace HB := Goto.hs HB hb; (try clear hb); (try clear hb2); (try clear hk); (try clear hi); have hcz98_0 := Goto.bc0 BK363; have hcz98_1 := Goto.bc1 BK363; have hcz98_2 := Goto.bc2 BK363; have hcz98_3 := Goto.bc3 BK363; have hfz98_0 := Goto.bf BK363 0; have hfz98_1 := Goto.bf BK363 1; have hfz98_2 := Goto.bf BK363 2; have hfz98_3 := Goto.bf BK363 3; have hcz99_0 := Goto.bc0 BK373; have hcz99_1 := Goto.bc1 BK373; have hfz99_0 := Goto.bf BK373 0; have hfz99_1 := Goto.bf BK373 1) | (go_at_call 14; (with_reducible refine (low_Levels.calls kj6 t355 t356 _ _ t357 _ _ t360 _ _ t364 _ _ t367 ((rd_T46 t360 3).f0.f0) ((rd_T46 t360 3).f0.f1) false _ ?side1 ?side2 ?side3 ?side4 ?side5 ?side6 ?side7 ?side8 A51.out).mono ?_); (case side1 => repeat (first | exact (Kd.N_reads' HO359.out).2.2 | (with_reducible refine Kd.C_alloc ?_ _) | (with_reducible refine Kd.C_drewN ?_ _) | (with_reducible refine Kd.C_drew ?_))); (case side2 => exact (Kd.N_reads' HO359.out).2.1); (case side3 => repeat (first | exact (Kd.N_reads' HO362.out).2.2 | (with_reducible refine Kd.C_alloc ?_ _) | (with_reducible refine Kd.C_drewN ?_ _) | (with_reducible refine Kd.C_drew ?_))); (case side4 => exact (Kd.N_reads' HO362.out).2.1); (case side5 => repeat (first | exact (Kd.N_reads' HO366.out).2.2 | (with_reducible refine Kd.C_alloc ?_ _) | (with_reducible refine Kd.C_drewN ?_ _) | (with_reducible refine Kd.C_drew ?_))); (case side6 => exact (Kd.N_reads' HO366.out).2.1); (case side7 => repeat (first | exact (Kd.N_reads' HO369.out).2.2 | (with_reducible refine Kd.C_alloc ?_ _) | (with_reducible refine Kd.C_drewN ?_ _) | (with_reducible refine Kd.C_drew ?_))); (case side8 => exact (Kd.N_reads' HO369.out).2.1); rintro e w100 ⟨rfl, hb⟩; replace HO359 := Goto.nbN HO359 hb; replace HO362 := Goto.nbN HO362 hb; replace HO366 := Goto.nbN HO366 hb; replace HO369 := Goto.nbN HO369 hb; replace HL370_2 := Goto.nbV HL370_2 hb; replace HL370_3 := Goto.nbV HL370_3 hb; replace HL372_2 := Goto.nbV HL372_2 hb; replace HL372_3 := Goto.nbV HL372_3 hb; replace BK363 := Goto.bb BK363 hb; replace HR370_2 := Goto.cb HR370_2 hb; replace HR370_3 := Goto.cb HR370_3 hb; replace BK371 := Goto.bb BK371 hb; replace HR372_2 := Goto.cb HR372_2 hb; replace HR372_3 := Goto.cb HR372_3 hb; replace BK373 := Goto.bb BK373 hb; replace HB := Goto.hs HB hb; (try clear hb); (try clear hb2); (try clear hk); (try clear hi)))
            go_meet
            case rel => exact ⟨_, (true), (by first | rfl | (simp; done) | (simp [*]; done)), H', ⟨by have := HJ6.out; first | omega | exact Nat.le_refl _⟩, ⟨Goto.fmN HO366⟩, ⟨Goto.fmN HO369⟩, ⟨Goto.fmN HO359⟩, ⟨Goto.fmN HO362⟩, ⟨Goto.bx BK363⟩, ⟨Goto.bx BK371⟩, ⟨Goto.bx BK373⟩, ⟨by repeat (first | (with_reducible exact HR370_2.out) | (with_reducible refine Kd.C_alloc ?_ _) | (with_reducible refine Kd.C_drewN ?_ _) | (with_reducible refine Kd.C_drew ?_) | exact HR370_2.out)⟩, ⟨by repeat (first | (with_reducible exact HR370_3.out) | (with_reducible refine Kd.C_alloc ?_ _) | (with_reducible refine Kd.C_drewN ?_ _) | (with_reducible refine Kd.C_drew ?_) | exact HR370_3.out)⟩, ⟨by repeat (first | (with_reducible exact HR372_2.out) | (with_reducible refine Kd.C_alloc ?_ _) | (with_reducible refine Kd.C_drewN ?_ _) | (with_reducible refine Kd.C_drew ?_) | exact HR372_2.out)⟩, ⟨by repeat (first | (with_reducible exact HR372_3.out) | (with_reducible refine Kd.C_alloc ?_ _) | (with_reducible refine Kd.C_drewN ?_ _) | (with_reducible refine Kd.C_drew ?_) | exact HR372_3.out)⟩, ⟨Goto.hx HB⟩⟩
          ·
           replace c50 := Bool.eq_false_iff.mpr c50
           subst c50
           rw [if_neg (show ¬ (false = true) by decide)] at H
           replace H := Option.bind_eq_some_iff.mp H
           obtain ⟨t378, A1010, H⟩ := H
           have A101 := Goto.m0 A1010
           clear A1010
           by_cases c102 : t378 = true
           ·
            subst c102
            rw [if_pos rfl] at H
            by_cases c103 : (t364.length : Int) = (t367.length : Int)
            ·
             rw [if_pos c103] at H
             have c103b0 : ((t364.length : Int) == (t367.length : Int)) = true := beq_iff_eq.mpr c103
             have c103b1 : ((t364.length : Int) != (t367.length : Int)) = false := bne_eq_false_iff_eq.mpr c103
             have c103b2 : (t364.length == t367.length) = true := by first | simpa using c103 | (simp at c103 ⊢; omega)
             clear c103
             have H' := Goto.m0 H
             clear H; have hnb104 := NB363_371.out; have hnc104 := NB371_363.out; have hnb105 := NB363_373.out; have hnc105 := NB373_363.out; have hcz106_0 := Goto.bc0 BK363; have hcz106_1 := Goto.bc1 BK363; have hcz106_2 := Goto.bc2 BK363
             have hcz106_3 := Goto.bc3 BK363
             have hfz106_0 := Goto.bf BK363 0; have hfz106_1 := Goto.bf BK363 1; have hfz106_2 := Goto.bf BK363 2; have hfz106_3 := Goto.bf BK363 3; have hnb107 := NB371_373.out; have hnc107 := NB373_371.out
             have hcz108_0 := Goto.bc0 BK371
             have hcz108_1 := Goto.bc1 BK371
             have hfz108_0 := Goto.bf BK371 0; have hfz108_1 := Goto.bf BK371 1
             go_wp2_with (first | (apply wp_region_lit; refine tontinelaw25_LowLevels.flatc ?_) | (with_reducible refine tontinelaw25_LowLevels.flatc ?_) | (with_reducible refine tontinelaw25_LowLevels.flatn ?_) | (go_at_call 14; (with_reducible refine (low_Levels.calls kj6 t355 t356 _ _ t357 _ _ t360 _ _ t367 _ _ t364 ((rd_T46 t360 (ji14)).f0.f0) ((rd_T46 t360 (ji14)).f0.f1) t375 _ ?side1 ?side2 ?side3 ?side4 ?side5 ?side6 ?side7 ?side8 A42.out).mono ?_); (case side1 => repeat (first | exact (Kd.N_reads' HO359.out).2.2 | (with_reducible refine Kd.C_alloc ?_ _) | (with_reducible refine Kd.C_drewN ?_ _) | (with_reducible refine Kd.C_drew ?_))); (case side2 => exact (Kd.N_reads' HO359.out).2.1); (case side3 => repeat (first | exact (Kd.N_reads' HO362.out).2.2 | (with_reducible refine Kd.C_alloc ?_ _) | (with_reducible refine Kd.C_drewN ?_ _) | (with_reducible refine Kd.C_drew ?_))); (case side4 => exact (Kd.N_reads' HO362.out).2.1); (case side5 => repeat (first | exact (Kd.N_reads' HO369.out).2.2 | (with_reducible refine Kd.C_alloc ?_ _) | (with_reducible refine Kd.C_drewN ?_ _) | (with_reducible refine Kd.C_drew ?_))); (case side6 => exact (Kd.N_reads' HO369.out).2.1); (case side7 => repeat (first | exact (Kd.N_reads' HO366.out).2.2 | (with_reducible refine Kd.C_alloc ?_ _) | (with_reducible refine Kd.C_drewN ?_ _) | (with_reducible refine Kd.C_drew ?_))); (case side8 => exact (Kd.N_reads' HO366.out).2.1); rintro e w109 ⟨rfl, hb⟩; replace HO359 := Goto.nbN HO359 hb; replace HO362 := Goto.nbN HO362 hb; replace HO366 := Goto.nbN HO366 hb; replace HO369 := Goto.nbN HO369 hb; replace HL370_2 := Goto.nbV HL370_2 hb; replace HL370_3 := Goto.nbV HL370_3 hb; replace HL372_2 := Goto.nbV HL372_2 hb; replace HL372_3 := Goto.nbV HL372_3 hb; replace BK363 := Goto.bb BK363 hb; replace HR370_2 := Goto.cb HR370_2 hb; replace HR370_3 := Goto.cb HR370_3 hb; replace BK371 := Goto.bb BK371 hb; replace HR372_2 := Goto.cb HR372_2 hb; replace HR372_3 := Goto.cb HR372_3 hb; replace BK373 := Goto.bb BK373 hb; replace HB := Goto.hs HB hb; (try clear hb); (try clear hb2); (try clear hk); (try clear hi); have hcz110_0 := Goto.bc0 BK363; have hcz110_1 := Goto.bc1 BK363; have hcz110_2 := Goto.bc2 BK363; have hcz110_3 := Goto.bc3 BK363; have hfz110_0 := Goto.bf BK363 0; have hfz110_1 := Goto.bf BK363 1; have hfz110_2 := Goto.bf BK363 2; have hfz110_3 := Goto.bf BK363 3; have hcz111_0 := Goto.bc0 BK371; have hcz111_1 := Goto.bc1 BK371; have hfz111_0 := Goto.bf BK371 0; have hfz111_1 := Goto.bf BK371 1) | (go_at_call 14; (with_reducible refine (low_Levels.calls kj6 t355 t356 _ _ t357 _ _ t360 _ _ t364 _ _ t364 ((rd_T46 t360 (ji14)).f0.f0) ((rd_T46 t360 (ji14)).f0.f1) true _ ?side1 ?side2 ?side3 ?side4 ?side5 ?side6 ?side7 ?side8 A101.out).mono ?_); (case side1 => repeat (first | exact (Kd.N_reads' HO359.out).2.2 | (with_reducible refine Kd.C_alloc ?_ _) | (with_reducible refine Kd.C_drewN ?_ _) | (with_reducible refine Kd.C_drew ?_))); (case side2 => exact (Kd.N_reads' HO359.out).2.1); (case side3 => repeat (first | exact (Kd.N_reads' HO362.out).2.2 | (with_reducible refine Kd.C_alloc ?_ _) | (with_reducible refine Kd.C_drewN ?_ _) | (with_reducible refine Kd.C_drew ?_))); (case side4 => exact (Kd.N_reads' HO362.out).2.1); (case side5 => repeat (first | exact (Kd.N_reads' HO366.out).2.2 | (with_reducible refine Kd.C_alloc ?_ _) | (with_reducible refine Kd.C_drewN ?_ _) | (with_reducible refine Kd.C_drew ?_))); (case side6 => exact (Kd.N_reads' HO366.out).2.1); (case side7 => repeat (first | exact (Kd.N_reads' HO366.out).2.2 | (with_reducible refine Kd.C_alloc ?_ _) | (with_reducible refine Kd.C_drewN ?_ _) | (with_reducible refine Kd.C_drew ?_))); (case side8 => exact (Kd.N_reads' HO366.out).2.1); rintro e w112 ⟨rfl, hb⟩; replace HO359 := Goto.nbN HO359 hb; replace HO362 := Goto.nbN HO362 hb; replace HO366 := Goto.nbN HO366 hb; replace HO369 := Goto.nbN HO369 hb; replace HL370_2 := Goto.nbV HL370_2 hb; replace HL370_3 := Goto.nbV HL370_3 hb; replace HL372_2 := Goto.nbV HL372_2 hb; replace HL372_3 := Goto.nbV HL372_3 hb; replace BK363 := Goto.bb BK363 hb; replace HR370_2 := Goto.cb HR370_2 hb; replace HR370_3 := Goto.cb HR370_3 hb; replace BK371 := Goto.bb BK371 hb; replace HR372_2 := Goto.cb HR372_2 hb; replace HR372_3 := Goto.cb HR372_3 hb; replace BK373 := Goto.bb BK373 hb; replace HB := Goto.hs HB hb; (try clear hb); (try clear hb2); (try clear hk); (try clear hi)))
             go_meet
             case rel => exact ⟨_, (false), (by first | rfl | (simp; done) | (simp [*]; done)), H', ⟨by have := HJ6.out; first | omega | exact Nat.le_refl _⟩, ⟨Goto.fmN HO366⟩, ⟨Goto.fmN HO369⟩, ⟨Goto.fmN HO359⟩, ⟨Goto.fmN HO362⟩, ⟨Goto.bx BK363⟩, ⟨Goto.bx BK371⟩, ⟨Goto.bx BK373⟩, ⟨by repeat (first | (with_reducible exact HR370_2.out) | (with_reducible refine Kd.C_alloc ?_ _) | (with_reducible refine Kd.C_drewN ?_ _) | (with_reducible refine Kd.C_drew ?_) | exact HR370_2.out)⟩, ⟨by repeat (first | (with_reducible exact HR370_3.out) | (with_reducible refine Kd.C_alloc ?_ _) | (with_reducible refine Kd.C_drewN ?_ _) | (with_reducible refine Kd.C_drew ?_) | exact HR370_3.out)⟩, ⟨by repeat (first | (with_reducible exact HR372_2.out) | (with_reducible refine Kd.C_alloc ?_ _) | (with_reducible refine Kd.C_drewN ?_ _) | (with_reducible refine Kd.C_drew ?_) | exact HR372_2.out)⟩, ⟨by repeat (first | (with_reducible exact HR372_3.out) | (with_reducible refine Kd.C_alloc ?_ _) | (with_reducible refine Kd.C_drewN ?_ _) | (with_reducible refine Kd.C_drew ?_) | exact HR372_3.out)⟩, ⟨Goto.hx HB⟩⟩
            ·
             rw [if_neg c103] at H
             have c103b0 : ((t364.length : Int) == (t367.length : Int)) = false := beq_eq_false_iff_ne.mpr c103
             have c103b1 : ((t364.length : Int) != (t367.length : Int)) = true := bne_iff_ne.mpr c103
             have c103b2 : (t364.length == t367.length) = false := by first | simpa using c103 | (simp at c103 ⊢; omega)
             have H' := Goto.m0 H
             clear H; have hnb113 := NB363_371.out; have hnc113 := NB371_363.out; have hnb114 := NB363_373.out; have hnc114 := NB373_363.out; have hcz115_0 := Goto.bc0 BK363; have hcz115_1 := Goto.bc1 BK363; have hcz115_2 := Goto.bc2 BK363
             have hcz115_3 := Goto.bc3 BK363
             have hfz115_0 := Goto.bf BK363 0; have hfz115_1 := Goto.bf BK363 1; have hfz115_2 := Goto.bf BK363 2; have hfz115_3 := Goto.bf BK363 3; have hnb116 := NB371_373.out; have hnc116 := NB373_371.out
             have hcz117_0 := Goto.bc0 BK371
             have hcz117_1 := Goto.bc1 BK371
             have hfz117_0 := Goto.bf BK371 0; have hfz117_1 := Goto.bf BK371 1
             go_wp2_with (first | (apply wp_region_lit; refine tontinelaw25_LowLevels.flatc ?_) | (with_reducible refine tontinelaw25_LowLevels.flatc ?_) | (with_reducible refine tontinelaw25_LowLevels.flatn ?_) | (go_at_call 14; (with_reducible refine (low_Levels.calls kj6 t355 t356 _ _ t357 _ _ t360 _ _ t367 _ _ t364 ((rd_T46 t360 (ji14)).f0.f0) ((rd_T46 t360 (ji14)).f0.f1) t375 _ ?side1 ?side2 ?side3 ?side4 ?side5 ?side6 ?side7 ?side8 A42.out).mono ?_); (case side1 => repeat (first | exact (Kd.N_reads' HO359.out).2.2 | (with_reducible refine Kd.C_alloc ?_ _) | (with_reducible refine Kd.C_drewN ?_ _) | (with_reducible refine Kd.C_drew ?_))); (case side2 => exact (Kd.N_reads' HO359.out).2.1); (case side3 => repeat (first | exact (Kd.N_reads' HO362.out).2.2 | (with_reducible refine Kd.C_alloc ?_ _) | (with_reducible refine Kd.C_drewN ?_ _) | (with_reducible refine Kd.C_drew ?_))); (case side4 => exact (Kd.N_reads' HO362.out).2.1); (case side5 => repeat (first | exact (Kd.N_reads' HO369.out).2.2 | (with_reducible refine Kd.C_alloc ?_ _) | (with_reducible refine Kd.C_drewN ?_ _) | (with_reducible refine Kd.C_drew ?_))); (case side6 => exact (Kd.N_reads' HO369.out).2.1); (case side7 => repeat (first | exact (Kd.N_reads' HO366.out).2.2 | (with_reducible refine Kd.C_alloc ?_ _) | (with_reducible refine Kd.C_drewN ?_ _) | (with_reducible refine Kd.C_drew ?_))); (case side8 => exact (Kd.N_reads' HO366.out).2.1); rintro e w118 ⟨rfl, hb⟩; replace HO359 := Goto.nbN HO359 hb; replace HO362 := Goto.nbN HO362 hb; replace HO366 := Goto.nbN HO366 hb; replace HO369 := Goto.nbN HO369 hb; replace HL370_2 := Goto.nbV HL370_2 hb; replace HL370_3 := Goto.nbV HL370_3 hb; replace HL372_2 := Goto.nbV HL372_2 hb; replace HL372_3 := Goto.nbV HL372_3 hb; replace BK363 := Goto.bb BK363 hb; replace HR370_2 := Goto.cb HR370_2 hb; replace HR370_3 := Goto.cb HR370_3 hb; replace BK371 := Goto.bb BK371 hb; replace HR372_2 := Goto.cb HR372_2 hb; replace HR372_3 := Goto.cb HR372_3 hb; replace BK373 := Goto.bb BK373 hb; replace HB := Goto.hs HB hb; (try clear hb); (try clear hb2); (try clear hk); (try clear hi); have hcz119_0 := Goto.bc0 BK363; have hcz119_1 := Goto.bc1 BK363; have hcz119_2 := Goto.bc2 BK363; have hcz119_3 := Goto.bc3 BK363; have hfz119_0 := Goto.bf BK363 0; have hfz119_1 := Goto.bf BK363 1; have hfz119_2 := Goto.bf BK363 2; have hfz119_3 := Goto.bf BK363 3; have hcz120_0 := Goto.bc0 BK371; have hcz120_1 := Goto.bc1 BK371; have hfz120_0 := Goto.bf BK371 0; have hfz120_1 := Goto.bf BK371 1) | (go_at_call 14; (with_reducible refine (low_Levels.calls kj6 t355 t356 _ _ t357 _ _ t360 _ _ t364 _ _ t364 ((rd_T46 t360 (ji14)).f0.f0) ((rd_T46 t360 (ji14)).f0.f1) true _ ?side1 ?side2 ?side3 ?side4 ?side5 ?side6 ?side7 ?side8 A101.out).mono ?_); (case side1 => repeat (first | exact (Kd.N_reads' HO359.out).2.2 | (with_reducible refine Kd.C_alloc ?_ _) | (with_reducible refine Kd.C_drewN ?_ _) | (with_reducible refine Kd.C_drew ?_))); (case side2 => exact (Kd.N_reads' HO359.out).2.1); (case side3 => repeat (first | exact (Kd.N_reads' HO362.out).2.2 | (with_reducible refine Kd.C_alloc ?_ _) | (with_reducible refine Kd.C_drewN ?_ _) | (with_reducible refine Kd.C_drew ?_))); (case side4 => exact (Kd.N_reads' HO362.out).2.1); (case side5 => repeat (first | exact (Kd.N_reads' HO366.out).2.2 | (with_reducible refine Kd.C_alloc ?_ _) | (with_reducible refine Kd.C_drewN ?_ _) | (with_reducible refine Kd.C_drew ?_))); (case side6 => exact (Kd.N_reads' HO366.out).2.1); (case side7 => repeat (first | exact (Kd.N_reads' HO366.out).2.2 | (with_reducible refine Kd.C_alloc ?_ _) | (with_reducible refine Kd.C_drewN ?_ _) | (with_reducible refine Kd.C_drew ?_))); (case side8 => exact (Kd.N_reads' HO366.out).2.1); rintro e w121 ⟨rfl, hb⟩; replace HO359 := Goto.nbN HO359 hb; replace HO362 := Goto.nbN HO362 hb; replace HO366 := Goto.nbN HO366 hb; replace HO369 := Goto.nbN HO369 hb; replace HL370_2 := Goto.nbV HL370_2 hb; replace HL370_3 := Goto.nbV HL370_3 hb; replace HL372_2 := Goto.nbV HL372_2 hb; replace HL372_3 := Goto.nbV HL372_3 hb; replace BK363 := Goto.bb BK363 hb; replace HR370_2 := Goto.cb HR370_2 hb; replace HR370_3 := Goto.cb HR370_3 hb; replace BK371 := Goto.bb BK371 hb; replace HR372_2 := Goto.cb HR372_2 hb; replace HR372_3 := Goto.cb HR372_3 hb; replace BK373 := Goto.bb BK373 hb; replace HB := Goto.hs HB hb; (try clear hb); (try clear hb2); (try clear hk); (try clear hi)))
             go_meet
             case rel => exact ⟨_, (false), (by first | rfl | (simp; done) | (simp [*]; done)), H', ⟨by have := HJ6.out; first | omega | exact Nat.le_refl _⟩, ⟨Goto.fmN HO366⟩, ⟨Goto.fmN HO369⟩, ⟨Goto.fmN HO359⟩, ⟨Goto.fmN HO362⟩, ⟨Goto.bx BK363⟩, ⟨Goto.bx BK371⟩, ⟨Goto.bx BK373⟩, ⟨by repeat (first | (with_reducible exact HR370_2.out) | (with_reducible refine Kd.C_alloc ?_ _) | (with_reducible refine Kd.C_drewN ?_ _) | (with_reducible refine Kd.C_drew ?_) | exact HR370_2.out)⟩, ⟨by repeat (first | (with_reducible exact HR370_3.out) | (with_reducible refine Kd.C_alloc ?_ _) | (with_reducible refine Kd.C_drewN ?_ _) | (with_reducible refine Kd.C_drew ?_) | exact HR370_3.out)⟩, ⟨by repeat (first | (with_reducible exact HR372_2.out) | (with_reducible refine Kd.C_alloc ?_ _) | (with_reducible refine Kd.C_drewN ?_ _) | (with_reducible refine Kd.C_drew ?_) | exact HR372_2.out)⟩, ⟨by repeat (first | (with_reducible exact HR372_3.out) | (with_reducible refine Kd.C_alloc ?_ _) | (with_reducible refine Kd.C_drewN ?_ _) | (with_reducible refine Kd.C_drew ?_) | exact HR372_3.out)⟩, ⟨Goto.hx HB⟩⟩
           ·
            replace c102 := Bool.eq_false_iff.mpr c102
            subst c102
            rw [if_neg (show ¬ (false = true) by decide)] at H
            have H' := Goto.m0 H
            clear H; have hnb122 := NB363_371.out; have hnc122 := NB371_363.out; have hnb123 := NB363_373.out; have hnc123 := NB373_363.out; have hcz124_0 := Goto.bc0 BK363; have hcz124_1 := Goto.bc1 BK363; have hcz124_2 := Goto.bc2 BK363
            have hcz124_3 := Goto.bc3 BK363
            have hfz124_0 := Goto.bf BK363 0; have hfz124_1 := Goto.bf BK363 1; have hfz124_2 := Goto.bf BK363 2; have hfz124_3 := Goto.bf BK363 3; have hnb125 := NB371_373.out; have hnc125 := NB373_371.out
            have hcz126_0 := Goto.bc0 BK371
            have hcz126_1 := Goto.bc1 BK371
            have hfz126_0 := Goto.bf BK371 0; have hfz126_1 := Goto.bf BK371 1
            go_wp2_with (first | (apply wp_region_lit; refine tontinelaw25_LowLevels.flatc ?_) | (with_reducible refine tontinelaw25_LowLevels.flatc ?_) | (with_reducible refine tontinelaw25_LowLevels.flatn ?_) | (go_at_call 14; (with_reducible refine (low_Levels.calls kj6 t355 t356 _ _ t357 _ _ t360 _ _ t367 _ _ t364 ((rd_T46 t360 (ji14)).f0.f0) ((rd_T46 t360 (ji14)).f0.f1) t375 _ ?side1 ?side2 ?side3 ?side4 ?side5 ?side6 ?side7 ?side8 A42.out).mono ?_); (case side1 => repeat (first | exact (Kd.N_reads' HO359.out).2.2 | (with_reducible refine Kd.C_alloc ?_ _) | (with_reducible refine Kd.C_drewN ?_ _) | (with_reducible refine Kd.C_drew ?_))); (case side2 => exact (Kd.N_reads' HO359.out).2.1); (case side3 => repeat (first | exact (Kd.N_reads' HO362.out).2.2 | (with_reducible refine Kd.C_alloc ?_ _) | (with_reducible refine Kd.C_drewN ?_ _) | (with_reducible refine Kd.C_drew ?_))); (case side4 => exact (Kd.N_reads' HO362.out).2.1); (case side5 => repeat (first | exact (Kd.N_reads' HO369.out).2.2 | (with_reducible refine Kd.C_alloc ?_ _) | (with_reducible refine Kd.C_drewN ?_ _) | (with_reducible refine Kd.C_drew ?_))); (case side6 => exact (Kd.N_reads' HO369.out).2.1); (case side7 => repeat (first | exact (Kd.N_reads' HO366.out).2.2 | (with_reducible refine Kd.C_alloc ?_ _) | (with_reducible refine Kd.C_drewN ?_ _) | (with_reducible refine Kd.C_drew ?_))); (case side8 => exact (Kd.N_reads' HO366.out).2.1); rintro e w127 ⟨rfl, hb⟩; replace HO359 := Goto.nbN HO359 hb; replace HO362 := Goto.nbN HO362 hb; replace HO366 := Goto.nbN HO366 hb; replace HO369 := Goto.nbN HO369 hb; replace HL370_2 := Goto.nbV HL370_2 hb; replace HL370_3 := Goto.nbV HL370_3 hb; replace HL372_2 := Goto.nbV HL372_2 hb; replace HL372_3 := Goto.nbV HL372_3 hb; replace BK363 := Goto.bb BK363 hb; replace HR370_2 := Goto.cb HR370_2 hb; replace HR370_3 := Goto.cb HR370_3 hb; replace BK371 := Goto.bb BK371 hb; replace HR372_2 := Goto.cb HR372_2 hb; replace HR372_3 := Goto.cb HR372_3 hb; replace BK373 := Goto.bb BK373 hb; replace HB := Goto.hs HB hb; (try clear hb); (try clear hb2); (try clear hk); (try clear hi); have hcz128_0 := Goto.bc0 BK363; have hcz128_1 := Goto.bc1 BK363; have hcz128_2 := Goto.bc2 BK363; have hcz128_3 := Goto.bc3 BK363; have hfz128_0 := Goto.bf BK363 0; have hfz128_1 := Goto.bf BK363 1; have hfz128_2 := Goto.bf BK363 2; have hfz128_3 := Goto.bf BK363 3; have hcz129_0 := Goto.bc0 BK371; have hcz129_1 := Goto.bc1 BK371; have hfz129_0 := Goto.bf BK371 0; have hfz129_1 := Goto.bf BK371 1) | (go_at_call 14; (with_reducible refine (low_Levels.calls kj6 t355 t356 _ _ t357 _ _ t360 _ _ t364 _ _ t364 ((rd_T46 t360 (ji14)).f0.f0) ((rd_T46 t360 (ji14)).f0.f1) false _ ?side1 ?side2 ?side3 ?side4 ?side5 ?side6 ?side7 ?side8 A101.out).mono ?_); (case side1 => repeat (first | exact (Kd.N_reads' HO359.out).2.2 | (with_reducible refine Kd.C_alloc ?_ _) | (with_reducible refine Kd.C_drewN ?_ _) | (with_reducible refine Kd.C_drew ?_))); (case side2 => exact (Kd.N_reads' HO359.out).2.1); (case side3 => repeat (first | exact (Kd.N_reads' HO362.out).2.2 | (with_reducible refine Kd.C_alloc ?_ _) | (with_reducible refine Kd.C_drewN ?_ _) | (with_reducible refine Kd.C_drew ?_))); (case side4 => exact (Kd.N_reads' HO362.out).2.1); (case side5 => repeat (first | exact (Kd.N_reads' HO366.out).2.2 | (with_reducible refine Kd.C_alloc ?_ _) | (with_reducible refine Kd.C_drewN ?_ _) | (with_reducible refine Kd.C_drew ?_))); (case side6 => exact (Kd.N_reads' HO366.out).2.1); (case side7 => repeat (first | exact (Kd.N_reads' HO366.out).2.2 | (with_reducible refine Kd.C_alloc ?_ _) | (with_reducible refine Kd.C_drewN ?_ _) | (with_reducible refine Kd.C_drew ?_))); (case side8 => exact (Kd.N_reads' HO366.out).2.1); rintro e w130 ⟨rfl, hb⟩; replace HO359 := Goto.nbN HO359 hb; replace HO362 := Goto.nbN HO362 hb; replace HO366 := Goto.nbN HO366 hb; replace HO369 := Goto.nbN HO369 hb; replace HL370_2 := Goto.nbV HL370_2 hb; replace HL370_3 := Goto.nbV HL370_3 hb; replace HL372_2 := Goto.nbV HL372_2 hb; replace HL372_3 := Goto.nbV HL372_3 hb; replace BK363 := Goto.bb BK363 hb; replace HR370_2 := Goto.cb HR370_2 hb; replace HR370_3 := Goto.cb HR370_3 hb; replace BK371 := Goto.bb BK371 hb; replace HR372_2 := Goto.cb HR372_2 hb; replace HR372_3 := Goto.cb HR372_3 hb; replace BK373 := Goto.bb BK373 hb; replace HB := Goto.hs HB hb; (try clear hb); (try clear hb2); (try clear hk); (try clear hi)))
            go_meet
            case rel => exact ⟨_, (true), (by first | rfl | (simp; done) | (simp [*]; done)), H', ⟨by have := HJ6.out; first | omega | exact Nat.le_refl _⟩, ⟨Goto.fmN HO366⟩, ⟨Goto.fmN HO369⟩, ⟨Goto.fmN HO359⟩, ⟨Goto.fmN HO362⟩, ⟨Goto.bx BK363⟩, ⟨Goto.bx BK371⟩, ⟨Goto.bx BK373⟩, ⟨by repeat (first | (with_reducible exact HR370_2.out) | (with_reducible refine Kd.C_alloc ?_ _) | (with_reducible refine Kd.C_drewN ?_ _) | (with_reducible refine Kd.C_drew ?_) | exact HR370_2.out)⟩, ⟨by repeat (first | (with_reducible exact HR370_3.out) | (with_reducible refine Kd.C_alloc ?_ _) | (with_reducible refine Kd.C_drewN ?_ _) | (with_reducible refine Kd.C_drew ?_) | exact HR370_3.out)⟩, ⟨by repeat (first | (with_reducible exact HR372_2.out) | (with_reducible refine Kd.C_alloc ?_ _) | (with_reducible refine Kd.C_drewN ?_ _) | (with_reducible refine Kd.C_drew ?_) | exact HR372_2.out)⟩, ⟨by repeat (first | (with_reducible exact HR372_3.out) | (with_reducible refine Kd.C_alloc ?_ _) | (with_reducible refine Kd.C_drewN ?_ _) | (with_reducible refine Kd.C_drew ?_) | exact HR372_3.out)⟩, ⟨Goto.hx HB⟩⟩
        case rest =>
         clear HC19; try clear c1; try clear c2; try clear p2; try clear c3; try clear p3; try clear q3; try clear hx3; try clear qi3; try clear c4; try clear c5; try clear c6; try clear c7; try clear c8; try clear c9; try clear c9b0; try clear c9b1; try clear c10; try clear c11; try clear c12; try clear c14; try clear c15; try clear c15b0; try clear c16; try clear c16b0; try clear c17; try clear c17b0; try clear c17b1; try clear c25; try clear c26; try clear c29; try clear c34; try clear c35; try clear c37; try clear p37; try clear q37; try clear hx37; try clear qi37; try clear c43; try clear c43b0; try clear c43b1; try clear c43b2; try clear c44; try clear c45; try clear c47; try clear c50; try clear c52; try clear c54; try clear c55; try clear c55b0; try clear c55b1; try clear c55b2; try clear c56; try clear c57; try clear c59; try clear c68; try clear c69; try clear c71; try clear c80; try clear c81; try clear c83; try clear c92; try clear c93; try clear c95; try clear c102; try clear c103; try clear c103b0; try clear c103b1; try clear c103b2; try clear c104; try clear c105; try clear c107; try clear c113; try clear c114; try clear c116; try clear c122; try clear c123; try clear c125; try clear hcz106_0; try clear hcz106_1; try clear hcz106_2; try clear hcz106_3; try clear hcz108_0; try clear hcz108_1; try clear hcz110_0; try clear hcz110_1; try clear hcz110_2; try clear hcz110_3; try clear hcz111_0; try clear hcz111_1; try clear hcz115_0; try clear hcz115_1; try clear hcz115_2; try clear hcz115_3; try clear hcz117_0; try clear hcz117_1; try clear hcz119_0; try clear hcz119_1; try clear hcz119_2; try clear hcz119_3; try clear hcz120_0; try clear hcz120_1; try clear hcz124_0; try clear hcz124_1; try clear hcz124_2; try clear hcz124_3; try clear hcz126_0; try clear hcz126_1; try clear hcz128_0; try clear hcz128_1; try clear hcz128_2; try clear hcz128_3; try clear hcz129_0; try clear hcz129_1; try clear hcz22_0; try clear hcz22_1; try clear hcz22_2; try clear hcz22_3; try clear hcz27_0; try clear hcz27_1; try clear hcz27_2; try clear hcz27_3; try clear hcz30_0; try clear hcz30_1; try clear hcz32_0; try clear hcz32_1; try clear hcz32_2; try clear hcz32_3; try clear hcz36_0; try clear hcz36_1; try clear hcz37_0; try clear hcz37_1; try clear hcz37_2; try clear hcz37_3; try clear hcz38_0; try clear hcz38_1; try clear hcz46_0; try clear hcz46_1; try clear hcz46_2; try clear hcz46_3; try clear hcz48_0; try clear hcz48_1; try clear hcz58_0; try clear hcz58_1; try clear hcz58_2; try clear hcz58_3; try clear hcz60_0; try clear hcz60_1; try clear hcz62_0; try clear hcz62_1; try clear hcz62_2; try clear hcz62_3; try clear hcz63_0; try clear hcz63_1; try clear hcz65_0; try clear hcz65_1; try clear hcz65_2; try clear hcz65_3; try clear hcz66_0; try clear hcz66_1; try clear hcz70_0; try clear hcz70_1; try clear hcz70_2; try clear hcz70_3; try clear hcz72_0; try clear hcz72_1; try clear hcz74_0; try clear hcz74_1; try clear hcz74_2; try clear hcz74_3; try clear hcz75_0; try clear hcz75_1; try clear hcz77_0; try clear hcz77_1; try clear hcz77_2; try clear hcz77_3; try clear hcz78_0; try clear hcz78_1; try clear hcz82_0; try clear hcz82_1; try clear hcz82_2; try clear hcz82_3; try clear hcz84_0; try clear hcz84_1; try clear hcz86_0; try clear hcz86_1; try clear hcz86_2; try clear hcz86_3; try clear hcz87_0; try clear hcz87_1; try clear hcz89_0; try clear hcz89_1; try clear hcz89_2; try clear hcz89_3; try clear hcz90_0; try clear hcz90_1; try clear hcz94_0; try clear hcz94_1; try clear hcz94_2; try clear hcz94_3; try clear hcz96_0; try clear hcz96_1; try clear hcz98_0; try clear hcz98_1; try clear hcz98_2; try clear hcz98_3; try clear hcz99_0; try clear hcz99_1; try clear hfz106_0; try clear hfz106_1; try clear hfz106_2; try clear hfz106_3; try clear hfz108_0; try clear hfz108_1; try clear hfz110_0; try clear hfz110_1; try clear hfz110_2; try clear hfz110_3; try clear hfz111_0; try clear hfz111_1; try clear hfz115_0; try clear hfz115_1; try clear hfz115_2; try clear hfz115_3
         try clear hfz117_0; try clear hfz117_1; try clear hfz119_0; try clear hfz119_1; try clear hfz119_2; try clear hfz119_3; try clear hfz120_0; try clear hfz120_1; try clear hfz124_0; try clear hfz124_1; try clear hfz124_2; try clear hfz124_3; try clear hfz126_0; try clear hfz126_1; try clear hfz128_0; try clear hfz128_1; try clear hfz128_2; try clear hfz128_3; try clear hfz129_0; try clear hfz129_1; try clear hfz22_0; try clear hfz22_1; try clear hfz22_2; try clear hfz22_3; try clear hfz27_0; try clear hfz27_1; try clear hfz27_2; try clear hfz27_3; try clear hfz30_0; try clear hfz30_1; try clear hfz32_0; try clear hfz32_1; try clear hfz32_2; try clear hfz32_3; try clear hfz36_0; try clear hfz36_1; try clear hfz37_0; try clear hfz37_1; try clear hfz37_2; try clear hfz37_3; try clear hfz38_0; try clear hfz38_1; try clear hfz46_0; try clear hfz46_1; try clear hfz46_2; try clear hfz46_3; try clear hfz48_0; try clear hfz48_1; try clear hfz58_0; try clear hfz58_1; try clear hfz58_2; try clear hfz58_3; try clear hfz60_0; try clear hfz60_1; try clear hfz62_0; try clear hfz62_1; try clear hfz62_2; try clear hfz62_3; try clear hfz63_0; try clear hfz63_1; try clear hfz65_0; try clear hfz65_1; try clear hfz65_2; try clear hfz65_3; try clear hfz66_0; try clear hfz66_1; try clear hfz70_0; try clear hfz70_1; try clear hfz70_2; try clear hfz70_3; try clear hfz72_0; try clear hfz72_1; try clear hfz74_0; try clear hfz74_1; try clear hfz74_2; try clear hfz74_3; try clear hfz75_0; try clear hfz75_1; try clear hfz77_0; try clear hfz77_1; try clear hfz77_2; try clear hfz77_3; try clear hfz78_0; try clear hfz78_1; try clear hfz82_0; try clear hfz82_1; try clear hfz82_2; try clear hfz82_3; try clear hfz84_0; try clear hfz84_1; try clear hfz86_0; try clear hfz86_1; try clear hfz86_2; try clear hfz86_3; try clear hfz87_0; try clear hfz87_1; try clear hfz89_0; try clear hfz89_1; try clear hfz89_2; try clear hfz89_3; try clear hfz90_0; try clear hfz90_1; try clear hfz94_0; try clear hfz94_1; try clear hfz94_2; try clear hfz94_3; try clear hfz96_0; try clear hfz96_1; try clear hfz98_0; try clear hfz98_1; try clear hfz98_2; try clear hfz98_3; try clear hfz99_0; try clear hfz99_1; try clear hx370_0; try clear hx370_1; try clear hx370_2; try clear hx370_3; try clear hx370_4; try clear hx370_5; try clear hx370_6; try clear hx370_7; try clear hx370_8; try clear hx370_9; try clear hx372_0; try clear hx372_1; try clear hx372_2; try clear hx372_3; try clear hx372_4; try clear hx372_5; try clear hx372_6; try clear hx372_7; try clear hx372_8; try clear hx372_9; try clear p2; try clear p370; try clear p372; try clear q370; try clear q372
         obtain ⟨kq, x82_18, rfl, HA, HJ18, HO_10, HO_11, HO_364002, HO_364003, BK363, BK371, BK373, HR370_2, HR370_3, HR372_2, HR372_3, HB⟩ := hcut
         cases kq with
         | zero => exact absurd HA.out (by simp [tontinelaw25_LowLevels.j1])
         | succ kj18 =>
          have H := HA.out; clear HA
          simp only [tontinelaw25_LowLevels.j1] at H
          by_cases c131 : x82_18 = true
          ·
           subst c131
           rw [if_pos rfl] at H
           exact absurd ((Option.some.inj H).trans HRT.out) (by decide)
          ·
           replace c131 := Bool.eq_false_iff.mpr c131
           subst c131
           rw [if_neg (show ¬ (false = true) by decide)] at H
           by_cases c132 : (t364.length : Int) = (t367.length : Int)
           ·
            rw [if_pos c132] at H
            have c132b0 : ((t364.length : Int) == (t367.length : Int)) = true := beq_iff_eq.mpr c132
            have c132b1 : ((t364.length : Int) != (t367.length : Int)) = false := bne_eq_false_iff_eq.mpr c132
            have c132b2 : (t364.length == t367.length) = true := by first | simpa using c132 | (simp at c132 ⊢; omega)
            clear c132
            replace H := Option.bind_eq_some_iff.mp H
            obtain ⟨t379, A1330, H⟩ := H
            have A133 := Goto.m0 A1330
            clear A1330
            obtain rfl := Option.some.inj H
            have hnb134 := NB363_371.out; have hnc134 := NB371_363.out; have hnb135 := NB363_373.out; have hnc135 := NB373_363.out; have hcz136_0 := Goto.bc0 BK363; have hcz136_1 := Goto.bc1 BK363; have hcz136_2 := Goto.bc2 BK363
            have hcz136_3 := Goto.bc3 BK363
            have hfz136_0 := Goto.bf BK363 0; have hfz136_1 := Goto.bf BK363 1; have hfz136_2 := Goto.bf BK363 2; have hfz136_3 := Goto.bf BK363 3; have hnb137 := NB373_371.out; have hnc137 := NB371_373.out
            have hcz138_0 := Goto.bc0 BK373
            have hcz138_1 := Goto.bc1 BK373
            have hfz138_0 := Goto.bf BK373 0; have hfz138_1 := Goto.bf BK373 1
            go_wp2_with (first | (apply wp_region_lit; refine tontinelaw25_LowLevels.flatc ?_) | (with_reducible refine tontinelaw25_LowLevels.flatc ?_) | (with_reducible refine tontinelaw25_LowLevels.flatn ?_) | (go_at_call 14; (with_reducible refine (low_Levels.calls kj18 t355 t356 _ _ t357 _ _ t360 _ _ t364 _ _ t367 ((rd_T46 t360 3).f0.f0) ((rd_T46 t360 3).f0.f1) t379 _ ?side1 ?side2 ?side3 ?side4 ?side5 ?side6 ?side7 ?side8 A133.out).mono ?_); (case side1 => repeat (first | exact (Kd.N_reads' HO_364002.out).2.2 | (with_reducible refine Kd.C_alloc ?_ _) | (with_reducible refine Kd.C_drewN ?_ _) | (with_reducible refine Kd.C_drew ?_))); (case side2 => exact (Kd.N_reads' HO_364002.out).2.1); (case side3 => repeat (first | exact (Kd.N_reads' HO_364003.out).2.2 | (with_reducible refine Kd.C_alloc ?_ _) | (with_reducible refine Kd.C_drewN ?_ _) | (with_reducible refine Kd.C_drew ?_))); (case side4 => exact (Kd.N_reads' HO_364003.out).2.1); (case side5 => repeat (first | exact (Kd.N_reads' HO_10.out).2.2 | (with_reducible refine Kd.C_alloc ?_ _) | (with_reducible refine Kd.C_drewN ?_ _) | (with_reducible refine Kd.C_drew ?_))); (case side6 => exact (Kd.N_reads' HO_10.out).2.1); (case side7 => repeat (first | exact (Kd.N_reads' HO_11.out).2.2 | (with_reducible refine Kd.C_alloc ?_ _) | (with_reducible refine Kd.C_drewN ?_ _) | (with_reducible refine Kd.C_drew ?_))); (case side8 => exact (Kd.N_reads' HO_11.out).2.1); rintro e w139 ⟨rfl, hb⟩; replace HO_10 := Goto.nbN HO_10 hb; replace HO_11 := Goto.nbN HO_11 hb; replace HO_364002 := Goto.nbN HO_364002 hb; replace HO_364003 := Goto.nbN HO_364003 hb; replace BK363 := Goto.bb BK363 hb; replace BK371 := Goto.bb BK371 hb; replace BK373 := Goto.bb BK373 hb; replace HR370_2 := Goto.cb HR370_2 hb; replace HR370_3 := Goto.cb HR370_3 hb; replace HR372_2 := Goto.cb HR372_2 hb; replace HR372_3 := Goto.cb HR372_3 hb; replace HB := Goto.hs HB hb; (try clear hb); (try clear hb2); (try clear hk); (try clear hi)))
            go_ret
            exact ⟨by first | rfl | (simp [errW_none, errW_some] <;> rfl) | (simp only [← hji14]; first | rfl | (simp [errW_none, errW_some] <;> rfl)) | (simp [*, errW_none, errW_some] <;> rfl), by repeat (first | (with_reducible first | exact HB.out | apply below_alloc | apply pw_below_drewN | apply below_drew1 | refine below_set ?_ GE363.out | refine below_set ?_ GE371.out | refine below_set ?_ GE373.out) | exact HB.out)⟩
           ·
            rw [if_neg c132] at H
            have c132b0 : ((t364.length : Int) == (t367.length : Int)) = false := beq_eq_false_iff_ne.mpr c132
            have c132b1 : ((t364.length : Int) != (t367.length : Int)) = true := bne_iff_ne.mpr c132
            have c132b2 : (t364.length == t367.length) = false := by first | simpa using c132 | (simp at c132 ⊢; omega)
            obtain rfl := Option.some.inj H
            go_wp2
            go_ret
            exact ⟨by first | rfl | (simp [errW_none, errW_some] <;> rfl) | (simp only [← hji14]; first | rfl | (simp [errW_none, errW_some] <;> rfl)) | (simp [*, errW_none, errW_some] <;> rfl), by repeat (first | (with_reducible first | exact HB.out | apply below_alloc | apply pw_below_drewN | apply below_drew1 | refine below_set ?_ GE363.out | refine below_set ?_ GE371.out | refine below_set ?_ GE373.out) | exact HB.out)⟩
       ·
        rw [if_neg c17] at H
        exact absurd H (by simp)
      ·
       rw [if_neg c16] at H
       exact absurd H (by simp)
     ·
      rw [if_neg c15] at H
      exact absurd H (by simp)
 ·
  replace c6 := Bool.eq_false_iff.mpr c6
  subst c6
  rw [if_neg (show ¬ (false = true) by decide)] at H
  exact absurd ((Option.some.inj H).trans HRT.out) (by decide)

/-- THE ONE PURE STATEMENT of tontinelaw25_LowLevels: yours. -/
def tontinelaw25_LowLevels.Pure : Prop := ∀ (l0 : List Int) (l1 : List Int) (a2 : Int) (a3 : Int), l0.length ≤ maxLen → l0.length * 1 ≤ 140737488351232 → (∀ x ∈ l0, (Lit.int .u8 x).wf = true) → l1.length ≤ maxLen → l1.length * 1 ≤ 140737488351232 → (∀ x ∈ l1, (Lit.int .u8 x).wf = true) → (Lit.int .u8 a2).wf = true → (Lit.int .u8 a3).wf = true → ∃ k, tontinelaw25_LowLevels.f k l0 l1 a2 a3 = some true
theorem tontinelaw25_LowLevels.walk (P : tontinelaw25_LowLevels.Pure) (a0 : Option Addr) (len0 cap0 : Nat) (z0 : List Int) (a1 : Option Addr) (len1 cap1 : Nat) (z1 : List Int) (a2 : Int) (a3 : Int) (w : World) (w0 : (a0 = none ∧ len0 = 0 ∧ cap0 = 0 ∧ z0 = []) ∨ ∃ x, a0 = some x ∧ len0 ≤ cap0 ∧ cap0 ≤ maxLen ∧ z0.length = cap0 ∧ (∀ i, i < z0.length → w.cell? (x.add i) = some (.int .u8 (z0.getD i 0))) ∧ ∀ n ∈ z0, (Lit.int .u8 n).wf = true) (y0 : len0 * 1 ≤ 140737488351232) (w1 : (a1 = none ∧ len1 = 0 ∧ cap1 = 0 ∧ z1 = []) ∨ ∃ x, a1 = some x ∧ len1 ≤ cap1 ∧ cap1 ≤ maxLen ∧ z1.length = cap1 ∧ (∀ i, i < z1.length → w.cell? (x.add i) = some (.int .u8 (z1.getD i 0))) ∧ ∀ n ∈ z1, (Lit.int .u8 n).wf = true) (y1 : len1 * 1 ≤ 140737488351232) (w2 : (Lit.int .u8 a2).wf = true) (w3 : (Lit.int .u8 a3).wf = true) :
    Calls Try.prog 6 #[.slice a0 len0 cap0, .slice a1 len1 cap1, .int .u8 a2, .int .u8 a3] w fun e w' => e = .returned (.bool true) ∧ Below w.heap.size w w' := by
 obtain ⟨l0, rfl, hr0, hm0, hw0, hc0⟩ := ReadsInt.ofRowC w0
 obtain ⟨l1, rfl, hr1, hm1, hw1, hc1⟩ := ReadsInt.ofRowC w1
 obtain ⟨k, h⟩ := P l0 l1 a2 a3 hm0 y0 hw0 hm1 y1 hw1 w2 w3
 refine (tontinelaw25_LowLevels.calls k _ _ l0 _ _ l1 a2 a3 true rfl w (Kd.C_of_reads (d := (0 : Int)) (h1 := fun _ => rfl) hr0) hc0 (Kd.C_of_reads (d := (0 : Int)) (h1 := fun _ => rfl) hr1) hc1 h).mono ?_
 rintro e w' ⟨rfl, hd⟩
 exact ⟨rfl, hd⟩

end Go.Proofs.Ytnnkmkejcmdjpaa.P
