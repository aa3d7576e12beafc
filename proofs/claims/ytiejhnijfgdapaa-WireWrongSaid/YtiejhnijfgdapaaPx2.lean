/- Printed by a program of this workplace (a turned copy of the kit's optional print), out of the translation; not trusted: Lean checks it. -/
import Derived.Test.YtiejhnijfgdapaaPx0
namespace Go.Proofs.Ytiejhnijfgdapaa.P
open Go.RowKit Go.Proofs.YtiejhnijfgdapaaW.PrintWords Go.Proofs.YtiejhnijfgdapaaW.PrintLast Go.Proofs.YtiejhnijfgdapaaW.PrintMore
attribute [local go_sem] max2_int min2_int max_two min_two max_three min_three max_four min_four   -- for this text's walks alone
set_option linter.unusedVariables false
set_option linter.unusedSimpArgs false

/-! ### wire_number: function 27 -/
mutual
def wire_number.l0 : Nat → ByteArray → Int → Int → Option (Int × Int × Option Int)
  | 0, _, _, _ => none
  | k + 1, x0, x5, x6 => if x6 = (x0.size : Int) then (some (0, 0, some 11)) else (if 0 ≤ x6 then (if x6 < (x0.size : Int) then (if 0 ≤ (wrap64 (7 * x6)) then (if (wrap64 (x6 + 1)) = 4 then (if (wrap64 (bt x0 x6)) < 128 then (if (wrap64 (bt x0 x6)) = 0 then (wire_number.j1 k x0 (Go.bits .or .i64 x5 (shl .i64 (Go.bits .and .i64 (wrap64 (bt x0 x6)) 127) (wrap64 (7 * x6)))) (wrap64 (x6 + 1)) (decide ((wrap64 (bt x0 x6)) < 128)) (decide ((wrap64 (x6 + 1)) > 1))) else (wire_number.j1 k x0 (Go.bits .or .i64 x5 (shl .i64 (Go.bits .and .i64 (wrap64 (bt x0 x6)) 127) (wrap64 (7 * x6)))) (wrap64 (x6 + 1)) (decide ((wrap64 (bt x0 x6)) < 128)) false)) else (wire_number.j1 k x0 (Go.bits .or .i64 x5 (shl .i64 (Go.bits .and .i64 (wrap64 (bt x0 x6)) 127) (wrap64 (7 * x6)))) (wrap64 (x6 + 1)) (decide ((wrap64 (bt x0 x6)) < 128)) true)) else (if (wrap64 (bt x0 x6)) < 128 then (if (wrap64 (bt x0 x6)) = 0 then (wire_number.j1 k x0 (Go.bits .or .i64 x5 (shl .i64 (Go.bits .and .i64 (wrap64 (bt x0 x6)) 127) (wrap64 (7 * x6)))) (wrap64 (x6 + 1)) (decide ((wrap64 (bt x0 x6)) < 128)) (decide ((wrap64 (x6 + 1)) > 1))) else (wire_number.j1 k x0 (Go.bits .or .i64 x5 (shl .i64 (Go.bits .and .i64 (wrap64 (bt x0 x6)) 127) (wrap64 (7 * x6)))) (wrap64 (x6 + 1)) (decide ((wrap64 (bt x0 x6)) < 128)) false)) else (wire_number.j1 k x0 (Go.bits .or .i64 x5 (shl .i64 (Go.bits .and .i64 (wrap64 (bt x0 x6)) 127) (wrap64 (7 * x6)))) (wrap64 (x6 + 1)) (decide ((wrap64 (bt x0 x6)) < 128)) false))) else (none)) else (none)) else (none))
def wire_number.j1 : Nat → ByteArray → Int → Int → Bool → Bool → Option (Int × Int × Option Int)
  | 0, _, _, _, _, _ => none
  | k + 1, x0, x5, x6, x8, x45 => if x45 = true then (some (0, 0, some 10)) else (if x8 = true then (some (wrap64 (x5 - 1), x6, none)) else (wire_number.l0 k x0 x5 x6))
end
def wire_number.f (k : Nat) (a0 : ByteArray) : Option (Int × Int × Option Int) := wire_number.l0 k a0 0 0
theorem wire_number.mono_l : ∀ k, (∀ y0 y1 y2, LeO (wire_number.l0 k y0 y1 y2) (wire_number.l0 (k + 1) y0 y1 y2)) ∧ (∀ y0 y1 y2 y3 y4, LeO (wire_number.j1 k y0 y1 y2 y3 y4) (wire_number.j1 (k + 1) y0 y1 y2 y3 y4))
  | 0 => ⟨fun _ _ _ r h => by simp [wire_number.l0] at h, fun _ _ _ _ _ r h => by simp [wire_number.j1] at h⟩
  | k + 1 => by
    obtain ⟨ih0, ih1⟩ := wire_number.mono_l k
    refine ⟨?_, ?_⟩
    · intro y0 y1 y2
      unfold wire_number.l0
      repeat' first
      | (with_reducible exact ih0 _ _ _)
      | (with_reducible exact ih1 _ _ _ _ _)
      | (with_reducible exact LeO.refl _)
      | (with_reducible exact LeO.none _)
      | (with_reducible refine LeO.ite ?_ ?_)
      | (with_reducible refine LeO.bind ?_ (fun _ => ?_))
      | exact ih0 _ _ _
      | exact ih1 _ _ _ _ _
      | exact LeO.none _
      | refine LeO.ite ?_ ?_
      | refine LeO.bind ?_ (fun _ => ?_)
    · intro y0 y1 y2 y3 y4
      unfold wire_number.j1
      repeat' first
      | (with_reducible exact ih0 _ _ _)
      | (with_reducible exact ih1 _ _ _ _ _)
      | (with_reducible exact LeO.refl _)
      | (with_reducible exact LeO.none _)
      | (with_reducible refine LeO.ite ?_ ?_)
      | (with_reducible refine LeO.bind ?_ (fun _ => ?_))
      | exact ih0 _ _ _
      | exact ih1 _ _ _ _ _
      | exact LeO.none _
      | refine LeO.ite ?_ ?_
      | refine LeO.bind ?_ (fun _ => ?_)
theorem wire_number.mono : ∀ a0 k, LeO (wire_number.f k a0) (wire_number.f (k + 1) a0) := by
 intro a0 k
 obtain ⟨ih0, ih1⟩ := wire_number.mono_l k
 unfold wire_number.f
 repeat' first
   | (with_reducible exact ih0 _ _ _)
   | (with_reducible exact ih1 _ _ _ _ _)
   | (with_reducible exact LeO.refl _)
   | (with_reducible exact LeO.none _)
   | (with_reducible refine LeO.ite ?_ ?_)
   | (with_reducible refine LeO.bind ?_ (fun _ => ?_))
   | exact ih0 _ _ _
   | exact ih1 _ _ _ _ _
   | exact LeO.none _
   | refine LeO.ite ?_ ?_
   | refine LeO.bind ?_ (fun _ => ?_)
set_option maxHeartbeats 8000000 in
set_option maxRecDepth 100000 in
theorem wire_number.calls (k : Nat) (a0 : ByteArray) (r1 : Int) (r2 : Int) (r3 : Option Int) (w : World) (h : wire_number.f k a0 = some (r1, r2, r3)) :
    Calls Try.prog 27 #[.string a0] w fun e w' => e = .returned (.tuple #[.int .i64 r1, .int .i64 r2, errW r3]) ∧ Drawn0 w w' := by
 have hu37 := Try.underlying37; have hu42 := Try.underlying42
 have H : (wire_number.l0 k a0 0 0) = some (r1, r2, r3) := h
 clear h
 have H' := Goto.m0 H
 clear H
 go_enter Try.func27, Try.ntmps27
 go_wp2_with (first | (with_reducible refine Goto.scope_enter ?_))
 rename_i K0_ hK0_
 refine Goto.label_ghost (l := 0) hK0_ (fun a0_ kq a_ w' => ∃ w2_ w3_ w4_ v5 v6 w7_ w8_ w9_ w10_ w11_ w12_ w13_ w14_ w15_ w16_ w17_ w18_ w19_ w20_ w21_ w22_ w23_ w24_ w25_ w26_ w27_ w28_ w29_ w30_ w31_ w32_ w33_ w34_ w35_ w36_ w37_ w38_ w39_ w40_ w41_ w42_ w43_ w44_ w45_ w46_ w47_ w48_ w49_ w50_ : Value, (∃ (x5_1 : Int) (x6_1 : Int), v5 = .int .i64 x5_1 ∧ v6 = .int .i64 x6_1 ∧ Aside0 (wire_number.l0 kq a0 x5_1 x6_1 = some (r1, r2, r3)) ∧ Aside0 (kq ≤ k) ∧ Drawn0 w w') ∧ a_ = { tmps := #[Goto.slot a0_.tmps.toList 0, Goto.slot a0_.tmps.toList 1, w2_, w3_, w4_, v5, v6, w7_, w8_, w9_, w10_, w11_, w12_, w13_, w14_, w15_, w16_, w17_, w18_, w19_, w20_, w21_, w22_, w23_, w24_, w25_, w26_, w27_, w28_, w29_, w30_, w31_, w32_, w33_, w34_, w35_, w36_, w37_, w38_, w39_, w40_, w41_, w42_, w43_, w44_, w45_, w46_, w47_, w48_, w49_, w50_], defers := a0_.defers }) k ?hfl_ ?atStart ?round
 case hfl_ => rfl
 case atStart => ((repeat apply Exists.intro); refine ⟨?_, ?fr_⟩; (case fr_ => ((try simp only [Goto.slot_zero, Goto.slot_succ]); rfl)); exact ⟨(0), (0), (by first | rfl | (simp; done) | (simp [*]; done)), (by first | rfl | (simp; done) | (simp [*]; done)), H', ⟨Nat.le_refl _⟩, by repeat (first | exact Drawn0.refl _ | apply Drawn0.step)⟩)
 case round =>
  clear hK0_ K0_
  clear H'
  intro gk _ wr hinv_
  obtain ⟨w2_, w3_, w4_, v5, v6, w7_, w8_, w9_, w10_, w11_, w12_, w13_, w14_, w15_, w16_, w17_, w18_, w19_, w20_, w21_, w22_, w23_, w24_, w25_, w26_, w27_, w28_, w29_, w30_, w31_, w32_, w33_, w34_, w35_, w36_, w37_, w38_, w39_, w40_, w41_, w42_, w43_, w44_, w45_, w46_, w47_, w48_, w49_, w50_, hrel, ha_⟩ := hinv_
  subst ha_
  (try simp only [Goto.slot_zero, Goto.slot_succ])
  intro _ _ _ _
  obtain ⟨x5_1, x6_1, rfl, rfl, HA, HK1, ⟨m1, rfl⟩⟩ := hrel
  cases gk with
  | zero => exact absurd HA.out (by simp [wire_number.l0])
  | succ k1 =>
   have H := HA.out; clear HA
   simp only [wire_number.l0] at H
   by_cases c2 : x6_1 = (a0.size : Int)
   ·
    rw [if_pos c2] at H
    have c2b0 : (x6_1 == (a0.size : Int)) = true := beq_iff_eq.mpr c2
    have c2b1 : (x6_1 != (a0.size : Int)) = false := bne_eq_false_iff_eq.mpr c2
    clear c2
    simp only [Option.some.injEq, Prod.mk.injEq] at H
    obtain ⟨rfl, rfl, rfl⟩ := H
    go_wp2_with (first | (with_reducible refine Goto.scope_enter ?_))
    (try simp only [Exit.inBlock, Exit.then])
    (try refine Goto.ret_hit ?_)
    (try refine Goto.end_hit ?_)
    go_ret3
    exact ⟨by first | rfl | (simp; done) | (simp [*]; done), by repeat (first | exact Drawn0.refl _ | apply Drawn0.step)⟩
   ·
    rw [if_neg c2] at H
    have c2b0 : (x6_1 == (a0.size : Int)) = false := beq_eq_false_iff_ne.mpr c2
    have c2b1 : (x6_1 != (a0.size : Int)) = true := bne_iff_ne.mpr c2
    by_cases c3 : 0 ≤ x6_1
    ·
     rw [if_pos c3] at H
     have c3b0 : decide (0 ≤ x6_1) = true := decide_eq_true c3
     clear c3
     by_cases c4 : x6_1 < (a0.size : Int)
     ·
      rw [if_pos c4] at H
      have c4b0 : decide (x6_1 < (a0.size : Int)) = true := decide_eq_true c4
      clear c4
      obtain ⟨ji6, hji6⟩ : ∃ j_ : Int, (wrap64 (7 * x6_1)) = j_ := ⟨_, rfl⟩
      replace H : (if 0 ≤ (ji6) then (if (wrap64 (x6_1 + 1)) = 4 then (if (wrap64 (bt a0 x6_1)) < 128 then (if (wrap64 (bt a0 x6_1)) = 0 then (wire_number.j1 k1 a0 (Go.bits .or .i64 x5_1 (shl .i64 (Go.bits .and .i64 (wrap64 (bt a0 x6_1)) 127) (ji6))) (wrap64 (x6_1 + 1)) (decide ((wrap64 (bt a0 x6_1)) < 128)) (decide ((wrap64 (x6_1 + 1)) > 1))) else (wire_number.j1 k1 a0 (Go.bits .or .i64 x5_1 (shl .i64 (Go.bits .and .i64 (wrap64 (bt a0 x6_1)) 127) (ji6))) (wrap64 (x6_1 + 1)) (decide ((wrap64 (bt a0 x6_1)) < 128)) false)) else (wire_number.j1 k1 a0 (Go.bits .or .i64 x5_1 (shl .i64 (Go.bits .and .i64 (wrap64 (bt a0 x6_1)) 127) (ji6))) (wrap64 (x6_1 + 1)) (decide ((wrap64 (bt a0 x6_1)) < 128)) true)) else (if (wrap64 (bt a0 x6_1)) < 128 then (if (wrap64 (bt a0 x6_1)) = 0 then (wire_number.j1 k1 a0 (Go.bits .or .i64 x5_1 (shl .i64 (Go.bits .and .i64 (wrap64 (bt a0 x6_1)) 127) (ji6))) (wrap64 (x6_1 + 1)) (decide ((wrap64 (bt a0 x6_1)) < 128)) (decide ((wrap64 (x6_1 + 1)) > 1))) else (wire_number.j1 k1 a0 (Go.bits .or .i64 x5_1 (shl .i64 (Go.bits .and .i64 (wrap64 (bt a0 x6_1)) 127) (ji6))) (wrap64 (x6_1 + 1)) (decide ((wrap64 (bt a0 x6_1)) < 128)) false)) else (wire_number.j1 k1 a0 (Go.bits .or .i64 x5_1 (shl .i64 (Go.bits .and .i64 (wrap64 (bt a0 x6_1)) 127) (ji6))) (wrap64 (x6_1 + 1)) (decide ((wrap64 (bt a0 x6_1)) < 128)) false))) else (none)) = some (r1, r2, r3) := by first | (rw [hji6] at H; exact H) | (simp only [hji6] at H ⊢; exact H)
      have hji6w : (IntKind.i64.wrap (7 * x6_1)) = ji6 := (i64_w _).trans hji6
      by_cases c7 : 0 ≤ (ji6)
      ·
       rw [if_pos c7] at H
       have c7b0 := eq_true c7
       have c7b1 : decide (0 ≤ (ji6)) = true := decide_eq_true c7
       clear c7
       obtain ⟨ji8, hji8⟩ : ∃ j_ : Int, (shl .i64 (Go.bits .and .i64 (wrap64 (bt a0 x6_1)) 127) (ji6)) = j_ := ⟨_, rfl⟩
       (try rw [hji8] at hji6)
       (try rw [hji8] at hji6w)
       replace H : (if (wrap64 (x6_1 + 1)) = 4 then (if (wrap64 (bt a0 x6_1)) < 128 then (if (wrap64 (bt a0 x6_1)) = 0 then (wire_number.j1 k1 a0 (Go.bits .or .i64 x5_1 (ji8)) (wrap64 (x6_1 + 1)) (decide ((wrap64 (bt a0 x6_1)) < 128)) (decide ((wrap64 (x6_1 + 1)) > 1))) else (wire_number.j1 k1 a0 (Go.bits .or .i64 x5_1 (ji8)) (wrap64 (x6_1 + 1)) (decide ((wrap64 (bt a0 x6_1)) < 128)) false)) else (wire_number.j1 k1 a0 (Go.bits .or .i64 x5_1 (ji8)) (wrap64 (x6_1 + 1)) (decide ((wrap64 (bt a0 x6_1)) < 128)) true)) else (if (wrap64 (bt a0 x6_1)) < 128 then (if (wrap64 (bt a0 x6_1)) = 0 then (wire_number.j1 k1 a0 (Go.bits .or .i64 x5_1 (ji8)) (wrap64 (x6_1 + 1)) (decide ((wrap64 (bt a0 x6_1)) < 128)) (decide ((wrap64 (x6_1 + 1)) > 1))) else (wire_number.j1 k1 a0 (Go.bits .or .i64 x5_1 (ji8)) (wrap64 (x6_1 + 1)) (decide ((wrap64 (bt a0 x6_1)) < 128)) false)) else (wire_number.j1 k1 a0 (Go.bits .or .i64 x5_1 (ji8)) (wrap64 (x6_1 + 1)) (decide ((wrap64 (bt a0 x6_1)) < 128)) false))) = some (r1, r2, r3) := by first | (rw [hji8] at H; exact H) | (simp only [hji8] at H ⊢; exact H)
       have hji8_ : (IntKind.i64.wrap ((Go.bits .and .i64 (wrap64 (bt a0 x6_1)) 127) * 2 ^ min (ji6).toNat 64)) = ji8 := hji8
       have hji8z : (ji6) ≤ 64 → (IntKind.i64.wrap ((Go.bits .and .i64 (wrap64 (bt a0 x6_1)) 127) * 2 ^ (ji6).toNat)) = ji8 := shl_small hji8
       have hji8y : (wrap64 ((Go.bits .and .i64 (wrap64 (bt a0 x6_1)) 127) * 2 ^ min (ji6).toNat 64)) = ji8 := (i64_w _).symm.trans hji8_
       have hji8x : (ji6) ≤ 64 → (wrap64 ((Go.bits .and .i64 (wrap64 (bt a0 x6_1)) 127) * 2 ^ (ji6).toNat)) = ji8 := fun h_ => (i64_w _).symm.trans (hji8z h_)
       have HC9 := Goto.m0 H
       clear H
       have p5 : 0 ≤ (x6_1 : Int) := Goto.od
       have q5 : x6_1 < (a0.size : Int) := Goto.od
       have hx5 := bt_at a0 x6_1
       replace p5 := eq_true p5; replace q5 := eq_true q5
       go_upto_region 8 with (fail)
       go_cut [5, 6, 7, 8, 11, 12, 16, 17, 18, 19, 21, 22, 24, 25, 26, 28, 29, 30, 31, 34, 35, 45] (fun v5 v6 v7 v8 v11 v12 v16 v17 v18 v19 v21 v22 v24 v25 v26 v28 v29 v30 v31 v34 v35 v45 wc => ∃ (kq : Nat) (x5_8 : Int) (x6_8 : Int) (x8_8 : Bool) (x45_8 : Bool), v5 = .int .i64 x5_8 ∧ v6 = .int .i64 x6_8 ∧ v8 = .bool x8_8 ∧ v45 = .bool x45_8 ∧ Aside0 (wire_number.j1 kq a0 x5_8 x6_8 x8_8 x45_8 = some (r1, r2, r3)) ∧ Aside0 (kq ≤ k1) ∧ Drawn0 w wc)
       case first =>
        have H := HC9.out; clear HC9
        by_cases c10 : (wrap64 (x6_1 + 1)) = 4
        ·
         rw [if_pos c10] at H
         have c10b0 : ((wrap64 (x6_1 + 1)) == 4) = true := beq_iff_eq.mpr c10
         have c10b1 : ((wrap64 (x6_1 + 1)) != 4) = false := bne_eq_false_iff_eq.mpr c10
         clear c10
         (first | rw [c10b0] | (simp only [i64_w, i32_w]; rw [c10b0]) | skip)
         by_cases c11 : (wrap64 (bt a0 x6_1)) < 128
         ·
          rw [if_pos c11] at H
          have c11b0 : decide ((wrap64 (bt a0 x6_1)) < 128) = true := decide_eq_true c11
          clear c11
          by_cases c12 : (wrap64 (bt a0 x6_1)) = 0
          ·
           rw [if_pos c12] at H
           have c12b0 : ((wrap64 (bt a0 x6_1)) == 0) = true := beq_iff_eq.mpr c12
           have c12b1 : ((wrap64 (bt a0 x6_1)) != 0) = false := bne_eq_false_iff_eq.mpr c12
           clear c12
           have H' := Goto.m0 H
           clear H
           go_wp2_with (first | (with_reducible refine Goto.scope_enter ?_))
           go_meet
           case rel => exact ⟨_, (Go.bits .or .i64 x5_1 (ji8)), (wrap64 (x6_1 + 1)), (decide ((wrap64 (bt a0 x6_1)) < 128)), (decide ((wrap64 (x6_1 + 1)) > 1)), (by first | rfl | (simp; done) | (simp only [← hji8] <;> (first | rfl | simp)) | (simp [*]; done)), (by first | rfl | (simp; done) | (simp [*]; done)), (by first | rfl | (simp; done) | (simp [*]; done)), (by first | rfl | (simp; done) | (simp [*]; done)), H', ⟨by have := HK1.out; first | omega | exact Nat.le_refl _⟩, by repeat (first | exact Drawn0.refl _ | apply Drawn0.step)⟩
          ·
           rw [if_neg c12] at H
           have c12b0 : ((wrap64 (bt a0 x6_1)) == 0) = false := beq_eq_false_iff_ne.mpr c12
           have c12b1 : ((wrap64 (bt a0 x6_1)) != 0) = true := bne_iff_ne.mpr c12
           have H' := Goto.m0 H
           clear H
           go_wp2_with (first | (with_reducible refine Goto.scope_enter ?_))
           go_meet
           case rel => exact ⟨_, (Go.bits .or .i64 x5_1 (ji8)), (wrap64 (x6_1 + 1)), (decide ((wrap64 (bt a0 x6_1)) < 128)), (false), (by first | rfl | (simp; done) | (simp only [← hji8] <;> (first | rfl | simp)) | (simp [*]; done)), (by first | rfl | (simp; done) | (simp [*]; done)), (by first | rfl | (simp; done) | (simp [*]; done)), (by first | rfl | (simp; done) | (simp [*]; done)), H', ⟨by have := HK1.out; first | omega | exact Nat.le_refl _⟩, by repeat (first | exact Drawn0.refl _ | apply Drawn0.step)⟩
         ·
          rw [if_neg c11] at H
          have c11b0 : decide ((wrap64 (bt a0 x6_1)) < 128) = false := decide_eq_false c11
          clear c11
          have H' := Goto.m0 H
          clear H
          go_wp2_with (first | (with_reducible refine Goto.scope_enter ?_))
          go_meet
          case rel => exact ⟨_, (Go.bits .or .i64 x5_1 (ji8)), (wrap64 (x6_1 + 1)), (decide ((wrap64 (bt a0 x6_1)) < 128)), (true), (by first | rfl | (simp; done) | (simp only [← hji8] <;> (first | rfl | simp)) | (simp [*]; done)), (by first | rfl | (simp; done) | (simp [*]; done)), (by first | rfl | (simp; done) | (simp [*]; done)), (by first | rfl | (simp; done) | (simp [*]; done)), H', ⟨by have := HK1.out; first | omega | exact Nat.le_refl _⟩, by repeat (first | exact Drawn0.refl _ | apply Drawn0.step)⟩
        ·
         rw [if_neg c10] at H
         have c10b0 : ((wrap64 (x6_1 + 1)) == 4) = false := beq_eq_false_iff_ne.mpr c10
         have c10b1 : ((wrap64 (x6_1 + 1)) != 4) = true := bne_iff_ne.mpr c10
         (first | rw [c10b0] | (simp only [i64_w, i32_w]; rw [c10b0]) | skip)
         by_cases c13 : (wrap64 (bt a0 x6_1)) < 128
         ·
          rw [if_pos c13] at H
          have c13b0 : decide ((wrap64 (bt a0 x6_1)) < 128) = true := decide_eq_true c13
          clear c13
          by_cases c14 : (wrap64 (bt a0 x6_1)) = 0
          ·
           rw [if_pos c14] at H
           have c14b0 : ((wrap64 (bt a0 x6_1)) == 0) = true := beq_iff_eq.mpr c14
           have c14b1 : ((wrap64 (bt a0 x6_1)) != 0) = false := bne_eq_false_iff_eq.mpr c14
           clear c14
           have H' := Goto.m0 H
           clear H
           go_wp2_with (first | (with_reducible refine Goto.scope_enter ?_))
           go_meet
           case rel => exact ⟨_, (Go.bits .or .i64 x5_1 (ji8)), (wrap64 (x6_1 + 1)), (decide ((wrap64 (bt a0 x6_1)) < 128)), (decide ((wrap64 (x6_1 + 1)) > 1)), (by first | rfl | (simp; done) | (simp only [← hji8] <;> (first | rfl | simp)) | (simp [*]; done)), (by first | rfl | (simp; done) | (simp [*]; done)), (by first | rfl | (simp; done) | (simp [*]; done)), (by first | rfl | (simp; done) | (simp [*]; done)), H', ⟨by have := HK1.out; first | omega | exact Nat.le_refl _⟩, by repeat (first | exact Drawn0.refl _ | apply Drawn0.step)⟩
          ·
           rw [if_neg c14] at H
           have c14b0 : ((wrap64 (bt a0 x6_1)) == 0) = false := beq_eq_false_iff_ne.mpr c14
           have c14b1 : ((wrap64 (bt a0 x6_1)) != 0) = true := bne_iff_ne.mpr c14
           have H' := Goto.m0 H
           clear H
           go_wp2_with (first | (with_reducible refine Goto.scope_enter ?_))
           go_meet
           case rel => exact ⟨_, (Go.bits .or .i64 x5_1 (ji8)), (wrap64 (x6_1 + 1)), (decide ((wrap64 (bt a0 x6_1)) < 128)), (false), (by first | rfl | (simp; done) | (simp only [← hji8] <;> (first | rfl | simp)) | (simp [*]; done)), (by first | rfl | (simp; done) | (simp [*]; done)), (by first | rfl | (simp; done) | (simp [*]; done)), (by first | rfl | (simp; done) | (simp [*]; done)), H', ⟨by have := HK1.out; first | omega | exact Nat.le_refl _⟩, by repeat (first | exact Drawn0.refl _ | apply Drawn0.step)⟩
         ·
          rw [if_neg c13] at H
          have c13b0 : decide ((wrap64 (bt a0 x6_1)) < 128) = false := decide_eq_false c13
          clear c13
          have H' := Goto.m0 H
          clear H
          go_wp2_with (first | (with_reducible refine Goto.scope_enter ?_))
          go_meet
          case rel => exact ⟨_, (Go.bits .or .i64 x5_1 (ji8)), (wrap64 (x6_1 + 1)), (decide ((wrap64 (bt a0 x6_1)) < 128)), (false), (by first | rfl | (simp; done) | (simp only [← hji8] <;> (first | rfl | simp)) | (simp [*]; done)), (by first | rfl | (simp; done) | (simp [*]; done)), (by first | rfl | (simp; done) | (simp [*]; done)), (by first | rfl | (simp; done) | (simp [*]; done)), H', ⟨by have := HK1.out; first | omega | exact Nat.le_refl _⟩, by repeat (first | exact Drawn0.refl _ | apply Drawn0.step)⟩
       case rest =>
        clear HC9; try clear c1; try clear c2; try clear c2b0; try clear c2b1; try clear p2; try clear c3; try clear c3b0; try clear c4; try clear c4b0; try clear p5; try clear q5; try clear hx5; try clear p6; try clear c7; try clear c7b0; try clear c7b1; try clear c10; try clear c10b0; try clear c10b1; try clear c11; try clear c11b0; try clear c12; try clear c12b0; try clear c12b1; try clear c13; try clear c13b0; try clear c14; try clear c14b0; try clear c14b1; try clear p5; try clear q5
        obtain ⟨kq, x5_8, x6_8, x8_8, x45_8, rfl, rfl, rfl, rfl, HA, HJ8, ⟨mc8, rfl⟩⟩ := hcut
        cases kq with
        | zero => exact absurd HA.out (by simp [wire_number.j1])
        | succ kj8 =>
         have H := HA.out; clear HA
         simp only [wire_number.j1] at H
         by_cases c15 : x45_8 = true
         ·
          subst c15
          rw [if_pos rfl] at H
          simp only [Option.some.injEq, Prod.mk.injEq] at H
          obtain ⟨rfl, rfl, rfl⟩ := H
          go_wp2_with (first | (with_reducible refine Goto.scope_enter ?_))
          (try simp only [Exit.inBlock, Exit.then])
          (try refine Goto.ret_hit ?_)
          (try refine Goto.end_hit ?_)
          go_ret3
          exact ⟨by first | rfl | (simp; done) | (simp only [← hji6, ← hji8] <;> (first | rfl | simp)) | (simp [*]; done), by repeat (first | exact Drawn0.refl _ | apply Drawn0.step)⟩
         ·
          replace c15 := Bool.eq_false_iff.mpr c15
          subst c15
          rw [if_neg (show ¬ (false = true) by decide)] at H
          by_cases c16 : x8_8 = true
          ·
           subst c16
           rw [if_pos rfl] at H
           simp only [Option.some.injEq, Prod.mk.injEq] at H
           obtain ⟨rfl, rfl, rfl⟩ := H
           go_wp2_with (first | (with_reducible refine Goto.scope_enter ?_))
           (try simp only [Exit.inBlock, Exit.then])
           (try refine Goto.ret_hit ?_)
           (try refine Goto.end_hit ?_)
           go_ret3
           exact ⟨by first | rfl | (simp; done) | (simp only [← hji6, ← hji8] <;> (first | rfl | simp)) | (simp [*]; done), by repeat (first | exact Drawn0.refl _ | apply Drawn0.step)⟩
          ·
           replace c16 := Bool.eq_false_iff.mpr c16
           subst c16
           rw [if_neg (show ¬ (false = true) by decide)] at H
           have H' := Goto.m0 H
           clear H
           go_wp2_with (first | (with_reducible refine Goto.scope_enter ?_))
           refine wp_goto ?_
           (try simp only [Exit.then, Exit.inBlock])
           refine Goto.jump_hit ?_
           go_step
           go_roundg kj8
           case measure => have := HK1.out; have := HJ8.out; omega
           case rel => exact ⟨(x5_8), (x6_8), (by first | rfl | (simp; done) | (simp [*]; done)), (by first | rfl | (simp; done) | (simp [*]; done)), H', ⟨by have := HK1.out; have := HJ8.out; omega⟩, by repeat (first | exact Drawn0.refl _ | apply Drawn0.step)⟩
      ·
       rw [if_neg c7] at H
       exact absurd H (by simp)
     ·
      rw [if_neg c4] at H
      exact absurd H (by simp)
    ·
     rw [if_neg c3] at H
     exact absurd H (by simp)

end Go.Proofs.Ytiejhnijfgdapaa.P
