/- Printed by a program of this workplace (a turned copy of the kit's optional print), out of the translation; not trusted: Lean checks it. -/
import Derived.Test.YtbhfkhcedjgpdaaPx0
namespace Go.Proofs.Ytbhfkhcedjgpdaa.P
open Go.RowKit Go.Proofs.YtbhfkhcedjgpdaaW.PrintWords Go.Proofs.YtbhfkhcedjgpdaaW.PrintLast Go.Proofs.YtbhfkhcedjgpdaaW.PrintMore
attribute [local go_sem] max2_int min2_int max_two min_two max_three min_three max_four min_four   -- for this text's walks alone
set_option linter.unusedVariables false
set_option linter.unusedSimpArgs false

/-! ### tontineref15_First: function 25 -/
mutual
def tontineref15_First.l0 : Nat → List Int → List Bool → Int → Option (Int)
  | 0, _, _, _ => none
  | k + 1, x0, x1, x5 => if x5 < (x0.length : Int) then (if 0 ≤ x5 then (if (rd x0 x5) ≥ 0 then (if (rd x0 x5) < (x1.length : Int) then (if 0 ≤ (rd x0 x5) then (tontineref15_First.j1 k x0 x1 x5 (rd x0 x5) (rdOf false x1 (rd x0 x5))) else (none)) else (tontineref15_First.j1 k x0 x1 x5 (rd x0 x5) false)) else (tontineref15_First.j1 k x0 x1 x5 (rd x0 x5) false)) else (none)) else (some (-1))
def tontineref15_First.j1 : Nat → List Int → List Bool → Int → Int → Bool → Option (Int)
  | 0, _, _, _, _, _ => none
  | k + 1, x0, x1, x5, x6, x30 => if x30 = true then (some x6) else (tontineref15_First.l0 k x0 x1 (wrap64 (x5 + 1)))
end
def tontineref15_First.f (k : Nat) (l0 : List Int) (l1 : List Bool) : Option (Int) := tontineref15_First.l0 k l0 l1 0
theorem tontineref15_First.mono_l : ∀ k, (∀ y0 y1 y2, LeO (tontineref15_First.l0 k y0 y1 y2) (tontineref15_First.l0 (k + 1) y0 y1 y2)) ∧ (∀ y0 y1 y2 y3 y4, LeO (tontineref15_First.j1 k y0 y1 y2 y3 y4) (tontineref15_First.j1 (k + 1) y0 y1 y2 y3 y4))
  | 0 => ⟨fun _ _ _ r h => by simp [tontineref15_First.l0] at h, fun _ _ _ _ _ r h => by simp [tontineref15_First.j1] at h⟩
  | k + 1 => by
    obtain ⟨ih0, ih1⟩ := tontineref15_First.mono_l k
    refine ⟨?_, ?_⟩
    · intro y0 y1 y2
      unfold tontineref15_First.l0
      repeat' first
      | (with_reducible exact ih0 _ _ _)
      | (with_reducible exact ih1 _ _ _ _ _)
      | (with_reducible exact LeO.refl _)
      | (with_reducible exact LeO.none _)
      | (with_reducible refine LeO.ite ?_ ?_)
      | (with_reducible refine LeO.bind ?_ (fun _ => ?_))
      | exact ih0 _ _ _
      | exact ih1 _ _ _ _ _
      | exact LeO.none _
      | refine LeO.ite ?_ ?_
      | refine LeO.bind ?_ (fun _ => ?_)
    · intro y0 y1 y2 y3 y4
      unfold tontineref15_First.j1
      repeat' first
      | (with_reducible exact ih0 _ _ _)
      | (with_reducible exact ih1 _ _ _ _ _)
      | (with_reducible exact LeO.refl _)
      | (with_reducible exact LeO.none _)
      | (with_reducible refine LeO.ite ?_ ?_)
      | (with_reducible refine LeO.bind ?_ (fun _ => ?_))
      | exact ih0 _ _ _
      | exact ih1 _ _ _ _ _
      | exact LeO.none _
      | refine LeO.ite ?_ ?_
      | refine LeO.bind ?_ (fun _ => ?_)
theorem tontineref15_First.mono : ∀ a0 a1 k, LeO (tontineref15_First.f k a0 a1) (tontineref15_First.f (k + 1) a0 a1) := by
 intro a0 a1 k
 obtain ⟨ih0, ih1⟩ := tontineref15_First.mono_l k
 unfold tontineref15_First.f
 repeat' first
   | (with_reducible exact ih0 _ _ _)
   | (with_reducible exact ih1 _ _ _ _ _)
   | (with_reducible exact LeO.refl _)
   | (with_reducible exact LeO.none _)
   | (with_reducible refine LeO.ite ?_ ?_)
   | (with_reducible refine LeO.bind ?_ (fun _ => ?_))
   | exact ih0 _ _ _
   | exact ih1 _ _ _ _ _
   | exact LeO.none _
   | refine LeO.ite ?_ ?_
   | refine LeO.bind ?_ (fun _ => ?_)
set_option maxHeartbeats 8000000 in
set_option maxRecDepth 100000 in
theorem tontineref15_First.calls (k : Nat) (A0 : Option Addr) (c0 : Nat) (l0 : List Int) (A1 : Option Addr) (c1 : Nat) (l1 : List Bool) (r : Int) (w : World) (hr0 : Kd.C (Kd.int .i64) w A0 l0.length l0) (hc0 : l0.length ≤ c0) (hr1 : Kd.C Kd.bool w A1 l1.length l1) (hc1 : l1.length ≤ c1) (h : tontineref15_First.f k l0 l1 = some r) :
    Calls Try.prog 25 #[.slice A0 l0.length c0, .slice A1 l1.length c1] w fun e w' => e = .returned (.int .i64 r) ∧ Drawn0 w w' := by
 have HR0 := Goto.m0 hr0
 have HC0 := Goto.m0 hc0
 clear hr0 hc0
 have HR1 := Goto.m0 hr1
 have HC1 := Goto.m0 hc1
 clear hr1 hc1
 have H : (tontineref15_First.l0 k l0 l1 0) = some r := h
 clear h
 have H' := Goto.m0 H
 clear H
 go_enter Try.func25, Try.ntmps25
 go_wp2
 go_loopg [5] k (fun kq v5 w' => ∃ (x5_1 : Int), v5 = .int .i64 x5_1 ∧ Aside0 (tontineref15_First.l0 kq l0 l1 x5_1 = some r) ∧ Aside0 (kq ≤ k) ∧ Drawn0 w w')
 case atStart => exact ⟨(0), (by first | rfl | (simp; done) | (simp [*]; done)), H', ⟨Nat.le_refl _⟩, by repeat (first | exact Drawn0.refl _ | apply Drawn0.step)⟩
 case round =>
  clear H'
  try clear c1; try clear c2; try clear p2
  obtain ⟨x5_1, rfl, HA, HK1, ⟨m1, rfl⟩⟩ := hrel
  cases gk with
  | zero => exact absurd HA.out (by simp [tontineref15_First.l0])
  | succ k1 =>
   have H := HA.out; clear HA
   simp only [tontineref15_First.l0] at H
   by_cases c3 : x5_1 < (l0.length : Int)
   ·
    rw [if_pos c3] at H
    have c3b0 : decide (x5_1 < (l0.length : Int)) = true := decide_eq_true c3
    clear c3
    by_cases c4 : 0 ≤ x5_1
    ·
     rw [if_pos c4] at H
     have c4b0 : decide (0 ≤ x5_1) = true := decide_eq_true c4
     clear c4
     have HC5 := Goto.m0 H
     clear H
     have p347 : 0 ≤ (x5_1 : Int) := Goto.od
     have q347 : x5_1 < (l0.length : Int) := Goto.od
     obtain ⟨ad347, e347, hx347_0⟩ := Kd.at_int HR0.out x5_1 p347 q347
     cases e347
     replace p347 := eq_true p347; replace q347 := eq_true q347
     go_upto_region 5 with (fail)
     go_cut [30] (fun v30 wc => ∃ (kq : Nat) (x30_4 : Bool), v30 = .bool x30_4 ∧ Aside0 (tontineref15_First.j1 kq l0 l1 x5_1 (rd l0 x5_1) x30_4 = some r) ∧ Aside0 (kq ≤ k1) ∧ Drawn0 w wc)
     case first =>
      have H := HC5.out; clear HC5
      by_cases c6 : (rd l0 x5_1) ≥ 0
      ·
       rw [if_pos c6] at H
       have c6b0 : decide (0 ≤ (rd l0 x5_1)) = true := decide_eq_true c6
       clear c6
       (first | rw [c6b0] | (simp only [i64_w, i32_w]; rw [c6b0]) | skip)
       by_cases c7 : (rd l0 x5_1) < (l1.length : Int)
       ·
        rw [if_pos c7] at H
        have c7b0 : decide ((rd l0 x5_1) < (l1.length : Int)) = true := decide_eq_true c7
        clear c7
        by_cases c8 : 0 ≤ (rd l0 x5_1)
        ·
         rw [if_pos c8] at H
         have c8b0 : decide (0 ≤ (rd l0 x5_1)) = true := decide_eq_true c8
         clear c8
         have H' := Goto.m0 H
         clear H
         have p348 : 0 ≤ ((rd l0 x5_1) : Int) := Goto.od
         have q348 : (rd l0 x5_1) < (l1.length : Int) := Goto.od
         obtain ⟨ad348, e348, hx348_0⟩ := Kd.at_bool HR1.out (rd l0 x5_1) p348 q348
         cases e348
         replace p348 := eq_true p348; replace q348 := eq_true q348
         go_wp2
         go_meet
         case rel => exact ⟨_, (rdOf false l1 (rd l0 x5_1)), (by first | rfl | (simp; done) | (simp [*]; done)), H', ⟨by have := HK1.out; first | omega | exact Nat.le_refl _⟩, by repeat (first | exact Drawn0.refl _ | apply Drawn0.step)⟩
        ·
         rw [if_neg c8] at H
         exact absurd H (by simp)
       ·
        rw [if_neg c7] at H
        have c7b0 : decide ((rd l0 x5_1) < (l1.length : Int)) = false := decide_eq_false c7
        clear c7
        have H' := Goto.m0 H
        clear H
        go_wp2
        go_meet
        case rel => exact ⟨_, (false), (by first | rfl | (simp; done) | (simp [*]; done)), H', ⟨by have := HK1.out; first | omega | exact Nat.le_refl _⟩, by repeat (first | exact Drawn0.refl _ | apply Drawn0.step)⟩
      ·
       rw [if_neg c6] at H
       have c6b0 : decide (0 ≤ (rd l0 x5_1)) = false := decide_eq_false c6
       clear c6
       (first | rw [c6b0] | (simp only [i64_w, i32_w]; rw [c6b0]) | skip)
       have H' := Goto.m0 H
       clear H
       go_wp2
       go_meet
       case rel => exact ⟨_, (false), (by first | rfl | (simp; done) | (simp [*]; done)), H', ⟨by have := HK1.out; first | omega | exact Nat.le_refl _⟩, by repeat (first | exact Drawn0.refl _ | apply Drawn0.step)⟩
     case rest =>
      clear HC5; try clear c1; try clear c2; try clear p2; try clear c3; try clear c3b0; try clear p3; try clear q3; try clear hx3; try clear c4; try clear c4b0; try clear c6; try clear c6b0; try clear c7; try clear c7b0; try clear c8; try clear c8b0; try clear hx347_0; try clear hx348_0; try clear p2; try clear p347; try clear p348; try clear q347; try clear q348
      obtain ⟨kq, x30_4, rfl, HA, HJ4, ⟨mc4, rfl⟩⟩ := hcut
      cases kq with
      | zero => exact absurd HA.out (by simp [tontineref15_First.j1])
      | succ kj4 =>
       have H := HA.out; clear HA
       simp only [tontineref15_First.j1] at H
       by_cases c9 : x30_4 = true
       ·
        subst c9
        rw [if_pos rfl] at H
        obtain rfl := Option.some.inj H
        go_wp2
        go_ret
        exact ⟨by first | rfl | (simp; done) | (simp [*]; done), by repeat (first | exact Drawn0.refl _ | apply Drawn0.step)⟩
       ·
        replace c9 := Bool.eq_false_iff.mpr c9
        subst c9
        rw [if_neg (show ¬ (false = true) by decide)] at H
        have H' := Goto.m0 H
        clear H
        go_wp2
        go_roundg kj4
        case measure => have := HK1.out; have := HJ4.out; omega
        case rel => exact ⟨(wrap64 (x5_1 + 1)), (by first | rfl | (simp; done) | (simp [*]; done)), H', ⟨by have := HK1.out; have := HJ4.out; omega⟩, by repeat (first | exact Drawn0.refl _ | apply Drawn0.step)⟩
    ·
     rw [if_neg c4] at H
     exact absurd H (by simp)
   ·
    rw [if_neg c3] at H
    have c3b0 : decide (x5_1 < (l0.length : Int)) = false := decide_eq_false c3
    clear c3
    obtain rfl := Option.some.inj H
    go_wp2
    go_ret
    exact ⟨by first | rfl | (simp; done) | (simp [*]; done), by repeat (first | exact Drawn0.refl _ | apply Drawn0.step)⟩

end Go.Proofs.Ytbhfkhcedjgpdaa.P
