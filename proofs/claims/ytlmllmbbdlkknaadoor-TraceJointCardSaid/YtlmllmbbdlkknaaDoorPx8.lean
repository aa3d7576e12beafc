/- Printed by a program of this workplace (a turned copy of the kit's optional print), out of the translation; not trusted: Lean checks it. -/
import Derived.Test.YtlmllmbbdlkknaaDoorPx0
namespace Go.Proofs.YtlmllmbbdlkknaaDoor.P
open Go.RowKit Go.Proofs.YtlmllmbbdlkknaaDoorW.PrintWords Go.Proofs.YtlmllmbbdlkknaaDoorW.PrintLast Go.Proofs.YtlmllmbbdlkknaaDoorW.PrintMore
attribute [local go_sem] max2_int min2_int max_two min_two max_three min_three max_four min_four   -- for this text's walks alone
set_option linter.unusedVariables false
set_option linter.unusedSimpArgs false

/-! ### tontinehelp_WideConf: function 8 -/
mutual
def tontinehelp_WideConf.j0 : Nat → Bool → Int → Int → List (List Int) → List (S46) → Option (Bool)
  | 0, _, _, _, _, _ => none
  | k + 1, x15, x221000, x221001, x221002, x221003 => if x15 = true then (some true) else (tontinehelp_WideConf.l0 k 0 x221000 x221001 x221002 x221003)
def tontinehelp_WideConf.l0 : Nat → Int → Int → Int → List (List Int) → List (S46) → Option (Bool)
  | 0, _, _, _, _, _ => none
  | k + 1, x3, x221000, x221001, x221002, x221003 => if x3 < (x221002.length : Int) then (if 0 ≤ x3 then (if ((rd_L8 x221002 x3).length : Int) > 20 then (some true) else (tontinehelp_WideConf.l0 k (wrap64 (x3 + 1)) x221000 x221001 x221002 x221003)) else (none)) else (tontinehelp_WideConf.l1 k 0 x221000 x221001 x221002 x221003)
def tontinehelp_WideConf.l1 : Nat → Int → Int → Int → List (List Int) → List (S46) → Option (Bool)
  | 0, _, _, _, _, _ => none
  | k + 1, x4, x221000, x221001, x221002, x221003 => if x4 < (x221003.length : Int) then (if 0 ≤ x4 then (if (((rd_T46 x221003 x4).f1).length : Int) > 10 then (tontinehelp_WideConf.j3 k x4 true x221000 x221001 x221002 x221003) else (tontinehelp_WideConf.j3 k x4 (decide ((((rd_T46 x221003 x4).f2).length : Int) > 10)) x221000 x221001 x221002 x221003)) else (none)) else (some false)
def tontinehelp_WideConf.j3 : Nat → Int → Bool → Int → Int → List (List Int) → List (S46) → Option (Bool)
  | 0, _, _, _, _, _, _ => none
  | k + 1, x4, x54, x221000, x221001, x221002, x221003 => if x54 = true then (some true) else (tontinehelp_WideConf.l2 k x4 0 x221000 x221001 x221002 x221003)
def tontinehelp_WideConf.l2 : Nat → Int → Int → Int → Int → List (List Int) → List (S46) → Option (Bool)
  | 0, _, _, _, _, _, _ => none
  | k + 1, x4, x5, x221000, x221001, x221002, x221003 => if 0 ≤ x4 then (if x4 < (x221003.length : Int) then (if x5 < (((rd_T46 x221003 x4).f1).length : Int) then (if 0 ≤ x5 then (if ((rd_L8 ((rd_T46 x221003 x4).f1) x5).length : Int) > 20 then (some true) else (tontinehelp_WideConf.l2 k x4 (wrap64 (x5 + 1)) x221000 x221001 x221002 x221003)) else (none)) else (tontinehelp_WideConf.l1 k (wrap64 (x4 + 1)) x221000 x221001 x221002 x221003)) else (none)) else (none)
end
def tontinehelp_WideConf.f (k : Nat) (a0_0 : Int) (a0_1 : Int) (l0_2 : List (List Int)) (l0_3 : List (S46)) : Option (Bool) := if (l0_3.length : Int) > 10 then (tontinehelp_WideConf.j0 k true a0_0 a0_1 l0_2 l0_3) else (tontinehelp_WideConf.j0 k (decide ((l0_2.length : Int) > 10)) a0_0 a0_1 l0_2 l0_3)
theorem tontinehelp_WideConf.mono_l : ∀ k, (∀ y0 y1 y2 y3 y4, LeO (tontinehelp_WideConf.j0 k y0 y1 y2 y3 y4) (tontinehelp_WideConf.j0 (k + 1) y0 y1 y2 y3 y4)) ∧ (∀ y0 y1 y2 y3 y4, LeO (tontinehelp_WideConf.l0 k y0 y1 y2 y3 y4) (tontinehelp_WideConf.l0 (k + 1) y0 y1 y2 y3 y4)) ∧ (∀ y0 y1 y2 y3 y4, LeO (tontinehelp_WideConf.l1 k y0 y1 y2 y3 y4) (tontinehelp_WideConf.l1 (k + 1) y0 y1 y2 y3 y4)) ∧ (∀ y0 y1 y2 y3 y4 y5, LeO (tontinehelp_WideConf.j3 k y0 y1 y2 y3 y4 y5) (tontinehelp_WideConf.j3 (k + 1) y0 y1 y2 y3 y4 y5)) ∧ (∀ y0 y1 y2 y3 y4 y5, LeO (tontinehelp_WideConf.l2 k y0 y1 y2 y3 y4 y5) (tontinehelp_WideConf.l2 (k + 1) y0 y1 y2 y3 y4 y5))
  | 0 => ⟨fun _ _ _ _ _ r h => by simp [tontinehelp_WideConf.j0] at h, fun _ _ _ _ _ r h => by simp [tontinehelp_WideConf.l0] at h, fun _ _ _ _ _ r h => by simp [tontinehelp_WideConf.l1] at h, fun _ _ _ _ _ _ r h => by simp [tontinehelp_WideConf.j3] at h, fun _ _ _ _ _ _ r h => by simp [tontinehelp_WideConf.l2] at h⟩
  | k + 1 => by
    obtain ⟨ih0, ih1, ih2, ih3, ih4⟩ := tontinehelp_WideConf.mono_l k
    refine ⟨?_, ?_, ?_, ?_, ?_⟩
    · intro y0 y1 y2 y3 y4
      unfold tontinehelp_WideConf.j0
      repeat' first
      | (with_reducible exact ih0 _ _ _ _ _)
      | (with_reducible exact ih1 _ _ _ _ _)
      | (with_reducible exact ih2 _ _ _ _ _)
      | (with_reducible exact ih3 _ _ _ _ _ _)
      | (with_reducible exact ih4 _ _ _ _ _ _)
      | (with_reducible exact LeO.refl _)
      | (with_reducible exact LeO.none _)
      | (with_reducible refine LeO.ite ?_ ?_)
      | (with_reducible refine LeO.bind ?_ (fun _ => ?_))
      | exact ih0 _ _ _ _ _
      | exact ih1 _ _ _ _ _
      | exact ih2 _ _ _ _ _
      | exact ih3 _ _ _ _ _ _
      | exact ih4 _ _ _ _ _ _
      | exact LeO.none _
      | refine LeO.ite ?_ ?_
      | refine LeO.bind ?_ (fun _ => ?_)
    · intro y0 y1 y2 y3 y4
      unfold tontinehelp_WideConf.l0
      repeat' first
      | (with_reducible exact ih0 _ _ _ _ _)
      | (with_reducible exact ih1 _ _ _ _ _)
      | (with_reducible exact ih2 _ _ _ _ _)
      | (with_reducible exact ih3 _ _ _ _ _ _)
      | (with_reducible exact ih4 _ _ _ _ _ _)
      | (with_reducible exact LeO.refl _)
      | (with_reducible exact LeO.none _)
      | (with_reducible refine LeO.ite ?_ ?_)
      | (with_reducible refine LeO.bind ?_ (fun _ => ?_))
      | exact ih0 _ _ _ _ _
      | exact ih1 _ _ _ _ _
      | exact ih2 _ _ _ _ _
      | exact ih3 _ _ _ _ _ _
      | exact ih4 _ _ _ _ _ _
      | exact LeO.none _
      | refine LeO.ite ?_ ?_
      | refine LeO.bind ?_ (fun _ => ?_)
    · intro y0 y1 y2 y3 y4
      unfold tontinehelp_WideConf.l1
      repeat' first
      | (with_reducible exact ih0 _ _ _ _ _)
      | (with_reducible exact ih1 _ _ _ _ _)
      | (with_reducible exact ih2 _ _ _ _ _)
      | (with_reducible exact ih3 _ _ _ _ _ _)
      | (with_reducible exact ih4 _ _ _ _ _ _)
      | (with_reducible exact LeO.refl _)
      | (with_reducible exact LeO.none _)
      | (with_reducible refine LeO.ite ?_ ?_)
      | (with_reducible refine LeO.bind ?_ (fun _ => ?_))
      | exact ih0 _ _ _ _ _
      | exact ih1 _ _ _ _ _
      | exact ih2 _ _ _ _ _
      | exact ih3 _ _ _ _ _ _
      | exact ih4 _ _ _ _ _ _
      | exact LeO.none _
      | refine LeO.ite ?_ ?_
      | refine LeO.bind ?_ (fun _ => ?_)
    · intro y0 y1 y2 y3 y4 y5
      unfold tontinehelp_WideConf.j3
      repeat' first
      | (with_reducible exact ih0 _ _ _ _ _)
      | (with_reducible exact ih1 _ _ _ _ _)
      | (with_reducible exact ih2 _ _ _ _ _)
      | (with_reducible exact ih3 _ _ _ _ _ _)
      | (with_reducible exact ih4 _ _ _ _ _ _)
      | (with_reducible exact LeO.refl _)
      | (with_reducible exact LeO.none _)
      | (with_reducible refine LeO.ite ?_ ?_)
      | (with_reducible refine LeO.bind ?_ (fun _ => ?_))
      | exact ih0 _ _ _ _ _
      | exact ih1 _ _ _ _ _
      | exact ih2 _ _ _ _ _
      | exact ih3 _ _ _ _ _ _
      | exact ih4 _ _ _ _ _ _
      | exact LeO.none _
      | refine LeO.ite ?_ ?_
      | refine LeO.bind ?_ (fun _ => ?_)
    · intro y0 y1 y2 y3 y4 y5
      unfold tontinehelp_WideConf.l2
      repeat' first
      | (with_reducible exact ih0 _ _ _ _ _)
      | (with_reducible exact ih1 _ _ _ _ _)
      | (with_reducible exact ih2 _ _ _ _ _)
      | (with_reducible exact ih3 _ _ _ _ _ _)
      | (with_reducible exact ih4 _ _ _ _ _ _)
      | (with_reducible exact LeO.refl _)
      | (with_reducible exact LeO.none _)
      | (with_reducible refine LeO.ite ?_ ?_)
      | (with_reducible refine LeO.bind ?_ (fun _ => ?_))
      | exact ih0 _ _ _ _ _
      | exact ih1 _ _ _ _ _
      | exact ih2 _ _ _ _ _
      | exact ih3 _ _ _ _ _ _
      | exact ih4 _ _ _ _ _ _
      | exact LeO.none _
      | refine LeO.ite ?_ ?_
      | refine LeO.bind ?_ (fun _ => ?_)
theorem tontinehelp_WideConf.mono : ∀ a0 a1 a2 a3 k, LeO (tontinehelp_WideConf.f k a0 a1 a2 a3) (tontinehelp_WideConf.f (k + 1) a0 a1 a2 a3) := by
 intro a0 a1 a2 a3 k
 obtain ⟨ih0, ih1, ih2, ih3, ih4⟩ := tontinehelp_WideConf.mono_l k
 unfold tontinehelp_WideConf.f
 repeat' first
   | (with_reducible exact ih0 _ _ _ _ _)
   | (with_reducible exact ih1 _ _ _ _ _)
   | (with_reducible exact ih2 _ _ _ _ _)
   | (with_reducible exact ih3 _ _ _ _ _ _)
   | (with_reducible exact ih4 _ _ _ _ _ _)
   | (with_reducible exact LeO.refl _)
   | (with_reducible exact LeO.none _)
   | (with_reducible refine LeO.ite ?_ ?_)
   | (with_reducible refine LeO.bind ?_ (fun _ => ?_))
   | exact ih0 _ _ _ _ _
   | exact ih1 _ _ _ _ _
   | exact ih2 _ _ _ _ _
   | exact ih3 _ _ _ _ _ _
   | exact ih4 _ _ _ _ _ _
   | exact LeO.none _
   | refine LeO.ite ?_ ?_
   | refine LeO.bind ?_ (fun _ => ?_)
set_option maxHeartbeats 8000000 in
set_option maxRecDepth 100000 in
theorem tontinehelp_WideConf.calls (k : Nat) (a0_0 : Int) (a0_1 : Int) (A0_2 : Option Addr) (c0_2 : Nat) (l0_2 : List (List Int)) (A0_3 : Option Addr) (c0_3 : Nat) (l0_3 : List (S46)) (r : Bool) (w : World) (hr0_2 : Kd.C (Kd.slice 3 (Kd.int .i64)) w A0_2 l0_2.length l0_2) (hc0_2 : l0_2.length ≤ c0_2) (hr0_3 : Kd.C k46 w A0_3 l0_3.length l0_3) (hc0_3 : l0_3.length ≤ c0_3) (h : tontinehelp_WideConf.f k a0_0 a0_1 l0_2 l0_3 = some r) :
    Calls Tryd.prog 8 #[.agg #[.int .i64 a0_0, .int .i64 a0_1, .slice A0_2 l0_2.length c0_2, .slice A0_3 l0_3.length c0_3]] w fun e w' => e = .returned (.bool r) ∧ Below w.heap.size w w' := by
 have hu25 := Tryd.underlying25
 have HR0_2 := Goto.m0 hr0_2
 have HC0_2 := Goto.m0 hc0_2
 clear hr0_2 hc0_2
 have HR0_3 := Goto.m0 hr0_3
 have HC0_3 := Goto.m0 hc0_3
 clear hr0_3 hc0_3
 have HB := Goto.m0 (Below.refl w.heap.size w)
 have H : (if (l0_3.length : Int) > 10 then (tontinehelp_WideConf.j0 k true a0_0 a0_1 l0_2 l0_3) else (tontinehelp_WideConf.j0 k (decide ((l0_2.length : Int) > 10)) a0_0 a0_1 l0_2 l0_3)) = some r := h
 clear h
 have HC2 := Goto.m0 H
 clear H
 go_enter Tryd.func8, Tryd.ntmps8
 go_upto_region 1 with (first | ((with_reducible refine gate_dst (N := 1) rfl ?_); (try (refine gate_guard (by rfl) ?_; dsimp only)); refine box_event ?hg (N := 1) ?hd (cs := #[.int .i64 a0_0, .int .i64 a0_1, .slice A0_2 l0_2.length c0_2, .slice A0_3 l0_3.length c0_3]) (t := 25) ?hr ?_; (case hd => rfl); (case hg => rfl); (case hr => first | (go_simp; done) | (go_simp; rfl)); intro gb220 hg w3 hbox hb; have BK220 := Goto.m0 (hbox); have GW220 := Goto.gs HB hg; have GE220 := Goto.gs HB hg; replace HB := Goto.hs HB hb; clear hb hbox hg))
 (try simp only [Act.put, List.setIfInBounds_toArray, List.set_cons_zero, List.set_cons_succ])
 go_cut [15] (fun v15 wc => ∃ (kq : Nat) (x15_1 : Bool), v15 = .bool x15_1 ∧ Aside0 (tontinehelp_WideConf.j0 kq x15_1 a0_0 a0_1 l0_2 l0_3 = some r) ∧ Aside0 (kq ≤ k) ∧ Aside0 (wc.heap[gb220]? = some (.cells #[.int .i64 a0_0, .int .i64 a0_1, (.slice A0_2 l0_2.length c0_2), (.slice A0_3 l0_3.length c0_3)] 25 (0, 0))) ∧ Aside0 (Below w.heap.size w wc))
 case first =>
  have H := HC2.out; clear HC2
  by_cases c4 : (l0_3.length : Int) > 10
  ·
   rw [if_pos c4] at H
   have c4b0 : decide (10 < (l0_3.length : Int)) = true := decide_eq_true c4
   have c4b1 : decide (10 < l0_3.length) = true := decide_eq_true (by omega)
   clear c4
   (first | rw [c4b0] | (simp only [i64_w, i32_w]; rw [c4b0]) | skip)
   have H' := Goto.m0 H
   clear H; have hcz5_0 := Goto.bc0 BK220; have hcz5_1 := Goto.bc1 BK220; have hcz5_2 := Goto.bc2 BK220; have hcz5_3 := Goto.bc3 BK220; have hfz5_0 := Goto.bf BK220 0; have hfz5_1 := Goto.bf BK220 1; have hfz5_2 := Goto.bf BK220 2; have hfz5_3 := Goto.bf BK220 3
   go_wp2
   go_meet
   case rel => exact ⟨_, (true), (by first | rfl | (simp; done) | (simp [*]; done)), H', ⟨by first | omega | exact Nat.le_refl _⟩, ⟨Goto.bx BK220⟩, ⟨Goto.hx HB⟩⟩
  ·
   rw [if_neg c4] at H
   have c4b0 : decide (10 < (l0_3.length : Int)) = false := decide_eq_false c4
   have c4b1 : decide (10 < l0_3.length) = false := decide_eq_false (by omega)
   clear c4
   (first | rw [c4b0] | (simp only [i64_w, i32_w]; rw [c4b0]) | skip)
   have H' := Goto.m0 H
   clear H; have hcz6_0 := Goto.bc0 BK220; have hcz6_1 := Goto.bc1 BK220; have hcz6_2 := Goto.bc2 BK220; have hcz6_3 := Goto.bc3 BK220; have hfz6_0 := Goto.bf BK220 0; have hfz6_1 := Goto.bf BK220 1; have hfz6_2 := Goto.bf BK220 2; have hfz6_3 := Goto.bf BK220 3
   go_wp2
   go_meet
   case rel => exact ⟨_, (decide ((l0_2.length : Int) > 10)), (by first | rfl | (simp; done) | (simp [*]; done)), H', ⟨by first | omega | exact Nat.le_refl _⟩, ⟨Goto.bx BK220⟩, ⟨Goto.hx HB⟩⟩
 case rest =>
  clear HC2; try clear p2; try clear c4; try clear c4b0; try clear c4b1; try clear hcz5_0; try clear hcz5_1; try clear hcz5_2; try clear hcz5_3; try clear hcz6_0; try clear hcz6_1; try clear hcz6_2; try clear hcz6_3; try clear hfz5_0; try clear hfz5_1; try clear hfz5_2; try clear hfz5_3; try clear hfz6_0; try clear hfz6_1; try clear hfz6_2; try clear hfz6_3
  obtain ⟨kq, x15_1, rfl, HA, HJ1, BK220, HB⟩ := hcut
  cases kq with
  | zero => exact absurd HA.out (by simp [tontinehelp_WideConf.j0])
  | succ kj1 =>
   have H := HA.out; clear HA
   simp only [tontinehelp_WideConf.j0] at H
   by_cases c7 : x15_1 = true
   ·
    subst c7
    rw [if_pos rfl] at H
    obtain rfl := Option.some.inj H
    go_wp2
    go_ret
    exact ⟨Goto.er, by repeat (first | (with_reducible first | exact HB.out | apply below_alloc | apply pw_below_drewN | apply below_drew1 | refine below_set ?_ GE220.out) | exact HB.out)⟩
   ·
    replace c7 := Bool.eq_false_iff.mpr c7
    subst c7
    rw [if_neg (show ¬ (false = true) by decide)] at H
    have H' := Goto.m0 H
    clear H
    go_wp2
    go_loopg [3] kj1 (fun kq v3 w' => ∃ (x3_2 : Int), v3 = .int .i64 x3_2 ∧ Aside0 (tontinehelp_WideConf.l0 kq x3_2 a0_0 a0_1 l0_2 l0_3 = some r) ∧ Aside0 (kq ≤ kj1) ∧ Aside0 (w'.heap[gb220]? = some (.cells #[.int .i64 a0_0, .int .i64 a0_1, (.slice A0_2 l0_2.length c0_2), (.slice A0_3 l0_3.length c0_3)] 25 (0, 0))) ∧ Aside0 (Below w.heap.size w w'))
    case atStart => exact ⟨(0), (by first | rfl | (simp; done) | (simp [*]; done)), H', ⟨Nat.le_refl _⟩, ⟨Goto.bx BK220⟩, ⟨Goto.hx HB⟩⟩
    case round =>
     clear H'
     try clear p2; try clear c4; try clear c4b0; try clear c4b1; try clear c7; try clear hcz5_0; try clear hcz5_1; try clear hcz5_2; try clear hcz5_3; try clear hcz6_0; try clear hcz6_1; try clear hcz6_2; try clear hcz6_3; try clear hfz5_0; try clear hfz5_1; try clear hfz5_2; try clear hfz5_3; try clear hfz6_0; try clear hfz6_1; try clear hfz6_2; try clear hfz6_3; try clear p2
     obtain ⟨x3_2, rfl, HA, HK2, BK220, HB⟩ := hrel
     cases gk with
     | zero => exact absurd HA.out (by simp [tontinehelp_WideConf.l0])
     | succ k2 =>
      have H := HA.out; clear HA
      simp only [tontinehelp_WideConf.l0] at H
      by_cases c8 : x3_2 < (l0_2.length : Int)
      ·
       rw [if_pos c8] at H
       have c8b0 : decide (x3_2 < (l0_2.length : Int)) = true := decide_eq_true c8
       clear c8
       by_cases c9 : 0 ≤ x3_2
       ·
        rw [if_pos c9] at H
        have c9b0 : decide (0 ≤ x3_2) = true := decide_eq_true c9
        clear c9
        by_cases c10 : ((rd_L8 l0_2 x3_2).length : Int) > 20
        ·
         rw [if_pos c10] at H
         have c10b0 : decide (20 < ((rd_L8 l0_2 x3_2).length : Int)) = true := decide_eq_true c10
         have c10b1 : decide (20 < (rd_L8 l0_2 x3_2).length) = true := decide_eq_true (by omega)
         clear c10
         obtain rfl := Option.some.inj H
         have hcz11_0 := Goto.bc0 BK220; have hcz11_1 := Goto.bc1 BK220; have hcz11_2 := Goto.bc2 BK220; have hcz11_3 := Goto.bc3 BK220; have hfz11_0 := Goto.bf BK220 0; have hfz11_1 := Goto.bf BK220 1; have hfz11_2 := Goto.bf BK220 2; have hfz11_3 := Goto.bf BK220 3
         have p221 : 0 ≤ (x3_2 : Int) := Goto.od
         have q221 : x3_2 < (l0_2.length : Int) := Goto.od
         obtain ⟨ad221, A221_0, c221_0, e221, hx221_0, hl221_0, hi221_0⟩ := at_L8 HR0_2.out x3_2 p221 q221
         cases e221
         replace hx221_0 := Goto.kc HB.out hx221_0
         have HR221_0 := Goto.m0 hi221_0
         have HC221_0 := Goto.m0 hl221_0
         clear hi221_0 hl221_0; replace p221 := eq_true p221; replace q221 := eq_true q221
         go_wp2
         go_ret
         exact ⟨Goto.er, by repeat (first | (with_reducible first | exact HB.out | apply below_alloc | apply pw_below_drewN | apply below_drew1 | refine below_set ?_ GE220.out) | exact HB.out)⟩
        ·
         rw [if_neg c10] at H
         have c10b0 : decide (20 < ((rd_L8 l0_2 x3_2).length : Int)) = false := decide_eq_false c10
         have c10b1 : decide (20 < (rd_L8 l0_2 x3_2).length) = false := decide_eq_false (by omega)
         clear c10
         have H' := Goto.m0 H
         clear H; have hcz12_0 := Goto.bc0 BK220; have hcz12_1 := Goto.bc1 BK220; have hcz12_2 := Goto.bc2 BK220; have hcz12_3 := Goto.bc3 BK220; have hfz12_0 := Goto.bf BK220 0; have hfz12_1 := Goto.bf BK220 1; have hfz12_2 := Goto.bf BK220 2; have hfz12_3 := Goto.bf BK220 3
         have p221 : 0 ≤ (x3_2 : Int) := Goto.od
         have q221 : x3_2 < (l0_2.length : Int) := Goto.od
         obtain ⟨ad221, A221_0, c221_0, e221, hx221_0, hl221_0, hi221_0⟩ := at_L8 HR0_2.out x3_2 p221 q221
         cases e221
         replace hx221_0 := Goto.kc HB.out hx221_0
         have HR221_0 := Goto.m0 hi221_0
         have HC221_0 := Goto.m0 hl221_0
         clear hi221_0 hl221_0; replace p221 := eq_true p221; replace q221 := eq_true q221
         go_wp2
         go_roundg k2
         case measure => have := HJ1.out; have := HK2.out; omega
         case rel => exact ⟨(wrap64 (x3_2 + 1)), (by first | rfl | (simp; done) | (simp [*]; done)), H', ⟨by have := HJ1.out; have := HK2.out; omega⟩, ⟨Goto.bx BK220⟩, ⟨Goto.hx HB⟩⟩
       ·
        rw [if_neg c9] at H
        exact absurd H (by simp)
      ·
       rw [if_neg c8] at H
       have c8b0 : decide (x3_2 < (l0_2.length : Int)) = false := decide_eq_false c8
       clear c8
       have H' := Goto.m0 H
       clear H; have hcz13_0 := Goto.bc0 BK220; have hcz13_1 := Goto.bc1 BK220; have hcz13_2 := Goto.bc2 BK220; have hcz13_3 := Goto.bc3 BK220; have hfz13_0 := Goto.bf BK220 0; have hfz13_1 := Goto.bf BK220 1; have hfz13_2 := Goto.bf BK220 2; have hfz13_3 := Goto.bf BK220 3
       go_wp2
       go_loopg [4] k2 (fun kq v4 w' => ∃ (x4_3 : Int), v4 = .int .i64 x4_3 ∧ Aside0 (tontinehelp_WideConf.l1 kq x4_3 a0_0 a0_1 l0_2 l0_3 = some r) ∧ Aside0 (kq ≤ k2) ∧ Aside0 (w'.heap[gb220]? = some (.cells #[.int .i64 a0_0, .int .i64 a0_1, (.slice A0_2 l0_2.length c0_2), (.slice A0_3 l0_3.length c0_3)] 25 (0, 0))) ∧ Aside0 (Below w.heap.size w w'))
       case atStart => exact ⟨(0), (by first | rfl | (simp; done) | (simp [*]; done)), H', ⟨Nat.le_refl _⟩, ⟨Goto.bx BK220⟩, ⟨Goto.hx HB⟩⟩
       case round =>
        clear H'
        try clear c1; try clear c2; try clear p2; try clear q2; try clear hx2; try clear c4; try clear c4b0; try clear c4b1; try clear p6; try clear c7; try clear c8; try clear c8b0; try clear c9; try clear c9b0; try clear c10; try clear c10b0; try clear c10b1; try clear hcz11_0; try clear hcz11_1; try clear hcz11_2; try clear hcz11_3; try clear hcz12_0; try clear hcz12_1; try clear hcz12_2; try clear hcz12_3; try clear hcz13_0; try clear hcz13_1; try clear hcz13_2; try clear hcz13_3; try clear hcz5_0; try clear hcz5_1; try clear hcz5_2; try clear hcz5_3; try clear hcz6_0; try clear hcz6_1; try clear hcz6_2; try clear hcz6_3; try clear hfz11_0; try clear hfz11_1; try clear hfz11_2; try clear hfz11_3; try clear hfz12_0; try clear hfz12_1; try clear hfz12_2; try clear hfz12_3; try clear hfz13_0; try clear hfz13_1; try clear hfz13_2; try clear hfz13_3; try clear hfz5_0; try clear hfz5_1; try clear hfz5_2; try clear hfz5_3; try clear hfz6_0; try clear hfz6_1; try clear hfz6_2; try clear hfz6_3; try clear hx221_0; try clear p2; try clear p221; try clear q221
        obtain ⟨x4_3, rfl, HA, HK3, BK220, HB⟩ := hrel
        cases gk with
        | zero => exact absurd HA.out (by simp [tontinehelp_WideConf.l1])
        | succ k3 =>
         have H := HA.out; clear HA
         simp only [tontinehelp_WideConf.l1] at H
         by_cases c14 : x4_3 < (l0_3.length : Int)
         ·
          rw [if_pos c14] at H
          have c14b0 : decide (x4_3 < (l0_3.length : Int)) = true := decide_eq_true c14
          clear c14
          have HC15 := Goto.m0 H
          clear H; have hcz16_0 := Goto.bc0 BK220; have hcz16_1 := Goto.bc1 BK220; have hcz16_2 := Goto.bc2 BK220; have hcz16_3 := Goto.bc3 BK220; have hfz16_0 := Goto.bf BK220 0; have hfz16_1 := Goto.bf BK220 1; have hfz16_2 := Goto.bf BK220 2; have hfz16_3 := Goto.bf BK220 3
          go_upto_region 11 with (fail)
          go_cut [54] (fun v54 wc => ∃ (kq : Nat) (x54_14 : Bool), v54 = .bool x54_14 ∧ Aside0 (tontinehelp_WideConf.j3 kq x4_3 x54_14 a0_0 a0_1 l0_2 l0_3 = some r) ∧ Aside0 (kq ≤ k3) ∧ Aside0 (wc.heap[gb220]? = some (.cells #[.int .i64 a0_0, .int .i64 a0_1, (.slice A0_2 l0_2.length c0_2), (.slice A0_3 l0_3.length c0_3)] 25 (0, 0))) ∧ Aside0 (Below w.heap.size w wc))
          case first =>
           have H := HC15.out; clear HC15
           by_cases c17 : 0 ≤ x4_3
           ·
            rw [if_pos c17] at H
            have c17b0 : decide (0 ≤ x4_3) = true := decide_eq_true c17
            clear c17
            (first | rw [c17b0] | (simp only [i64_w, i32_w]; rw [c17b0]) | skip)
            by_cases c18 : (((rd_T46 l0_3 x4_3).f1).length : Int) > 10
            ·
             rw [if_pos c18] at H
             have c18b0 : decide (10 < (((rd_T46 l0_3 x4_3).f1).length : Int)) = true := decide_eq_true c18
             have c18b1 : decide (10 < ((rd_T46 l0_3 x4_3).f1).length) = true := decide_eq_true (by omega)
             clear c18
             have H' := Goto.m0 H
             clear H; have hcz19_0 := Goto.bc0 BK220; have hcz19_1 := Goto.bc1 BK220; have hcz19_2 := Goto.bc2 BK220; have hcz19_3 := Goto.bc3 BK220; have hfz19_0 := Goto.bf BK220 0; have hfz19_1 := Goto.bf BK220 1; have hfz19_2 := Goto.bf BK220 2; have hfz19_3 := Goto.bf BK220 3
             have p222 : 0 ≤ (x4_3 : Int) := Goto.od
             have q222 : x4_3 < (l0_3.length : Int) := Goto.od
             obtain ⟨ad222, A222_2, c222_2, A222_3, c222_3, e222, hx222_0, hx222_1, hx222_2, hx222_3, hx222_4, hx222_5, hx222_6, hx222_7, hx222_8, hx222_9, hl222_2, hi222_2, hl222_3, hi222_3⟩ := at_T46 HR0_3.out x4_3 p222 q222
             cases e222
             replace hx222_0 := Goto.kc HB.out hx222_0
             replace hx222_1 := Goto.kc HB.out hx222_1
             replace hx222_2 := Goto.kc HB.out hx222_2
             replace hx222_3 := Goto.kc HB.out hx222_3
             replace hx222_4 := Goto.kc HB.out hx222_4
             replace hx222_5 := Goto.kc HB.out hx222_5
             replace hx222_6 := Goto.kc HB.out hx222_6
             replace hx222_7 := Goto.kc HB.out hx222_7
             replace hx222_8 := Goto.kc HB.out hx222_8
             replace hx222_9 := Goto.kc HB.out hx222_9
             have HR222_2 := Goto.m0 hi222_2
             have HC222_2 := Goto.m0 hl222_2
             clear hi222_2 hl222_2
             have HR222_3 := Goto.m0 hi222_3
             have HC222_3 := Goto.m0 hl222_3
             clear hi222_3 hl222_3; replace p222 := eq_true p222; replace q222 := eq_true q222
             go_wp2
             go_meet
             case rel => exact ⟨_, (true), (by first | rfl | (simp; done) | (simp [*]; done)), H', ⟨by have := HJ1.out; have := HK2.out; have := HK3.out; first | omega | exact Nat.le_refl _⟩, ⟨Goto.bx BK220⟩, ⟨Goto.hx HB⟩⟩
            ·
             rw [if_neg c18] at H
             have c18b0 : decide (10 < (((rd_T46 l0_3 x4_3).f1).length : Int)) = false := decide_eq_false c18
             have c18b1 : decide (10 < ((rd_T46 l0_3 x4_3).f1).length) = false := decide_eq_false (by omega)
             clear c18
             have H' := Goto.m0 H
             clear H; have hcz20_0 := Goto.bc0 BK220; have hcz20_1 := Goto.bc1 BK220; have hcz20_2 := Goto.bc2 BK220; have hcz20_3 := Goto.bc3 BK220; have hfz20_0 := Goto.bf BK220 0; have hfz20_1 := Goto.bf BK220 1; have hfz20_2 := Goto.bf BK220 2; have hfz20_3 := Goto.bf BK220 3
             have p222 : 0 ≤ (x4_3 : Int) := Goto.od
             have q222 : x4_3 < (l0_3.length : Int) := Goto.od
             obtain ⟨ad222, A222_2, c222_2, A222_3, c222_3, e222, hx222_0, hx222_1, hx222_2, hx222_3, hx222_4, hx222_5, hx222_6, hx222_7, hx222_8, hx222_9, hl222_2, hi222_2, hl222_3, hi222_3⟩ := at_T46 HR0_3.out x4_3 p222 q222
             cases e222
             replace hx222_0 := Goto.kc HB.out hx222_0
             replace hx222_1 := Goto.kc HB.out hx222_1
             replace hx222_2 := Goto.kc HB.out hx222_2
             replace hx222_3 := Goto.kc HB.out hx222_3
             replace hx222_4 := Goto.kc HB.out hx222_4
             replace hx222_5 := Goto.kc HB.out hx222_5
             replace hx222_6 := Goto.kc HB.out hx222_6
             replace hx222_7 := Goto.kc HB.out hx222_7
             replace hx222_8 := Goto.kc HB.out hx222_8
             replace hx222_9 := Goto.kc HB.out hx222_9
             have HR222_2 := Goto.m0 hi222_2
             have HC222_2 := Goto.m0 hl222_2
             clear hi222_2 hl222_2
             have HR222_3 := Goto.m0 hi222_3
             have HC222_3 := Goto.m0 hl222_3
             clear hi222_3 hl222_3; replace p222 := eq_true p222; replace q222 := eq_true q222
             have p223 : 0 ≤ (x4_3 : Int) := Goto.od
             have q223 : x4_3 < (l0_3.length : Int) := Goto.od
             obtain ⟨ad223, A223_2, c223_2, A223_3, c223_3, e223, hx223_0, hx223_1, hx223_2, hx223_3, hx223_4, hx223_5, hx223_6, hx223_7, hx223_8, hx223_9, hl223_2, hi223_2, hl223_3, hi223_3⟩ := at_T46 HR0_3.out x4_3 p223 q223
             obtain rfl : ad222 = ad223 := (by injection e223)
             replace hx223_0 := Goto.kc HB.out hx223_0
             replace hx223_1 := Goto.kc HB.out hx223_1
             replace hx223_2 := Goto.kc HB.out hx223_2
             replace hx223_3 := Goto.kc HB.out hx223_3
             replace hx223_4 := Goto.kc HB.out hx223_4
             replace hx223_5 := Goto.kc HB.out hx223_5
             replace hx223_6 := Goto.kc HB.out hx223_6
             replace hx223_7 := Goto.kc HB.out hx223_7
             replace hx223_8 := Goto.kc HB.out hx223_8
             replace hx223_9 := Goto.kc HB.out hx223_9
             have HR223_2 := Goto.m0 hi223_2
             have HC223_2 := Goto.m0 hl223_2
             clear hi223_2 hl223_2
             have HR223_3 := Goto.m0 hi223_3
             have HC223_3 := Goto.m0 hl223_3
             clear hi223_3 hl223_3; replace p223 := eq_true p223; replace q223 := eq_true q223
             have ea_ := Option.some.inj (hx222_2.symm.trans hx223_2)
             injection ea_ with ea_ en_ ec_
             subst ea_
             subst ec_
             clear en_
             have ea_ := Option.some.inj (hx222_3.symm.trans hx223_3)
             injection ea_ with ea_ en_ ec_
             subst ea_
             subst ec_
             clear en_
             go_wp2
             go_meet
             case rel => exact ⟨_, (decide ((((rd_T46 l0_3 x4_3).f2).length : Int) > 10)), (by first | rfl | (simp; done) | (simp [*]; done)), H', ⟨by have := HJ1.out; have := HK2.out; have := HK3.out; first | omega | exact Nat.le_refl _⟩, ⟨Goto.bx BK220⟩, ⟨Goto.hx HB⟩⟩
           ·
            rw [if_neg c17] at H
            exact absurd H (by simp)
          case rest =>
           clear HC15; try clear c1; try clear c2; try clear p2; try clear q2; try clear hx2; try clear c4; try clear c4b0; try clear c4b1; try clear p6; try clear c7; try clear c8; try clear c8b0; try clear c9; try clear c9b0; try clear c10; try clear c10b0; try clear c10b1; try clear c14; try clear c14b0; try clear c17; try clear c17b0; try clear c18; try clear c18b0; try clear c18b1; try clear hcz11_0; try clear hcz11_1; try clear hcz11_2; try clear hcz11_3; try clear hcz12_0; try clear hcz12_1; try clear hcz12_2; try clear hcz12_3; try clear hcz13_0; try clear hcz13_1; try clear hcz13_2; try clear hcz13_3; try clear hcz16_0; try clear hcz16_1; try clear hcz16_2; try clear hcz16_3; try clear hcz19_0; try clear hcz19_1; try clear hcz19_2; try clear hcz19_3; try clear hcz20_0; try clear hcz20_1; try clear hcz20_2; try clear hcz20_3; try clear hcz5_0; try clear hcz5_1; try clear hcz5_2; try clear hcz5_3; try clear hcz6_0; try clear hcz6_1; try clear hcz6_2; try clear hcz6_3; try clear hfz11_0; try clear hfz11_1; try clear hfz11_2; try clear hfz11_3; try clear hfz12_0; try clear hfz12_1; try clear hfz12_2; try clear hfz12_3; try clear hfz13_0; try clear hfz13_1; try clear hfz13_2; try clear hfz13_3; try clear hfz16_0; try clear hfz16_1; try clear hfz16_2; try clear hfz16_3; try clear hfz19_0; try clear hfz19_1; try clear hfz19_2; try clear hfz19_3; try clear hfz20_0; try clear hfz20_1; try clear hfz20_2; try clear hfz20_3; try clear hfz5_0; try clear hfz5_1; try clear hfz5_2; try clear hfz5_3; try clear hfz6_0; try clear hfz6_1; try clear hfz6_2; try clear hfz6_3; try clear hx221_0; try clear hx222_0; try clear hx222_1; try clear hx222_2; try clear hx222_3; try clear hx222_4; try clear hx222_5; try clear hx222_6; try clear hx222_7; try clear hx222_8; try clear hx222_9; try clear hx223_0; try clear hx223_1; try clear hx223_2; try clear hx223_3; try clear hx223_4; try clear hx223_5; try clear hx223_6; try clear hx223_7; try clear hx223_8; try clear hx223_9; try clear p2; try clear p221; try clear p222; try clear p223; try clear p6; try clear q2; try clear q221; try clear q222; try clear q223
           obtain ⟨kq, x54_14, rfl, HA, HJ14, BK220, HB⟩ := hcut
           cases kq with
           | zero => exact absurd HA.out (by simp [tontinehelp_WideConf.j3])
           | succ kj14 =>
            have H := HA.out; clear HA
            simp only [tontinehelp_WideConf.j3] at H
            by_cases c21 : x54_14 = true
            ·
             subst c21
             rw [if_pos rfl] at H
             obtain rfl := Option.some.inj H
             go_wp2
             go_ret
             exact ⟨Goto.er, by repeat (first | (with_reducible first | exact HB.out | apply below_alloc | apply pw_below_drewN | apply below_drew1 | refine below_set ?_ GE220.out) | exact HB.out)⟩
            ·
             replace c21 := Bool.eq_false_iff.mpr c21
             subst c21
             rw [if_neg (show ¬ (false = true) by decide)] at H
             have H' := Goto.m0 H
             clear H
             go_wp2
             go_loopg [5] kj14 (fun kq v5 w' => ∃ (x5_5 : Int), v5 = .int .i64 x5_5 ∧ Aside0 (tontinehelp_WideConf.l2 kq x4_3 x5_5 a0_0 a0_1 l0_2 l0_3 = some r) ∧ Aside0 (kq ≤ kj14) ∧ Aside0 (w'.heap[gb220]? = some (.cells #[.int .i64 a0_0, .int .i64 a0_1, (.slice A0_2 l0_2.length c0_2), (.slice A0_3 l0_3.length c0_3)] 25 (0, 0))) ∧ Aside0 (Below w.heap.size w w'))
             case atStart => exact ⟨(0), (by first | rfl | (simp; done) | (simp [*]; done)), H', ⟨Nat.le_refl _⟩, ⟨Goto.bx BK220⟩, ⟨Goto.hx HB⟩⟩
             case round =>
              clear H'
              try clear c1; try clear c2; try clear p2; try clear q2; try clear hx2; try clear c4; try clear c4b0; try clear c4b1; try clear p6; try clear c7; try clear c8; try clear c8b0; try clear c9; try clear c9b0; try clear c10; try clear c10b0; try clear c10b1; try clear c14; try clear c14b0; try clear c17; try clear c17b0; try clear c18; try clear c18b0; try clear c18b1; try clear c21; try clear hcz11_0; try clear hcz11_1; try clear hcz11_2; try clear hcz11_3; try clear hcz12_0; try clear hcz12_1; try clear hcz12_2; try clear hcz12_3; try clear hcz13_0; try clear hcz13_1; try clear hcz13_2; try clear hcz13_3; try clear hcz16_0; try clear hcz16_1; try clear hcz16_2; try clear hcz16_3; try clear hcz19_0; try clear hcz19_1; try clear hcz19_2; try clear hcz19_3; try clear hcz20_0; try clear hcz20_1; try clear hcz20_2; try clear hcz20_3; try clear hcz5_0; try clear hcz5_1; try clear hcz5_2; try clear hcz5_3; try clear hcz6_0; try clear hcz6_1; try clear hcz6_2; try clear hcz6_3; try clear hfz11_0; try clear hfz11_1; try clear hfz11_2; try clear hfz11_3; try clear hfz12_0; try clear hfz12_1; try clear hfz12_2; try clear hfz12_3; try clear hfz13_0; try clear hfz13_1; try clear hfz13_2; try clear hfz13_3; try clear hfz16_0; try clear hfz16_1; try clear hfz16_2; try clear hfz16_3; try clear hfz19_0; try clear hfz19_1; try clear hfz19_2; try clear hfz19_3; try clear hfz20_0; try clear hfz20_1; try clear hfz20_2; try clear hfz20_3; try clear hfz5_0; try clear hfz5_1; try clear hfz5_2; try clear hfz5_3; try clear hfz6_0; try clear hfz6_1; try clear hfz6_2; try clear hfz6_3; try clear hx221_0; try clear hx222_0; try clear hx222_1; try clear hx222_2; try clear hx222_3; try clear hx222_4; try clear hx222_5; try clear hx222_6; try clear hx222_7; try clear hx222_8; try clear hx222_9; try clear hx223_0; try clear hx223_1; try clear hx223_2; try clear hx223_3; try clear hx223_4; try clear hx223_5; try clear hx223_6; try clear hx223_7; try clear hx223_8; try clear hx223_9; try clear p2; try clear p221; try clear p222; try clear p223; try clear p6; try clear q2; try clear q221; try clear q222; try clear q223
              obtain ⟨x5_5, rfl, HA, HK5, BK220, HB⟩ := hrel
              cases gk with
              | zero => exact absurd HA.out (by simp [tontinehelp_WideConf.l2])
              | succ k5 =>
               have H := HA.out; clear HA
               simp only [tontinehelp_WideConf.l2] at H
               by_cases c22 : 0 ≤ x4_3
               ·
                rw [if_pos c22] at H
                have c22b0 : decide (0 ≤ x4_3) = true := decide_eq_true c22
                clear c22
                by_cases c23 : x4_3 < (l0_3.length : Int)
                ·
                 rw [if_pos c23] at H
                 have c23b0 : decide (x4_3 < (l0_3.length : Int)) = true := decide_eq_true c23
                 clear c23
                 by_cases c24 : x5_5 < (((rd_T46 l0_3 x4_3).f1).length : Int)
                 ·
                  rw [if_pos c24] at H
                  have c24b0 : decide (x5_5 < (((rd_T46 l0_3 x4_3).f1).length : Int)) = true := decide_eq_true c24
                  clear c24
                  by_cases c25 : 0 ≤ x5_5
                  ·
                   rw [if_pos c25] at H
                   have c25b0 : decide (0 ≤ x5_5) = true := decide_eq_true c25
                   clear c25
                   by_cases c26 : ((rd_L8 ((rd_T46 l0_3 x4_3).f1) x5_5).length : Int) > 20
                   ·
                    rw [if_pos c26] at H
                    have c26b0 : decide (20 < ((rd_L8 ((rd_T46 l0_3 x4_3).f1) x5_5).length : Int)) = true := decide_eq_true c26
                    have c26b1 : decide (20 < (rd_L8 ((rd_T46 l0_3 x4_3).f1) x5_5).length) = true := decide_eq_true (by omega)
                    clear c26
                    obtain rfl := Option.some.inj H
                    have hcz27_0 := Goto.bc0 BK220; have hcz27_1 := Goto.bc1 BK220; have hcz27_2 := Goto.bc2 BK220; have hcz27_3 := Goto.bc3 BK220; have hfz27_0 := Goto.bf BK220 0; have hfz27_1 := Goto.bf BK220 1; have hfz27_2 := Goto.bf BK220 2; have hfz27_3 := Goto.bf BK220 3
                    have p224 : 0 ≤ (x4_3 : Int) := Goto.od
                    have q224 : x4_3 < (l0_3.length : Int) := Goto.od
                    obtain ⟨ad224, A224_2, c224_2, A224_3, c224_3, e224, hx224_0, hx224_1, hx224_2, hx224_3, hx224_4, hx224_5, hx224_6, hx224_7, hx224_8, hx224_9, hl224_2, hi224_2, hl224_3, hi224_3⟩ := at_T46 HR0_3.out x4_3 p224 q224
                    cases e224
                    replace hx224_0 := Goto.kc HB.out hx224_0
                    replace hx224_1 := Goto.kc HB.out hx224_1
                    replace hx224_2 := Goto.kc HB.out hx224_2
                    replace hx224_3 := Goto.kc HB.out hx224_3
                    replace hx224_4 := Goto.kc HB.out hx224_4
                    replace hx224_5 := Goto.kc HB.out hx224_5
                    replace hx224_6 := Goto.kc HB.out hx224_6
                    replace hx224_7 := Goto.kc HB.out hx224_7
                    replace hx224_8 := Goto.kc HB.out hx224_8
                    replace hx224_9 := Goto.kc HB.out hx224_9
                    have HR224_2 := Goto.m0 hi224_2
                    have HC224_2 := Goto.m0 hl224_2
                    clear hi224_2 hl224_2
                    have HR224_3 := Goto.m0 hi224_3
                    have HC224_3 := Goto.m0 hl224_3
                    clear hi224_3 hl224_3; replace p224 := eq_true p224; replace q224 := eq_true q224
                    have p225 : 0 ≤ (x4_3 : Int) := Goto.od
                    have q225 : x4_3 < (l0_3.length : Int) := Goto.od
                    obtain ⟨ad225, A225_2, c225_2, A225_3, c225_3, e225, hx225_0, hx225_1, hx225_2, hx225_3, hx225_4, hx225_5, hx225_6, hx225_7, hx225_8, hx225_9, hl225_2, hi225_2, hl225_3, hi225_3⟩ := at_T46 HR0_3.out x4_3 p225 q225
                    obtain rfl : ad224 = ad225 := (by injection e225)
                    replace hx225_0 := Goto.kc HB.out hx225_0
                    replace hx225_1 := Goto.kc HB.out hx225_1
                    replace hx225_2 := Goto.kc HB.out hx225_2
                    replace hx225_3 := Goto.kc HB.out hx225_3
                    replace hx225_4 := Goto.kc HB.out hx225_4
                    replace hx225_5 := Goto.kc HB.out hx225_5
                    replace hx225_6 := Goto.kc HB.out hx225_6
                    replace hx225_7 := Goto.kc HB.out hx225_7
                    replace hx225_8 := Goto.kc HB.out hx225_8
                    replace hx225_9 := Goto.kc HB.out hx225_9
                    have HR225_2 := Goto.m0 hi225_2
                    have HC225_2 := Goto.m0 hl225_2
                    clear hi225_2 hl225_2
                    have HR225_3 := Goto.m0 hi225_3
                    have HC225_3 := Goto.m0 hl225_3
                    clear hi225_3 hl225_3; replace p225 := eq_true p225; replace q225 := eq_true q225
                    have ea_ := Option.some.inj (hx224_2.symm.trans hx225_2)
                    injection ea_ with ea_ en_ ec_
                    subst ea_
                    subst ec_
                    clear en_
                    have ea_ := Option.some.inj (hx224_3.symm.trans hx225_3)
                    injection ea_ with ea_ en_ ec_
                    subst ea_
                    subst ec_
                    clear en_
                    have p226 : 0 ≤ (x5_5 : Int) := Goto.od
                    have q226 : x5_5 < (((rd_T46 l0_3 x4_3).f1).length : Int) := Goto.od
                    obtain ⟨ad226, A226_0, c226_0, e226, hx226_0, hl226_0, hi226_0⟩ := at_L8 HR225_2.out x5_5 p226 q226
                    cases e226
                    replace hx226_0 := Goto.kc HB.out hx226_0
                    have HR226_0 := Goto.m0 hi226_0
                    have HC226_0 := Goto.m0 hl226_0
                    clear hi226_0 hl226_0; replace p226 := eq_true p226; replace q226 := eq_true q226
                    go_wp2
                    go_ret
                    exact ⟨Goto.er, by repeat (first | (with_reducible first | exact HB.out | apply below_alloc | apply pw_below_drewN | apply below_drew1 | refine below_set ?_ GE220.out) | exact HB.out)⟩
                   ·
                    rw [if_neg c26] at H
                    have c26b0 : decide (20 < ((rd_L8 ((rd_T46 l0_3 x4_3).f1) x5_5).length : Int)) = false := decide_eq_false c26
                    have c26b1 : decide (20 < (rd_L8 ((rd_T46 l0_3 x4_3).f1) x5_5).length) = false := decide_eq_false (by omega)
                    clear c26
                    have H' := Goto.m0 H
                    clear H; have hcz28_0 := Goto.bc0 BK220; have hcz28_1 := Goto.bc1 BK220; have hcz28_2 := Goto.bc2 BK220; have hcz28_3 := Goto.bc3 BK220; have hfz28_0 := Goto.bf BK220 0; have hfz28_1 := Goto.bf BK220 1; have hfz28_2 := Goto.bf BK220 2; have hfz28_3 := Goto.bf BK220 3
                    have p224 : 0 ≤ (x4_3 : Int) := Goto.od
                    have q224 : x4_3 < (l0_3.length : Int) := Goto.od
                    obtain ⟨ad224, A224_2, c224_2, A224_3, c224_3, e224, hx224_0, hx224_1, hx224_2, hx224_3, hx224_4, hx224_5, hx224_6, hx224_7, hx224_8, hx224_9, hl224_2, hi224_2, hl224_3, hi224_3⟩ := at_T46 HR0_3.out x4_3 p224 q224
                    cases e224
                    replace hx224_0 := Goto.kc HB.out hx224_0
                    replace hx224_1 := Goto.kc HB.out hx224_1
                    replace hx224_2 := Goto.kc HB.out hx224_2
                    replace hx224_3 := Goto.kc HB.out hx224_3
                    replace hx224_4 := Goto.kc HB.out hx224_4
                    replace hx224_5 := Goto.kc HB.out hx224_5
                    replace hx224_6 := Goto.kc HB.out hx224_6
                    replace hx224_7 := Goto.kc HB.out hx224_7
                    replace hx224_8 := Goto.kc HB.out hx224_8
                    replace hx224_9 := Goto.kc HB.out hx224_9
                    have HR224_2 := Goto.m0 hi224_2
                    have HC224_2 := Goto.m0 hl224_2
                    clear hi224_2 hl224_2
                    have HR224_3 := Goto.m0 hi224_3
                    have HC224_3 := Goto.m0 hl224_3
                    clear hi224_3 hl224_3; replace p224 := eq_true p224; replace q224 := eq_true q224
                    have p225 : 0 ≤ (x4_3 : Int) := Goto.od
                    have q225 : x4_3 < (l0_3.length : Int) := Goto.od
                    obtain ⟨ad225, A225_2, c225_2, A225_3, c225_3, e225, hx225_0, hx225_1, hx225_2, hx225_3, hx225_4, hx225_5, hx225_6, hx225_7, hx225_8, hx225_9, hl225_2, hi225_2, hl225_3, hi225_3⟩ := at_T46 HR0_3.out x4_3 p225 q225
                    obtain rfl : ad224 = ad225 := (by injection e225)
                    replace hx225_0 := Goto.kc HB.out hx225_0
                    replace hx225_1 := Goto.kc HB.out hx225_1
                    replace hx225_2 := Goto.kc HB.out hx225_2
                    replace hx225_3 := Goto.kc HB.out hx225_3
                    replace hx225_4 := Goto.kc HB.out hx225_4
                    replace hx225_5 := Goto.kc HB.out hx225_5
                    replace hx225_6 := Goto.kc HB.out hx225_6
                    replace hx225_7 := Goto.kc HB.out hx225_7
                    replace hx225_8 := Goto.kc HB.out hx225_8
                    replace hx225_9 := Goto.kc HB.out hx225_9
                    have HR225_2 := Goto.m0 hi225_2
                    have HC225_2 := Goto.m0 hl225_2
                    clear hi225_2 hl225_2
                    have HR225_3 := Goto.m0 hi225_3
                    have HC225_3 := Goto.m0 hl225_3
                    clear hi225_3 hl225_3; replace p225 := eq_true p225; replace q225 := eq_true q225
                    have ea_ := Option.some.inj (hx224_2.symm.trans hx225_2)
                    injection ea_ with ea_ en_ ec_
                    subst ea_
                    subst ec_
                    clear en_
                    have ea_ := Option.some.inj (hx224_3.symm.trans hx225_3)
                    injection ea_ with ea_ en_ ec_
                    subst ea_
                    subst ec_
                    clear en_
                    have p226 : 0 ≤ (x5_5 : Int) := Goto.od
                    have q226 : x5_5 < (((rd_T46 l0_3 x4_3).f1).length : Int) := Goto.od
                    obtain ⟨ad226, A226_0, c226_0, e226, hx226_0, hl226_0, hi226_0⟩ := at_L8 HR225_2.out x5_5 p226 q226
                    cases e226
                    replace hx226_0 := Goto.kc HB.out hx226_0
                    have HR226_0 := Goto.m0 hi226_0
                    have HC226_0 := Goto.m0 hl226_0
                    clear hi226_0 hl226_0; replace p226 := eq_true p226; replace q226 := eq_true q226
                    go_wp2
                    go_roundg k5
                    case measure => have := HJ1.out; have := HK2.out; have := HK3.out; have := HJ14.out; have := HK5.out; omega
                    case rel => exact ⟨(wrap64 (x5_5 + 1)), (by first | rfl | (simp; done) | (simp [*]; done)), H', ⟨by have := HJ1.out; have := HK2.out; have := HK3.out; have := HJ14.out; have := HK5.out; omega⟩, ⟨Goto.bx BK220⟩, ⟨Goto.hx HB⟩⟩
                  ·
                   rw [if_neg c25] at H
                   exact absurd H (by simp)
                 ·
                  rw [if_neg c24] at H
                  have c24b0 : decide (x5_5 < (((rd_T46 l0_3 x4_3).f1).length : Int)) = false := decide_eq_false c24
                  clear c24
                  have H' := Goto.m0 H
                  clear H; have hcz29_0 := Goto.bc0 BK220; have hcz29_1 := Goto.bc1 BK220; have hcz29_2 := Goto.bc2 BK220; have hcz29_3 := Goto.bc3 BK220; have hfz29_0 := Goto.bf BK220 0; have hfz29_1 := Goto.bf BK220 1; have hfz29_2 := Goto.bf BK220 2; have hfz29_3 := Goto.bf BK220 3
                  have p224 : 0 ≤ (x4_3 : Int) := Goto.od
                  have q224 : x4_3 < (l0_3.length : Int) := Goto.od
                  obtain ⟨ad224, A224_2, c224_2, A224_3, c224_3, e224, hx224_0, hx224_1, hx224_2, hx224_3, hx224_4, hx224_5, hx224_6, hx224_7, hx224_8, hx224_9, hl224_2, hi224_2, hl224_3, hi224_3⟩ := at_T46 HR0_3.out x4_3 p224 q224
                  cases e224
                  replace hx224_0 := Goto.kc HB.out hx224_0
                  replace hx224_1 := Goto.kc HB.out hx224_1
                  replace hx224_2 := Goto.kc HB.out hx224_2
                  replace hx224_3 := Goto.kc HB.out hx224_3
                  replace hx224_4 := Goto.kc HB.out hx224_4
                  replace hx224_5 := Goto.kc HB.out hx224_5
                  replace hx224_6 := Goto.kc HB.out hx224_6
                  replace hx224_7 := Goto.kc HB.out hx224_7
                  replace hx224_8 := Goto.kc HB.out hx224_8
                  replace hx224_9 := Goto.kc HB.out hx224_9
                  have HR224_2 := Goto.m0 hi224_2
                  have HC224_2 := Goto.m0 hl224_2
                  clear hi224_2 hl224_2
                  have HR224_3 := Goto.m0 hi224_3
                  have HC224_3 := Goto.m0 hl224_3
                  clear hi224_3 hl224_3; replace p224 := eq_true p224; replace q224 := eq_true q224
                  go_wp2
                  go_roundg k5
                  case measure => have := HJ1.out; have := HK2.out; have := HK3.out; have := HJ14.out; have := HK5.out; omega
                  case rel => exact ⟨(wrap64 (x4_3 + 1)), (by first | rfl | (simp; done) | (simp [*]; done)), H', ⟨by have := HJ1.out; have := HK2.out; have := HK3.out; have := HJ14.out; have := HK5.out; omega⟩, ⟨Goto.bx BK220⟩, ⟨Goto.hx HB⟩⟩
                ·
                 rw [if_neg c23] at H
                 exact absurd H (by simp)
               ·
                rw [if_neg c22] at H
                exact absurd H (by simp)
         ·
          rw [if_neg c14] at H
          have c14b0 : decide (x4_3 < (l0_3.length : Int)) = false := decide_eq_false c14
          clear c14
          obtain rfl := Option.some.inj H
          have hcz30_0 := Goto.bc0 BK220; have hcz30_1 := Goto.bc1 BK220; have hcz30_2 := Goto.bc2 BK220; have hcz30_3 := Goto.bc3 BK220; have hfz30_0 := Goto.bf BK220 0; have hfz30_1 := Goto.bf BK220 1; have hfz30_2 := Goto.bf BK220 2; have hfz30_3 := Goto.bf BK220 3
          go_wp2
          go_ret
          exact ⟨Goto.er, by repeat (first | (with_reducible first | exact HB.out | apply below_alloc | apply pw_below_drewN | apply below_drew1 | refine below_set ?_ GE220.out) | exact HB.out)⟩

end Go.Proofs.YtlmllmbbdlkknaaDoor.P
