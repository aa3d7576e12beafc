/- Printed by a program of this workplace (a turned copy of the kit's optional print), out of the translation; not trusted: Lean checks it. -/
import Derived.Test.YtbhfkhcedjgpdaaPx0
namespace Go.Proofs.Ytbhfkhcedjgpdaa.P
open Go.RowKit Go.Proofs.YtbhfkhcedjgpdaaW.PrintWords Go.Proofs.YtbhfkhcedjgpdaaW.PrintLast Go.Proofs.YtbhfkhcedjgpdaaW.PrintMore
attribute [local go_sem] max2_int min2_int max_two min_two max_three min_three max_four min_four   -- for this text's walks alone
set_option linter.unusedVariables false
set_option linter.unusedSimpArgs false

/-! ### tontinehelp_WideConf: function 13 -/
mutual
def tontinehelp_WideConf.j0 : Nat → Bool → Int → Int → List (List Int) → List (S44) → Option (Bool)
  | 0, _, _, _, _, _ => none
  | k + 1, x15, x102000, x102001, x102002, x102003 => if x15 = true then (some true) else (tontinehelp_WideConf.l0 k 0 x102000 x102001 x102002 x102003)
def tontinehelp_WideConf.l0 : Nat → Int → Int → Int → List (List Int) → List (S44) → Option (Bool)
  | 0, _, _, _, _, _ => none
  | k + 1, x3, x102000, x102001, x102002, x102003 => if x3 < (x102002.length : Int) then (if 0 ≤ x3 then (if ((rd_L1 x102002 x3).length : Int) > 20 then (some true) else (tontinehelp_WideConf.l0 k (wrap64 (x3 + 1)) x102000 x102001 x102002 x102003)) else (none)) else (tontinehelp_WideConf.l1 k 0 x102000 x102001 x102002 x102003)
def tontinehelp_WideConf.l1 : Nat → Int → Int → Int → List (List Int) → List (S44) → Option (Bool)
  | 0, _, _, _, _, _ => none
  | k + 1, x4, x102000, x102001, x102002, x102003 => if x4 < (x102003.length : Int) then (if 0 ≤ x4 then (if (((rd_T44 x102003 x4).f1).length : Int) > 10 then (tontinehelp_WideConf.j3 k x4 true x102000 x102001 x102002 x102003) else (tontinehelp_WideConf.j3 k x4 (decide ((((rd_T44 x102003 x4).f2).length : Int) > 10)) x102000 x102001 x102002 x102003)) else (none)) else (some false)
def tontinehelp_WideConf.j3 : Nat → Int → Bool → Int → Int → List (List Int) → List (S44) → Option (Bool)
  | 0, _, _, _, _, _, _ => none
  | k + 1, x4, x54, x102000, x102001, x102002, x102003 => if x54 = true then (some true) else (tontinehelp_WideConf.l2 k x4 0 x102000 x102001 x102002 x102003)
def tontinehelp_WideConf.l2 : Nat → Int → Int → Int → Int → List (List Int) → List (S44) → Option (Bool)
  | 0, _, _, _, _, _, _ => none
  | k + 1, x4, x5, x102000, x102001, x102002, x102003 => if 0 ≤ x4 then (if x4 < (x102003.length : Int) then (if x5 < (((rd_T44 x102003 x4).f1).length : Int) then (if 0 ≤ x5 then (if ((rd_L1 ((rd_T44 x102003 x4).f1) x5).length : Int) > 20 then (some true) else (tontinehelp_WideConf.l2 k x4 (wrap64 (x5 + 1)) x102000 x102001 x102002 x102003)) else (none)) else (tontinehelp_WideConf.l1 k (wrap64 (x4 + 1)) x102000 x102001 x102002 x102003)) else (none)) else (none)
end
def tontinehelp_WideConf.f (k : Nat) (a0_0 : Int) (a0_1 : Int) (l0_2 : List (List Int)) (l0_3 : List (S44)) : Option (Bool) := if (l0_3.length : Int) > 10 then (tontinehelp_WideConf.j0 k true a0_0 a0_1 l0_2 l0_3) else (tontinehelp_WideConf.j0 k (decide ((l0_2.length : Int) > 10)) a0_0 a0_1 l0_2 l0_3)
theorem tontinehelp_WideConf.mono_l : ∀ k, (∀ y0 y1 y2 y3 y4, LeO (tontinehelp_WideConf.j0 k y0 y1 y2 y3 y4) (tontinehelp_WideConf.j0 (k + 1) y0 y1 y2 y3 y4)) ∧ (∀ y0 y1 y2 y3 y4, LeO (tontinehelp_WideConf.l0 k y0 y1 y2 y3 y4) (tontinehelp_WideConf.l0 (k + 1) y0 y1 y2 y3 y4)) ∧ (∀ y0 y1 y2 y3 y4, LeO (tontinehelp_WideConf.l1 k y0 y1 y2 y3 y4) (tontinehelp_WideConf.l1 (k + 1) y0 y1 y2 y3 y4)) ∧ (∀ y0 y1 y2 y3 y4 y5, LeO (tontinehelp_WideConf.j3 k y0 y1 y2 y3 y4 y5) (tontinehelp_WideConf.j3 (k + 1) y0 y1 y2 y3 y4 y5)) ∧ (∀ y0 y1 y2 y3 y4 y5, LeO (tontinehelp_WideConf.l2 k y0 y1 y2 y3 y4 y5) (tontinehelp_WideConf.l2 (k + 1) y0 y1 y2 y3 y4 y5))
  | 0 => ⟨fun _ _ _ _ _ r h => by simp [tontinehelp_WideConf.j0] at h, fun _ _ _ _ _ r h => by simp [tontinehelp_WideConf.l0] at h, fun _ _ _ _ _ r h => by simp [tontinehelp_WideConf.l1] at h, fun _ _ _ _ _ _ r h => by simp [tontinehelp_WideConf.j3] at h, fun _ _ _ _ _ _ r h => by simp [tontinehelp_WideConf.l2] at h⟩
  | k + 1 => by
    obtain ⟨ih0, ih1, ih2, ih3, ih4⟩ := tontinehelp_WideConf.mono_l k
    refine ⟨?_, ?_, ?_, ?_, ?_⟩
    · intro y0 y1 y2 y3 y4
      unfold tontinehelp_WideConf.j0
      repeat' first
      | (with_reducible exact ih0 _ _ _ _ _)
      | (with_reducible exact ih1 _ _ _ _ _)
      | (with_reducible exact ih2 _ _ _ _ _)
      | (with_reducible exact ih3 _ _ _ _ _ _)
      | (with_reducible exact ih4 _ _ _ _ _ _)
      | (with_reducible exact LeO.refl _)
      | (with_reducible exact LeO.none _)
      | (with_reducible refine LeO.ite ?_ ?_)
      | (with_reducible refine LeO.bind ?_ (fun _ => ?_))
      | exact ih0 _ _ _ _ _
      | exact ih1 _ _ _ _ _
      | exact ih2 _ _ _ _ _
      | exact ih3 _ _ _ _ _ _
      | exact ih4 _ _ _ _ _ _
      | exact LeO.none _
      | refine LeO.ite ?_ ?_
      | refine LeO.bind ?_ (fun _ => ?_)
    · intro y0 y1 y2 y3 y4
      unfold tontinehelp_WideConf.l0
      repeat' first
      | (with_reducible exact ih0 _ _ _ _ _)
      | (with_reducible exact ih1 _ _ _ _ _)
      | (with_reducible exact ih2 _ _ _ _ _)
      | (with_reducible exact ih3 _ _ _ _ _ _)
      | (with_reducible exact ih4 _ _ _ _ _ _)
      | (with_reducible exact LeO.refl _)
      | (with_reducible exact LeO.none _)
      | (with_reducible refine LeO.ite ?_ ?_)
      | (with_reducible refine LeO.bind ?_ (fun _ => ?_))
      | exact ih0 _ _ _ _ _
      | exact ih1 _ _ _ _ _
      | exact ih2 _ _ _ _ _
      | exact ih3 _ _ _ _ _ _
      | exact ih4 _ _ _ _ _ _
      | exact LeO.none _
      | refine LeO.ite ?_ ?_
      | refine LeO.bind ?_ (fun _ => ?_)
    · intro y0 y1 y2 y3 y4
      unfold tontinehelp_WideConf.l1
      repeat' first
      | (with_reducible exact ih0 _ _ _ _ _)
      | (with_reducible exact ih1 _ _ _ _ _)
      | (with_reducible exact ih2 _ _ _ _ _)
      | (with_reducible exact ih3 _ _ _ _ _ _)
      | (with_reducible exact ih4 _ _ _ _ _ _)
      | (with_reducible exact LeO.refl _)
      | (with_reducible exact LeO.none _)
      | (with_reducible refine LeO.ite ?_ ?_)
      | (with_reducible refine LeO.bind ?_ (fun _ => ?_))
      | exact ih0 _ _ _ _ _
      | exact ih1 _ _ _ _ _
      | exact ih2 _ _ _ _ _
      | exact ih3 _ _ _ _ _ _
      | exact ih4 _ _ _ _ _ _
      | exact LeO.none _
      | refine LeO.ite ?_ ?_
      | refine LeO.bind ?_ (fun _ => ?_)
    · intro y0 y1 y2 y3 y4 y5
      unfold tontinehelp_WideConf.j3
      repeat' first
      | (with_reducible exact ih0 _ _ _ _ _)
      | (with_reducible exact ih1 _ _ _ _ _)
      | (with_reducible exact ih2 _ _ _ _ _)
      | (with_reducible exact ih3 _ _ _ _ _ _)
      | (with_reducible exact ih4 _ _ _ _ _ _)
      | (with_reducible exact LeO.refl _)
      | (with_reducible exact LeO.none _)
      | (with_reducible refine LeO.ite ?_ ?_)
      | (with_reducible refine LeO.bind ?_ (fun _ => ?_))
      | exact ih0 _ _ _ _ _
      | exact ih1 _ _ _ _ _
      | exact ih2 _ _ _ _ _
      | exact ih3 _ _ _ _ _ _
      | exact ih4 _ _ _ _ _ _
      | exact LeO.none _
      | refine LeO.ite ?_ ?_
      | refine LeO.bind ?_ (fun _ => ?_)
    · intro y0 y1 y2 y3 y4 y5
      unfold tontinehelp_WideConf.l2
      repeat' first
      | (with_reducible exact ih0 _ _ _ _ _)
      | (with_reducible exact ih1 _ _ _ _ _)
      | (with_reducible exact ih2 _ _ _ _ _)
      | (with_reducible exact ih3 _ _ _ _ _ _)
      | (with_reducible exact ih4 _ _ _ _ _ _)
      | (with_reducible exact LeO.refl _)
      | (with_reducible exact LeO.none _)
      | (with_reducible refine LeO.ite ?_ ?_)
      | (with_reducible refine LeO.bind ?_ (fun _ => ?_))
      | exact ih0 _ _ _ _ _
      | exact ih1 _ _ _ _ _
      | exact ih2 _ _ _ _ _
      | exact ih3 _ _ _ _ _ _
      | exact ih4 _ _ _ _ _ _
      | exact LeO.none _
      | refine LeO.ite ?_ ?_
      | refine LeO.bind ?_ (fun _ => ?_)
theorem tontinehelp_WideConf.mono : ∀ a0 a1 a2 a3 k, LeO (tontinehelp_WideConf.f k a0 a1 a2 a3) (tontinehelp_WideConf.f (k + 1) a0 a1 a2 a3) := by
 intro a0 a1 a2 a3 k
 obtain ⟨ih0, ih1, ih2, ih3, ih4⟩ := tontinehelp_WideConf.mono_l k
 unfold tontinehelp_WideConf.f
 repeat' first
   | (with_reducible exact ih0 _ _ _ _ _)
   | (with_reducible exact ih1 _ _ _ _ _)
   | (with_reducible exact ih2 _ _ _ _ _)
   | (with_reducible exact ih3 _ _ _ _ _ _)
   | (with_reducible exact ih4 _ _ _ _ _ _)
   | (with_reducible exact LeO.refl _)
   | (with_reducible exact LeO.none _)
   | (with_reducible refine LeO.ite ?_ ?_)
   | (with_reducible refine LeO.bind ?_ (fun _ => ?_))
   | exact ih0 _ _ _ _ _
   | exact ih1 _ _ _ _ _
   | exact ih2 _ _ _ _ _
   | exact ih3 _ _ _ _ _ _
   | exact ih4 _ _ _ _ _ _
   | exact LeO.none _
   | refine LeO.ite ?_ ?_
   | refine LeO.bind ?_ (fun _ => ?_)
set_option maxHeartbeats 8000000 in
set_option maxRecDepth 100000 in
theorem tontinehelp_WideConf.calls (k : Nat) (a0_0 : Int) (a0_1 : Int) (A0_2 : Option Addr) (c0_2 : Nat) (l0_2 : List (List Int)) (A0_3 : Option Addr) (c0_3 : Nat) (l0_3 : List (S44)) (r : Bool) (w : World) (hr0_2 : Kd.C (Kd.slice 3 (Kd.int .i64)) w A0_2 l0_2.length l0_2) (hc0_2 : l0_2.length ≤ c0_2) (hr0_3 : Kd.C k44 w A0_3 l0_3.length l0_3) (hc0_3 : l0_3.length ≤ c0_3) (h : tontinehelp_WideConf.f k a0_0 a0_1 l0_2 l0_3 = some r) :
    Calls Try.prog 13 #[.agg #[.int .i64 a0_0, .int .i64 a0_1, .slice A0_2 l0_2.length c0_2, .slice A0_3 l0_3.length c0_3]] w fun e w' => e = .returned (.bool r) ∧ Below w.heap.size w w' := by
 have hu25 := Try.underlying25
 have HR0_2 := Goto.m0 hr0_2
 have HC0_2 := Goto.m0 hc0_2
 clear hr0_2 hc0_2
 have HR0_3 := Goto.m0 hr0_3
 have HC0_3 := Goto.m0 hc0_3
 clear hr0_3 hc0_3
 have HB := Goto.m0 (Below.refl w.heap.size w)
 have H : (if (l0_3.length : Int) > 10 then (tontinehelp_WideConf.j0 k true a0_0 a0_1 l0_2 l0_3) else (tontinehelp_WideConf.j0 k (decide ((l0_2.length : Int) > 10)) a0_0 a0_1 l0_2 l0_3)) = some r := h
 clear h
 have HC2 := Goto.m0 H
 clear H
 go_enter Try.func13, Try.ntmps13
 go_upto_region 1 with (first | ((with_reducible refine gate_dst (N := 1) rfl ?_); (try (refine gate_guard (by rfl) ?_; dsimp only)); refine box_event ?hg (N := 1) ?hd (cs := #[.int .i64 a0_0, .int .i64 a0_1, .slice A0_2 l0_2.length c0_2, .slice A0_3 l0_3.length c0_3]) (t := 25) ?hr ?_; (case hd => rfl); (case hg => rfl); (case hr => first | (go_simp; done) | (go_simp; rfl)); intro gb101 hg w3 hbox hb; have BK101 := Goto.m0 (hbox); have GW101 := Goto.gs HB hg; have GE101 := Goto.gs HB hg; replace HB := Goto.hs HB hb; clear hb hbox hg))
 (try simp only [Act.put, List.setIfInBounds_toArray, List.set_cons_zero, List.set_cons_succ])
 go_cut [15] (fun v15 wc => ∃ (kq : Nat) (x15_1 : Bool), v15 = .bool x15_1 ∧ Aside0 (tontinehelp_WideConf.j0 kq x15_1 a0_0 a0_1 l0_2 l0_3 = some r) ∧ Aside0 (kq ≤ k) ∧ Aside0 (wc.heap[gb101]? = some (.cells #[.int .i64 a0_0, .int .i64 a0_1, (.slice A0_2 l0_2.length c0_2), (.slice A0_3 l0_3.length c0_3)] 25 (0, 0))) ∧ Aside0 (Below w.heap.size w wc))
 case first =>
  have H := HC2.out; clear HC2
  by_cases c4 : (l0_3.length : Int) > 10
  ·
   rw [if_pos c4] at H
   have c4b0 : decide (10 < (l0_3.length : Int)) = true := decide_eq_true c4
   have c4b1 : decide (10 < l0_3.length) = true := decide_eq_true (by omega)
   clear c4
   (first | rw [c4b0] | (simp only [i64_w, i32_w]; rw [c4b0]) | skip)
   have H' := Goto.m0 H
   clear H; have hcz5_0 := Goto.bc0 BK101; have hcz5_1 := Goto.bc1 BK101; have hcz5_2 := Goto.bc2 BK101; have hcz5_3 := Goto.bc3 BK101; have hfz5_0 := blk_frozen BK101.out 0; have hfz5_1 := blk_frozen BK101.out 1; have hfz5_2 := blk_frozen BK101.out 2; have hfz5_3 := blk_frozen BK101.out 3
   go_wp2
   go_meet
   case rel => exact ⟨_, (true), (by first | rfl | (simp; done) | (simp [*]; done)), H', ⟨by first | omega | exact Nat.le_refl _⟩, ⟨Goto.bx BK101⟩, ⟨Goto.hx HB⟩⟩
  ·
   rw [if_neg c4] at H
   have c4b0 : decide (10 < (l0_3.length : Int)) = false := decide_eq_false c4
   have c4b1 : decide (10 < l0_3.length) = false := decide_eq_false (by omega)
   clear c4
   (first | rw [c4b0] | (simp only [i64_w, i32_w]; rw [c4b0]) | skip)
   have H' := Goto.m0 H
   clear H; have hcz6_0 := Goto.bc0 BK101; have hcz6_1 := Goto.bc1 BK101; have hcz6_2 := Goto.bc2 BK101; have hcz6_3 := Goto.bc3 BK101; have hfz6_0 := blk_frozen BK101.out 0; have hfz6_1 := blk_frozen BK101.out 1; have hfz6_2 := blk_frozen BK101.out 2; have hfz6_3 := blk_frozen BK101.out 3
   go_wp2
   go_meet
   case rel => exact ⟨_, (decide ((l0_2.length : Int) > 10)), (by first | rfl | (simp; done) | (simp [*]; done)), H', ⟨by first | omega | exact Nat.le_refl _⟩, ⟨Goto.bx BK101⟩, ⟨Goto.hx HB⟩⟩
 case rest =>
  clear HC2; try clear c1; try clear p2; try clear c4; try clear c4b0; try clear c4b1; try clear hcz5_0; try clear hcz5_1; try clear hcz5_2; try clear hcz5_3; try clear hcz6_0; try clear hcz6_1; try clear hcz6_2; try clear hcz6_3; try clear hfz5_0; try clear hfz5_1; try clear hfz5_2; try clear hfz5_3; try clear hfz6_0; try clear hfz6_1; try clear hfz6_2; try clear hfz6_3
  obtain ⟨kq, x15_1, rfl, HA, HJ1, BK101, HB⟩ := hcut
  cases kq with
  | zero => exact absurd HA.out (by simp [tontinehelp_WideConf.j0])
  | succ kj1 =>
   have H := HA.out; clear HA
   simp only [tontinehelp_WideConf.j0] at H
   by_cases c7 : x15_1 = true
   ·
    subst c7
    rw [if_pos rfl] at H
    obtain rfl := Option.some.inj H
    go_wp2
    go_ret
    exact ⟨by first | rfl | (simp [errW_none, errW_some] <;> rfl) | (simp [*, errW_none, errW_some] <;> rfl), by repeat (first | (with_reducible first | exact HB.out | apply below_alloc | apply pw_below_drewN | apply below_drew1 | refine below_set ?_ GE101.out) | exact HB.out)⟩
   ·
    replace c7 := Bool.eq_false_iff.mpr c7
    subst c7
    rw [if_neg (show ¬ (false = true) by decide)] at H
    have H' := Goto.m0 H
    clear H
    go_wp2
    go_loopg [3] kj1 (fun kq v3 w' => ∃ (x3_2 : Int), v3 = .int .i64 x3_2 ∧ Aside0 (tontinehelp_WideConf.l0 kq x3_2 a0_0 a0_1 l0_2 l0_3 = some r) ∧ Aside0 (kq ≤ kj1) ∧ Aside0 (w'.heap[gb101]? = some (.cells #[.int .i64 a0_0, .int .i64 a0_1, (.slice A0_2 l0_2.length c0_2), (.slice A0_3 l0_3.length c0_3)] 25 (0, 0))) ∧ Aside0 (Below w.heap.size w w'))
    case atStart => exact ⟨(0), (by first | rfl | (simp; done) | (simp [*]; done)), H', ⟨Nat.le_refl _⟩, ⟨Goto.bx BK101⟩, ⟨Goto.hx HB⟩⟩
    case round =>
     clear H'
     try clear c1; try clear p2; try clear c4; try clear c4b0; try clear c4b1; try clear c7; try clear hcz5_0; try clear hcz5_1; try clear hcz5_2; try clear hcz5_3; try clear hcz6_0; try clear hcz6_1; try clear hcz6_2; try clear hcz6_3; try clear hfz5_0; try clear hfz5_1; try clear hfz5_2; try clear hfz5_3; try clear hfz6_0; try clear hfz6_1; try clear hfz6_2; try clear hfz6_3; try clear p2
     obtain ⟨x3_2, rfl, HA, HK2, BK101, HB⟩ := hrel
     cases gk with
     | zero => exact absurd HA.out (by simp [tontinehelp_WideConf.l0])
     | succ k2 =>
      have H := HA.out; clear HA
      simp only [tontinehelp_WideConf.l0] at H
      by_cases c8 : x3_2 < (l0_2.length : Int)
      ·
       rw [if_pos c8] at H
       have c8b0 : decide (x3_2 < (l0_2.length : Int)) = true := decide_eq_true c8
       clear c8
       by_cases c9 : 0 ≤ x3_2
       ·
        rw [if_pos c9] at H
        have c9b0 : decide (0 ≤ x3_2) = true := decide_eq_true c9
        clear c9
        by_cases c10 : ((rd_L1 l0_2 x3_2).length : Int) > 20
        ·
         rw [if_pos c10] at H
         have c10b0 : decide (20 < ((rd_L1 l0_2 x3_2).length : Int)) = true := decide_eq_true c10
         have c10b1 : decide (20 < (rd_L1 l0_2 x3_2).length) = true := decide_eq_true (by omega)
         clear c10
         obtain rfl := Option.some.inj H
         have hcz11_0 := Goto.bc0 BK101; have hcz11_1 := Goto.bc1 BK101; have hcz11_2 := Goto.bc2 BK101; have hcz11_3 := Goto.bc3 BK101; have hfz11_0 := blk_frozen BK101.out 0; have hfz11_1 := blk_frozen BK101.out 1; have hfz11_2 := blk_frozen BK101.out 2; have hfz11_3 := blk_frozen BK101.out 3
         have p102 : 0 ≤ (x3_2 : Int) := of_decide_eq_true (by first | (with_reducible assumption) | assumption)
         have q102 : x3_2 < (l0_2.length : Int) := of_decide_eq_true (by first | (with_reducible assumption) | assumption)
         obtain ⟨ad102, A102_0, c102_0, e102, hx102_0, hl102_0, hi102_0⟩ := at_L1 HR0_2.out x3_2 p102 q102
         cases e102
         replace hx102_0 := Goto.kc HB.out hx102_0
         have HR102_0 := Goto.m0 hi102_0
         have HC102_0 := Goto.m0 hl102_0
         clear hi102_0 hl102_0; replace p102 := eq_true p102; replace q102 := eq_true q102
         go_wp2
         go_ret
         exact ⟨by first | rfl | (simp [errW_none, errW_some] <;> rfl) | (simp [*, errW_none, errW_some] <;> rfl), by repeat (first | (with_reducible first | exact HB.out | apply below_alloc | apply pw_below_drewN | apply below_drew1 | refine below_set ?_ GE101.out) | exact HB.out)⟩
        ·
         rw [if_neg c10] at H
         have c10b0 : decide (20 < ((rd_L1 l0_2 x3_2).length : Int)) = false := decide_eq_false c10
         have c10b1 : decide (20 < (rd_L1 l0_2 x3_2).length) = false := decide_eq_false (by omega)
         clear c10
         have H' := Goto.m0 H
         clear H; have hcz12_0 := Goto.bc0 BK101; have hcz12_1 := Goto.bc1 BK101; have hcz12_2 := Goto.bc2 BK101; have hcz12_3 := Goto.bc3 BK101; have hfz12_0 := blk_frozen BK101.out 0; have hfz12_1 := blk_frozen BK101.out 1; have hfz12_2 := blk_frozen BK101.out 2; have hfz12_3 := blk_frozen BK101.out 3
         have p102 : 0 ≤ (x3_2 : Int) := of_decide_eq_true (by first | (with_reducible assumption) | assumption)
         have q102 : x3_2 < (l0_2.length : Int) := of_decide_eq_true (by first | (with_reducible assumption) | assumption)
         obtain ⟨ad102, A102_0, c102_0, e102, hx102_0, hl102_0, hi102_0⟩ := at_L1 HR0_2.out x3_2 p102 q102
         cases e102
         replace hx102_0 := Goto.kc HB.out hx102_0
         have HR102_0 := Goto.m0 hi102_0
         have HC102_0 := Goto.m0 hl102_0
         clear hi102_0 hl102_0; replace p102 := eq_true p102; replace q102 := eq_true q102
         go_wp2
         go_roundg k2
         case measure => have := HJ1.out; have := HK2.out; omega
         case rel => exact ⟨(wrap64 (x3_2 + 1)), (by first | rfl | (simp; done) | (simp [*]; done)), H', ⟨by have := HJ1.out; have := HK2.out; omega⟩, ⟨Goto.bx BK101⟩, ⟨Goto.hx HB⟩⟩
       ·
        rw [if_neg c9] at H
        exact absurd H (by simp)
      ·
       rw [if_neg c8] at H
       have c8b0 : decide (x3_2 < (l0_2.length : Int)) = false := decide_eq_false c8
       clear c8
       have H' := Goto.m0 H
       clear H; have hcz13_0 := Goto.bc0 BK101; have hcz13_1 := Goto.bc1 BK101; have hcz13_2 := Goto.bc2 BK101; have hcz13_3 := Goto.bc3 BK101; have hfz13_0 := blk_frozen BK101.out 0; have hfz13_1 := blk_frozen BK101.out 1; have hfz13_2 := blk_frozen BK101.out 2; have hfz13_3 := blk_frozen BK101.out 3
       go_wp2
       go_loopg [4] k2 (fun kq v4 w' => ∃ (x4_3 : Int), v4 = .int .i64 x4_3 ∧ Aside0 (tontinehelp_WideConf.l1 kq x4_3 a0_0 a0_1 l0_2 l0_3 = some r) ∧ Aside0 (kq ≤ k2) ∧ Aside0 (w'.heap[gb101]? = some (.cells #[.int .i64 a0_0, .int .i64 a0_1, (.slice A0_2 l0_2.length c0_2), (.slice A0_3 l0_3.length c0_3)] 25 (0, 0))) ∧ Aside0 (Below w.heap.size w w'))
       case atStart => exact ⟨(0), (by first | rfl | (simp; done) | (simp [*]; done)), H', ⟨Nat.le_refl _⟩, ⟨Goto.bx BK101⟩, ⟨Goto.hx HB⟩⟩
       case round =>
        clear H'
        try clear c1; try clear p1; try clear q1; try clear hx1; try clear p2; try clear c4; try clear c4b0; try clear c4b1; try clear p6; try clear c7; try clear c8; try clear c8b0; try clear c9; try clear c9b0; try clear c10; try clear c10b0; try clear c10b1; try clear p10; try clear q10; try clear hx10; try clear c13; try clear hcz11_0; try clear hcz11_1; try clear hcz11_2; try clear hcz11_3; try clear hcz12_0; try clear hcz12_1; try clear hcz12_2; try clear hcz12_3; try clear hcz13_0; try clear hcz13_1; try clear hcz13_2; try clear hcz13_3; try clear hcz5_0; try clear hcz5_1; try clear hcz5_2; try clear hcz5_3; try clear hcz6_0; try clear hcz6_1; try clear hcz6_2; try clear hcz6_3; try clear hfz11_0; try clear hfz11_1; try clear hfz11_2; try clear hfz11_3; try clear hfz12_0; try clear hfz12_1; try clear hfz12_2; try clear hfz12_3; try clear hfz13_0; try clear hfz13_1; try clear hfz13_2; try clear hfz13_3; try clear hfz5_0; try clear hfz5_1; try clear hfz5_2; try clear hfz5_3; try clear hfz6_0; try clear hfz6_1; try clear hfz6_2; try clear hfz6_3; try clear hx102_0; try clear p102; try clear p2; try clear q102
        obtain ⟨x4_3, rfl, HA, HK3, BK101, HB⟩ := hrel
        cases gk with
        | zero => exact absurd HA.out (by simp [tontinehelp_WideConf.l1])
        | succ k3 =>
         have H := HA.out; clear HA
         simp only [tontinehelp_WideConf.l1] at H
         by_cases c14 : x4_3 < (l0_3.length : Int)
         ·
          rw [if_pos c14] at H
          have c14b0 : decide (x4_3 < (l0_3.length : Int)) = true := decide_eq_true c14
          clear c14
          have HC15 := Goto.m0 H
          clear H; have hcz16_0 := Goto.bc0 BK101; have hcz16_1 := Goto.bc1 BK101; have hcz16_2 := Goto.bc2 BK101; have hcz16_3 := Goto.bc3 BK101; have hfz16_0 := blk_frozen BK101.out 0; have hfz16_1 := blk_frozen BK101.out 1; have hfz16_2 := blk_frozen BK101.out 2; have hfz16_3 := blk_frozen BK101.out 3
          go_upto_region 11 with (fail)
          go_cut [54] (fun v54 wc => ∃ (kq : Nat) (x54_14 : Bool), v54 = .bool x54_14 ∧ Aside0 (tontinehelp_WideConf.j3 kq x4_3 x54_14 a0_0 a0_1 l0_2 l0_3 = some r) ∧ Aside0 (kq ≤ k3) ∧ Aside0 (wc.heap[gb101]? = some (.cells #[.int .i64 a0_0, .int .i64 a0_1, (.slice A0_2 l0_2.length c0_2), (.slice A0_3 l0_3.length c0_3)] 25 (0, 0))) ∧ Aside0 (Below w.heap.size w wc))
          case first =>
           have H := HC15.out; clear HC15
           by_cases c17 : 0 ≤ x4_3
           ·
            rw [if_pos c17] at H
            have c17b0 : decide (0 ≤ x4_3) = true := decide_eq_true c17
            clear c17
            (first | rw [c17b0] | (simp only [i64_w, i32_w]; rw [c17b0]) | skip)
            by_cases c18 : (((rd_T44 l0_3 x4_3).f1).length : Int) > 10
            ·
             rw [if_pos c18] at H
             have c18b0 : decide (10 < (((rd_T44 l0_3 x4_3).f1).length : Int)) = true := decide_eq_true c18
             have c18b1 : decide (10 < ((rd_T44 l0_3 x4_3).f1).length) = true := decide_eq_true (by omega)
             clear c18
             have H' := Goto.m0 H
             clear H; have hcz19_0 := Goto.bc0 BK101; have hcz19_1 := Goto.bc1 BK101; have hcz19_2 := Goto.bc2 BK101; have hcz19_3 := Goto.bc3 BK101; have hfz19_0 := blk_frozen BK101.out 0; have hfz19_1 := blk_frozen BK101.out 1; have hfz19_2 := blk_frozen BK101.out 2; have hfz19_3 := blk_frozen BK101.out 3
             have p103 : 0 ≤ (x4_3 : Int) := of_decide_eq_true (by first | (with_reducible assumption) | assumption)
             have q103 : x4_3 < (l0_3.length : Int) := of_decide_eq_true (by first | (with_reducible assumption) | assumption)
             obtain ⟨ad103, A103_2, c103_2, A103_3, c103_3, e103, hx103_0, hx103_1, hx103_2, hx103_3, hx103_4, hx103_5, hx103_6, hx103_7, hx103_8, hx103_9, hl103_2, hi103_2, hl103_3, hi103_3⟩ := at_T44 HR0_3.out x4_3 p103 q103
             cases e103
             replace hx103_0 := Goto.kc HB.out hx103_0
             replace hx103_1 := Goto.kc HB.out hx103_1
             replace hx103_2 := Goto.kc HB.out hx103_2
             replace hx103_3 := Goto.kc HB.out hx103_3
             replace hx103_4 := Goto.kc HB.out hx103_4
             replace hx103_5 := Goto.kc HB.out hx103_5
             replace hx103_6 := Goto.kc HB.out hx103_6
             replace hx103_7 := Goto.kc HB.out hx103_7
             replace hx103_8 := Goto.kc HB.out hx103_8
             replace hx103_9 := Goto.kc HB.out hx103_9
             have HR103_2 := Goto.m0 hi103_2
             have HC103_2 := Goto.m0 hl103_2
             clear hi103_2 hl103_2
             have HR103_3 := Goto.m0 hi103_3
             have HC103_3 := Goto.m0 hl103_3
             clear hi103_3 hl103_3; replace p103 := eq_true p103; replace q103 := eq_true q103
             go_wp2
             go_meet
             case rel => exact ⟨_, (true), (by first | rfl | (simp; done) | (simp [*]; done)), H', ⟨by have := HJ1.out; have := HK2.out; have := HK3.out; first | omega | exact Nat.le_refl _⟩, ⟨Goto.bx BK101⟩, ⟨Goto.hx HB⟩⟩
            ·
             rw [if_neg c18] at H
             have c18b0 : decide (10 < (((rd_T44 l0_3 x4_3).f1).length : Int)) = false := decide_eq_false c18
             have c18b1 : decide (10 < ((rd_T44 l0_3 x4_3).f1).length) = false := decide_eq_false (by omega)
             clear c18
             have H' := Goto.m0 H
             clear H; have hcz20_0 := Goto.bc0 BK101; have hcz20_1 := Goto.bc1 BK101; have hcz20_2 := Goto.bc2 BK101; have hcz20_3 := Goto.bc3 BK101; have hfz20_0 := blk_frozen BK101.out 0; have hfz20_1 := blk_frozen BK101.out 1; have hfz20_2 := blk_frozen BK101.out 2; have hfz20_3 := blk_frozen BK101.out 3
             have p103 : 0 ≤ (x4_3 : Int) := of_decide_eq_true (by first | (with_reducible assumption) | assumption)
             have q103 : x4_3 < (l0_3.length : Int) := of_decide_eq_true (by first | (with_reducible assumption) | assumption)
             obtain ⟨ad103, A103_2, c103_2, A103_3, c103_3, e103, hx103_0, hx103_1, hx103_2, hx103_3, hx103_4, hx103_5, hx103_6, hx103_7, hx103_8, hx103_9, hl103_2, hi103_2, hl103_3, hi103_3⟩ := at_T44 HR0_3.out x4_3 p103 q103
             cases e103
             replace hx103_0 := Goto.kc HB.out hx103_0
             replace hx103_1 := Goto.kc HB.out hx103_1
             replace hx103_2 := Goto.kc HB.out hx103_2
             replace hx103_3 := Goto.kc HB.out hx103_3
             replace hx103_4 := Goto.kc HB.out hx103_4
             replace hx103_5 := Goto.kc HB.out hx103_5
             replace hx103_6 := Goto.kc HB.out hx103_6
             replace hx103_7 := Goto.kc HB.out hx103_7
             replace hx103_8 := Goto.kc HB.out hx103_8
             replace hx103_9 := Goto.kc HB.out hx103_9
             have HR103_2 := Goto.m0 hi103_2
             have HC103_2 := Goto.m0 hl103_2
             clear hi103_2 hl103_2
             have HR103_3 := Goto.m0 hi103_3
             have HC103_3 := Goto.m0 hl103_3
             clear hi103_3 hl103_3; replace p103 := eq_true p103; replace q103 := eq_true q103
             have p104 : 0 ≤ (x4_3 : Int) := of_decide_eq_true (by first | (with_reducible assumption) | assumption)
             have q104 : x4_3 < (l0_3.length : Int) := of_decide_eq_true (by first | (with_reducible assumption) | assumption)
             obtain ⟨ad104, A104_2, c104_2, A104_3, c104_3, e104, hx104_0, hx104_1, hx104_2, hx104_3, hx104_4, hx104_5, hx104_6, hx104_7, hx104_8, hx104_9, hl104_2, hi104_2, hl104_3, hi104_3⟩ := at_T44 HR0_3.out x4_3 p104 q104
             obtain rfl : ad103 = ad104 := (by injection e104)
             replace hx104_0 := Goto.kc HB.out hx104_0
             replace hx104_1 := Goto.kc HB.out hx104_1
             replace hx104_2 := Goto.kc HB.out hx104_2
             replace hx104_3 := Goto.kc HB.out hx104_3
             replace hx104_4 := Goto.kc HB.out hx104_4
             replace hx104_5 := Goto.kc HB.out hx104_5
             replace hx104_6 := Goto.kc HB.out hx104_6
             replace hx104_7 := Goto.kc HB.out hx104_7
             replace hx104_8 := Goto.kc HB.out hx104_8
             replace hx104_9 := Goto.kc HB.out hx104_9
             have HR104_2 := Goto.m0 hi104_2
             have HC104_2 := Goto.m0 hl104_2
             clear hi104_2 hl104_2
             have HR104_3 := Goto.m0 hi104_3
             have HC104_3 := Goto.m0 hl104_3
             clear hi104_3 hl104_3; replace p104 := eq_true p104; replace q104 := eq_true q104
             have ea_ := Option.some.inj (hx103_2.symm.trans hx104_2)
             injection ea_ with ea_ en_ ec_
             subst ea_
             subst ec_
             clear en_
             have ea_ := Option.some.inj (hx103_3.symm.trans hx104_3)
             injection ea_ with ea_ en_ ec_
             subst ea_
             subst ec_
             clear en_
             go_wp2
             go_meet
             case rel => exact ⟨_, (decide ((((rd_T44 l0_3 x4_3).f2).length : Int) > 10)), (by first | rfl | (simp; done) | (simp [*]; done)), H', ⟨by have := HJ1.out; have := HK2.out; have := HK3.out; first | omega | exact Nat.le_refl _⟩, ⟨Goto.bx BK101⟩, ⟨Goto.hx HB⟩⟩
           ·
            rw [if_neg c17] at H
            exact absurd H (by simp)
          case rest =>
           clear HC15; try clear c1; try clear p1; try clear q1; try clear hx1; try clear p2; try clear c4; try clear c4b0; try clear c4b1; try clear p6; try clear c7; try clear c8; try clear c8b0; try clear c9; try clear c9b0; try clear c10; try clear c10b0; try clear c10b1; try clear p10; try clear q10; try clear hx10; try clear c13; try clear c14; try clear c14b0; try clear c17; try clear c17b0; try clear c18; try clear c18b0; try clear c18b1; try clear hcz11_0; try clear hcz11_1; try clear hcz11_2; try clear hcz11_3; try clear hcz12_0; try clear hcz12_1; try clear hcz12_2; try clear hcz12_3; try clear hcz13_0; try clear hcz13_1; try clear hcz13_2; try clear hcz13_3; try clear hcz16_0; try clear hcz16_1; try clear hcz16_2; try clear hcz16_3; try clear hcz19_0; try clear hcz19_1; try clear hcz19_2; try clear hcz19_3; try clear hcz20_0; try clear hcz20_1; try clear hcz20_2; try clear hcz20_3; try clear hcz5_0; try clear hcz5_1; try clear hcz5_2; try clear hcz5_3; try clear hcz6_0; try clear hcz6_1; try clear hcz6_2; try clear hcz6_3; try clear hfz11_0; try clear hfz11_1; try clear hfz11_2; try clear hfz11_3; try clear hfz12_0; try clear hfz12_1; try clear hfz12_2; try clear hfz12_3; try clear hfz13_0; try clear hfz13_1; try clear hfz13_2; try clear hfz13_3; try clear hfz16_0; try clear hfz16_1; try clear hfz16_2; try clear hfz16_3; try clear hfz19_0; try clear hfz19_1; try clear hfz19_2; try clear hfz19_3; try clear hfz20_0; try clear hfz20_1; try clear hfz20_2; try clear hfz20_3; try clear hfz5_0; try clear hfz5_1; try clear hfz5_2; try clear hfz5_3; try clear hfz6_0; try clear hfz6_1; try clear hfz6_2; try clear hfz6_3; try clear hx102_0; try clear hx103_0; try clear hx103_1; try clear hx103_2; try clear hx103_3; try clear hx103_4; try clear hx103_5; try clear hx103_6; try clear hx103_7; try clear hx103_8; try clear hx103_9; try clear hx104_0; try clear hx104_1; try clear hx104_2; try clear hx104_3; try clear hx104_4; try clear hx104_5; try clear hx104_6; try clear hx104_7; try clear hx104_8; try clear hx104_9; try clear p1; try clear p10; try clear p102; try clear p103; try clear p104; try clear p2; try clear p6; try clear q1; try clear q10; try clear q102; try clear q103; try clear q104
           obtain ⟨kq, x54_14, rfl, HA, HJ14, BK101, HB⟩ := hcut
           cases kq with
           | zero => exact absurd HA.out (by simp [tontinehelp_WideConf.j3])
           | succ kj14 =>
            have H := HA.out; clear HA
            simp only [tontinehelp_WideConf.j3] at H
            by_cases c21 : x54_14 = true
            ·
             subst c21
             rw [if_pos rfl] at H
             obtain rfl := Option.some.inj H
             go_wp2
             go_ret
             exact ⟨by first | rfl | (simp [errW_none, errW_some] <;> rfl) | (simp [*, errW_none, errW_some] <;> rfl), by repeat (first | (with_reducible first | exact HB.out | apply below_alloc | apply pw_below_drewN | apply below_drew1 | refine below_set ?_ GE101.out) | exact HB.out)⟩
            ·
             replace c21 := Bool.eq_false_iff.mpr c21
             subst c21
             rw [if_neg (show ¬ (false = true) by decide)] at H
             have H' := Goto.m0 H
             clear H
             go_wp2
             go_loopg [5] kj14 (fun kq v5 w' => ∃ (x5_5 : Int), v5 = .int .i64 x5_5 ∧ Aside0 (tontinehelp_WideConf.l2 kq x4_3 x5_5 a0_0 a0_1 l0_2 l0_3 = some r) ∧ Aside0 (kq ≤ kj14) ∧ Aside0 (w'.heap[gb101]? = some (.cells #[.int .i64 a0_0, .int .i64 a0_1, (.slice A0_2 l0_2.length c0_2), (.slice A0_3 l0_3.length c0_3)] 25 (0, 0))) ∧ Aside0 (Below w.heap.size w w'))
             case atStart => exact ⟨(0), (by first | rfl | (simp; done) | (simp [*]; done)), H', ⟨Nat.le_refl _⟩, ⟨Goto.bx BK101⟩, ⟨Goto.hx HB⟩⟩
             case round =>
              clear H'
              try clear c1; try clear p1; try clear q1; try clear hx1; try clear c2; try clear p2; try clear c4; try clear c4b0; try clear c4b1; try clear p6; try clear c7; try clear c8; try clear c8b0; try clear c9; try clear c9b0; try clear c10; try clear c10b0; try clear c10b1; try clear p10; try clear q10; try clear hx10; try clear c13; try clear c14; try clear c14b0; try clear c17; try clear c17b0; try clear c18; try clear c18b0; try clear c18b1; try clear c21; try clear hcz11_0; try clear hcz11_1; try clear hcz11_2; try clear hcz11_3; try clear hcz12_0; try clear hcz12_1; try clear hcz12_2; try clear hcz12_3; try clear hcz13_0; try clear hcz13_1; try clear hcz13_2; try clear hcz13_3; try clear hcz16_0; try clear hcz16_1; try clear hcz16_2; try clear hcz16_3; try clear hcz19_0; try clear hcz19_1; try clear hcz19_2; try clear hcz19_3; try clear hcz20_0; try clear hcz20_1; try clear hcz20_2; try clear hcz20_3; try clear hcz5_0; try clear hcz5_1; try clear hcz5_2; try clear hcz5_3; try clear hcz6_0; try clear hcz6_1; try clear hcz6_2; try clear hcz6_3; try clear hfz11_0; try clear hfz11_1; try clear hfz11_2; try clear hfz11_3; try clear hfz12_0; try clear hfz12_1; try clear hfz12_2; try clear hfz12_3; try clear hfz13_0; try clear hfz13_1; try clear hfz13_2; try clear hfz13_3; try clear hfz16_0; try clear hfz16_1; try clear hfz16_2; try clear hfz16_3; try clear hfz19_0; try clear hfz19_1; try clear hfz19_2; try clear hfz19_3; try clear hfz20_0; try clear hfz20_1; try clear hfz20_2; try clear hfz20_3; try clear hfz5_0; try clear hfz5_1; try clear hfz5_2; try clear hfz5_3; try clear hfz6_0; try clear hfz6_1; try clear hfz6_2; try clear hfz6_3; try clear hx102_0; try clear hx103_0; try clear hx103_1; try clear hx103_2; try clear hx103_3; try clear hx103_4; try clear hx103_5; try clear hx103_6; try clear hx103_7; try clear hx103_8; try clear hx103_9; try clear hx104_0; try clear hx104_1; try clear hx104_2; try clear hx104_3; try clear hx104_4; try clear hx104_5; try clear hx104_6; try clear hx104_7; try clear hx104_8; try clear hx104_9; try clear p1; try clear p10; try clear p102; try clear p103; try clear p104; try clear p2; try clear p6; try clear q1; try clear q10; try clear q102; try clear q103; try clear q104
              obtain ⟨x5_5, rfl, HA, HK5, BK101, HB⟩ := hrel
              cases gk with
              | zero => exact absurd HA.out (by simp [tontinehelp_WideConf.l2])
              | succ k5 =>
               have H := HA.out; clear HA
               simp only [tontinehelp_WideConf.l2] at H
               by_cases c22 : 0 ≤ x4_3
               ·
                rw [if_pos c22] at H
                have c22b0 : decide (0 ≤ x4_3) = true := decide_eq_true c22
                clear c22
                by_cases c23 : x4_3 < (l0_3.length : Int)
                ·
                 rw [if_pos c23] at H
                 have c23b0 : decide (x4_3 < (l0_3.length : Int)) = true := decide_eq_true c23
                 clear c23
                 by_cases c24 : x5_5 < (((rd_T44 l0_3 x4_3).f1).length : Int)
                 ·
                  rw [if_pos c24] at H
                  have c24b0 : decide (x5_5 < (((rd_T44 l0_3 x4_3).f1).length : Int)) = true := decide_eq_true c24
                  clear c24
                  by_cases c25 : 0 ≤ x5_5
                  ·
                   rw [if_pos c25] at H
                   have c25b0 : decide (0 ≤ x5_5) = true := decide_eq_true c25
                   clear c25
                   by_cases c26 : ((rd_L1 ((rd_T44 l0_3 x4_3).f1) x5_5).length : Int) > 20
                   ·
                    rw [if_pos c26] at H
                    have c26b0 : decide (20 < ((rd_L1 ((rd_T44 l0_3 x4_3).f1) x5_5).length : Int)) = true := decide_eq_true c26
                    have c26b1 : decide (20 < (rd_L1 ((rd_T44 l0_3 x4_3).f1) x5_5).length) = true := decide_eq_true (by omega)
                    clear c26
                    obtain rfl := Option.some.inj H
                    have hcz27_0 := Goto.bc0 BK101; have hcz27_1 := Goto.bc1 BK101; have hcz27_2 := Goto.bc2 BK101; have hcz27_3 := Goto.bc3 BK101; have hfz27_0 := blk_frozen BK101.out 0; have hfz27_1 := blk_frozen BK101.out 1; have hfz27_2 := blk_frozen BK101.out 2; have hfz27_3 := blk_frozen BK101.out 3
                    have p105 : 0 ≤ (x4_3 : Int) := of_decide_eq_true (by first | (with_reducible assumption) | assumption)
                    have q105 : x4_3 < (l0_3.length : Int) := of_decide_eq_true (by first | (with_reducible assumption) | assumption)
                    obtain ⟨ad105, A105_2, c105_2, A105_3, c105_3, e105, hx105_0, hx105_1, hx105_2, hx105_3, hx105_4, hx105_5, hx105_6, hx105_7, hx105_8, hx105_9, hl105_2, hi105_2, hl105_3, hi105_3⟩ := at_T44 HR0_3.out x4_3 p105 q105
                    cases e105
                    replace hx105_0 := Goto.kc HB.out hx105_0
                    replace hx105_1 := Goto.kc HB.out hx105_1
                    replace hx105_2 := Goto.kc HB.out hx105_2
                    replace hx105_3 := Goto.kc HB.out hx105_3
                    replace hx105_4 := Goto.kc HB.out hx105_4
                    replace hx105_5 := Goto.kc HB.out hx105_5
                    replace hx105_6 := Goto.kc HB.out hx105_6
                    replace hx105_7 := Goto.kc HB.out hx105_7
                    replace hx105_8 := Goto.kc HB.out hx105_8
                    replace hx105_9 := Goto.kc HB.out hx105_9
                    have HR105_2 := Goto.m0 hi105_2
                    have HC105_2 := Goto.m0 hl105_2
                    clear hi105_2 hl105_2
                    have HR105_3 := Goto.m0 hi105_3
                    have HC105_3 := Goto.m0 hl105_3
                    clear hi105_3 hl105_3; replace p105 := eq_true p105; replace q105 := eq_true q105
                    have p106 : 0 ≤ (x4_3 : Int) := of_decide_eq_true (by first | (with_reducible assumption) | assumption)
                    have q106 : x4_3 < (l0_3.length : Int) := of_decide_eq_true (by first | (with_reducible assumption) | assumption)
                    obtain ⟨ad106, A106_2, c106_2, A106_3, c106_3, e106, hx106_0, hx106_1, hx106_2, hx106_3, hx106_4, hx106_5, hx106_6, hx106_7, hx106_8, hx106_9, hl106_2, hi106_2, hl106_3, hi106_3⟩ := at_T44 HR0_3.out x4_3 p106 q106
                    obtain rfl : ad105 = ad106 := (by injection e106)
                    replace hx106_0 := Goto.kc HB.out hx106_0
                    replace hx106_1 := Goto.kc HB.out hx106_1
                    replace hx106_2 := Goto.kc HB.out hx106_2
                    replace hx106_3 := Goto.kc HB.out hx106_3
                    replace hx106_4 := Goto.kc HB.out hx106_4
                    replace hx106_5 := Goto.kc HB.out hx106_5
                    replace hx106_6 := Goto.kc HB.out hx106_6
                    replace hx106_7 := Goto.kc HB.out hx106_7
                    replace hx106_8 := Goto.kc HB.out hx106_8
                    replace hx106_9 := Goto.kc HB.out hx106_9
                    have HR106_2 := Goto.m0 hi106_2
                    have HC106_2 := Goto.m0 hl106_2
                    clear hi106_2 hl106_2
                    have HR106_3 := Goto.m0 hi106_3
                    have HC106_3 := Goto.m0 hl106_3
                    clear hi106_3 hl106_3; replace p106 := eq_true p106; replace q106 := eq_true q106
                    have ea_ := Option.some.inj (hx105_2.symm.trans hx106_2)
                    injection ea_ with ea_ en_ ec_
                    subst ea_
                    subst ec_
                    clear en_
                    have ea_ := Option.some.inj (hx105_3.symm.trans hx106_3)
                    injection ea_ with ea_ en_ ec_
                    subst ea_
                    subst ec_
                    clear en_
                    have p107 : 0 ≤ (x5_5 : Int) := of_decide_eq_true (by first | (with_reducible assumption) | assumption)
                    have q107 : x5_5 < (((rd_T44 l0_3 x4_3).f1).length : Int) := of_decide_eq_true (by first | (with_reducible assumption) | assumption)
                    obtain ⟨ad107, A107_0, c107_0, e107, hx107_0, hl107_0, hi107_0⟩ := at_L1 HR106_2.out x5_5 p107 q107
                    cases e107
                    replace hx107_0 := Goto.kc HB.out hx107_0
                    have HR107_0 := Goto.m0 hi107_0
                    have HC107_0 := Goto.m0 hl107_0
                    clear hi107_0 hl107_0; replace p107 := eq_true p107; replace q107 := eq_true q107
                    go_wp2
                    go_ret
                    exact ⟨by first | rfl | (simp [errW_none, errW_some] <;> rfl) | (simp [*, errW_none, errW_some] <;> rfl), by repeat (first | (with_reducible first | exact HB.out | apply below_alloc | apply pw_below_drewN | apply below_drew1 | refine below_set ?_ GE101.out) | exact HB.out)⟩
                   ·
                    rw [if_neg c26] at H
                    have c26b0 : decide (20 < ((rd_L1 ((rd_T44 l0_3 x4_3).f1) x5_5).length : Int)) = false := decide_eq_false c26
                    have c26b1 : decide (20 < (rd_L1 ((rd_T44 l0_3 x4_3).f1) x5_5).length) = false := decide_eq_false (by omega)
                    clear c26
                    have H' := Goto.m0 H
                    clear H; have hcz28_0 := Goto.bc0 BK101; have hcz28_1 := Goto.bc1 BK101; have hcz28_2 := Goto.bc2 BK101; have hcz28_3 := Goto.bc3 BK101; have hfz28_0 := blk_frozen BK101.out 0; have hfz28_1 := blk_frozen BK101.out 1; have hfz28_2 := blk_frozen BK101.out 2; have hfz28_3 := blk_frozen BK101.out 3
                    have p105 : 0 ≤ (x4_3 : Int) := of_decide_eq_true (by first | (with_reducible assumption) | assumption)
                    have q105 : x4_3 < (l0_3.length : Int) := of_decide_eq_true (by first | (with_reducible assumption) | assumption)
                    obtain ⟨ad105, A105_2, c105_2, A105_3, c105_3, e105, hx105_0, hx105_1, hx105_2, hx105_3, hx105_4, hx105_5, hx105_6, hx105_7, hx105_8, hx105_9, hl105_2, hi105_2, hl105_3, hi105_3⟩ := at_T44 HR0_3.out x4_3 p105 q105
                    cases e105
                    replace hx105_0 := Goto.kc HB.out hx105_0
                    replace hx105_1 := Goto.kc HB.out hx105_1
                    replace hx105_2 := Goto.kc HB.out hx105_2
                    replace hx105_3 := Goto.kc HB.out hx105_3
                    replace hx105_4 := Goto.kc HB.out hx105_4
                    replace hx105_5 := Goto.kc HB.out hx105_5
                    replace hx105_6 := Goto.kc HB.out hx105_6
                    replace hx105_7 := Goto.kc HB.out hx105_7
                    replace hx105_8 := Goto.kc HB.out hx105_8
                    replace hx105_9 := Goto.kc HB.out hx105_9
                    have HR105_2 := Goto.m0 hi105_2
                    have HC105_2 := Goto.m0 hl105_2
                    clear hi105_2 hl105_2
                    have HR105_3 := Goto.m0 hi105_3
                    have HC105_3 := Goto.m0 hl105_3
                    clear hi105_3 hl105_3; replace p105 := eq_true p105; replace q105 := eq_true q105
                    have p106 : 0 ≤ (x4_3 : Int) := of_decide_eq_true (by first | (with_reducible assumption) | assumption)
                    have q106 : x4_3 < (l0_3.length : Int) := of_decide_eq_true (by first | (with_reducible assumption) | assumption)
                    obtain ⟨ad106, A106_2, c106_2, A106_3, c106_3, e106, hx106_0, hx106_1, hx106_2, hx106_3, hx106_4, hx106_5, hx106_6, hx106_7, hx106_8, hx106_9, hl106_2, hi106_2, hl106_3, hi106_3⟩ := at_T44 HR0_3.out x4_3 p106 q106
                    obtain rfl : ad105 = ad106 := (by injection e106)
                    replace hx106_0 := Goto.kc HB.out hx106_0
                    replace hx106_1 := Goto.kc HB.out hx106_1
                    replace hx106_2 := Goto.kc HB.out hx106_2
                    replace hx106_3 := Goto.kc HB.out hx106_3
                    replace hx106_4 := Goto.kc HB.out hx106_4
                    replace hx106_5 := Goto.kc HB.out hx106_5
                    replace hx106_6 := Goto.kc HB.out hx106_6
                    replace hx106_7 := Goto.kc HB.out hx106_7
                    replace hx106_8 := Goto.kc HB.out hx106_8
                    replace hx106_9 := Goto.kc HB.out hx106_9
                    have HR106_2 := Goto.m0 hi106_2
                    have HC106_2 := Goto.m0 hl106_2
                    clear hi106_2 hl106_2
                    have HR106_3 := Goto.m0 hi106_3
                    have HC106_3 := Goto.m0 hl106_3
                    clear hi106_3 hl106_3; replace p106 := eq_true p106; replace q106 := eq_true q106
                    have ea_ := Option.some.inj (hx105_2.symm.trans hx106_2)
                    injection ea_ with ea_ en_ ec_
                    subst ea_
                    subst ec_
                    clear en_
                    have ea_ := Option.some.inj (hx105_3.symm.trans hx106_3)
                    injection ea_ with ea_ en_ ec_
                    subst ea_
                    subst ec_
                    clear en_
                    have p107 : 0 ≤ (x5_5 : Int) := of_decide_eq_true (by first | (with_reducible assumption) | assumption)
                    have q107 : x5_5 < (((rd_T44 l0_3 x4_3).f1).length : Int) := of_decide_eq_true (by first | (with_reducible assumption) | assumption)
                    obtain ⟨ad107, A107_0, c107_0, e107, hx107_0, hl107_0, hi107_0⟩ := at_L1 HR106_2.out x5_5 p107 q107
                    cases e107
                    replace hx107_0 := Goto.kc HB.out hx107_0
                    have HR107_0 := Goto.m0 hi107_0
                    have HC107_0 := Goto.m0 hl107_0
                    clear hi107_0 hl107_0; replace p107 := eq_true p107; replace q107 := eq_true q107
                    go_wp2
                    go_roundg k5
                    case measure => have := HJ1.out; have := HK2.out; have := HK3.out; have := HJ14.out; have := HK5.out; omega
                    case rel => exact ⟨(wrap64 (x5_5 + 1)), (by first | rfl | (simp; done) | (simp [*]; done)), H', ⟨by have := HJ1.out; have := HK2.out; have := HK3.out; have := HJ14.out; have := HK5.out; omega⟩, ⟨Goto.bx BK101⟩, ⟨Goto.hx HB⟩⟩
                  ·
                   rw [if_neg c25] at H
                   exact absurd H (by simp)
                 ·
                  rw [if_neg c24] at H
                  have c24b0 : decide (x5_5 < (((rd_T44 l0_3 x4_3).f1).length : Int)) = false := decide_eq_false c24
                  clear c24
                  have H' := Goto.m0 H
                  clear H; have hcz29_0 := Goto.bc0 BK101; have hcz29_1 := Goto.bc1 BK101; have hcz29_2 := Goto.bc2 BK101; have hcz29_3 := Goto.bc3 BK101; have hfz29_0 := blk_frozen BK101.out 0; have hfz29_1 := blk_frozen BK101.out 1; have hfz29_2 := blk_frozen BK101.out 2; have hfz29_3 := blk_frozen BK101.out 3
                  have p105 : 0 ≤ (x4_3 : Int) := of_decide_eq_true (by first | (with_reducible assumption) | assumption)
                  have q105 : x4_3 < (l0_3.length : Int) := of_decide_eq_true (by first | (with_reducible assumption) | assumption)
                  obtain ⟨ad105, A105_2, c105_2, A105_3, c105_3, e105, hx105_0, hx105_1, hx105_2, hx105_3, hx105_4, hx105_5, hx105_6, hx105_7, hx105_8, hx105_9, hl105_2, hi105_2, hl105_3, hi105_3⟩ := at_T44 HR0_3.out x4_3 p105 q105
                  cases e105
                  replace hx105_0 := Goto.kc HB.out hx105_0
                  replace hx105_1 := Goto.kc HB.out hx105_1
                  replace hx105_2 := Goto.kc HB.out hx105_2
                  replace hx105_3 := Goto.kc HB.out hx105_3
                  replace hx105_4 := Goto.kc HB.out hx105_4
                  replace hx105_5 := Goto.kc HB.out hx105_5
                  replace hx105_6 := Goto.kc HB.out hx105_6
                  replace hx105_7 := Goto.kc HB.out hx105_7
                  replace hx105_8 := Goto.kc HB.out hx105_8
                  replace hx105_9 := Goto.kc HB.out hx105_9
                  have HR105_2 := Goto.m0 hi105_2
                  have HC105_2 := Goto.m0 hl105_2
                  clear hi105_2 hl105_2
                  have HR105_3 := Goto.m0 hi105_3
                  have HC105_3 := Goto.m0 hl105_3
                  clear hi105_3 hl105_3; replace p105 := eq_true p105; replace q105 := eq_true q105
                  go_wp2
                  go_roundg k5
                  case measure => have := HJ1.out; have := HK2.out; have := HK3.out; have := HJ14.out; have := HK5.out; omega
                  case rel => exact ⟨(wrap64 (x4_3 + 1)), (by first | rfl | (simp; done) | (simp [*]; done)), H', ⟨by have := HJ1.out; have := HK2.out; have := HK3.out; have := HJ14.out; have := HK5.out; omega⟩, ⟨Goto.bx BK101⟩, ⟨Goto.hx HB⟩⟩
                ·
                 rw [if_neg c23] at H
                 exact absurd H (by simp)
               ·
                rw [if_neg c22] at H
                exact absurd H (by simp)
         ·
          rw [if_neg c14] at H
          have c14b0 : decide (x4_3 < (l0_3.length : Int)) = false := decide_eq_false c14
          clear c14
          obtain rfl := Option.some.inj H
          have hcz30_0 := Goto.bc0 BK101; have hcz30_1 := Goto.bc1 BK101; have hcz30_2 := Goto.bc2 BK101; have hcz30_3 := Goto.bc3 BK101; have hfz30_0 := blk_frozen BK101.out 0; have hfz30_1 := blk_frozen BK101.out 1; have hfz30_2 := blk_frozen BK101.out 2; have hfz30_3 := blk_frozen BK101.out 3
          go_wp2
          go_ret
          exact ⟨by first | rfl | (simp [errW_none, errW_some] <;> rfl) | (simp [*, errW_none, errW_some] <;> rfl), by repeat (first | (with_reducible first | exact HB.out | apply below_alloc | apply pw_below_drewN | apply below_drew1 | refine below_set ?_ GE101.out) | exact HB.out)⟩

end Go.Proofs.Ytbhfkhcedjgpdaa.P
