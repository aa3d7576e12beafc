/- Printed by a program of this workplace (a turned copy of the kit's optional print), out of the translation; not trusted: Lean checks it. -/
import Derived.Test.YtjgdcifbhmjinaaDoorPx0
namespace Go.Proofs.YtjgdcifbhmjinaaDoor.P
open Go.RowKit Go.Proofs.YtjgdcifbhmjinaaDoorW.PrintWords Go.Proofs.YtjgdcifbhmjinaaDoorW.PrintLast Go.Proofs.YtjgdcifbhmjinaaDoorW.PrintMore
attribute [local go_sem] max2_int min2_int max_two min_two max_three min_three max_four min_four   -- for this text's walks alone
set_option linter.unusedVariables false
set_option linter.unusedSimpArgs false

/-! ### tontinehelp_WideConf: function 5 -/
mutual
def tontinehelp_WideConf.j0 : Nat → Bool → Int → Int → List (List Int) → List (S40) → Option (Bool)
  | 0, _, _, _, _, _ => none
  | k + 1, x15, x236000, x236001, x236002, x236003 => if x15 = true then (some true) else (tontinehelp_WideConf.l0 k 0 x236000 x236001 x236002 x236003)
def tontinehelp_WideConf.l0 : Nat → Int → Int → Int → List (List Int) → List (S40) → Option (Bool)
  | 0, _, _, _, _, _ => none
  | k + 1, x3, x236000, x236001, x236002, x236003 => if x3 < (x236002.length : Int) then (if 0 ≤ x3 then (if ((rd_L3 x236002 x3).length : Int) > 20 then (some true) else (tontinehelp_WideConf.l0 k (wrap64 (x3 + 1)) x236000 x236001 x236002 x236003)) else (none)) else (tontinehelp_WideConf.l1 k 0 x236000 x236001 x236002 x236003)
def tontinehelp_WideConf.l1 : Nat → Int → Int → Int → List (List Int) → List (S40) → Option (Bool)
  | 0, _, _, _, _, _ => none
  | k + 1, x4, x236000, x236001, x236002, x236003 => if x4 < (x236003.length : Int) then (if 0 ≤ x4 then (if (((rd_T40 x236003 x4).f1).length : Int) > 10 then (tontinehelp_WideConf.j3 k x4 true x236000 x236001 x236002 x236003) else (tontinehelp_WideConf.j3 k x4 (decide ((((rd_T40 x236003 x4).f2).length : Int) > 10)) x236000 x236001 x236002 x236003)) else (none)) else (some false)
def tontinehelp_WideConf.j3 : Nat → Int → Bool → Int → Int → List (List Int) → List (S40) → Option (Bool)
  | 0, _, _, _, _, _, _ => none
  | k + 1, x4, x54, x236000, x236001, x236002, x236003 => if x54 = true then (some true) else (tontinehelp_WideConf.l2 k x4 0 x236000 x236001 x236002 x236003)
def tontinehelp_WideConf.l2 : Nat → Int → Int → Int → Int → List (List Int) → List (S40) → Option (Bool)
  | 0, _, _, _, _, _, _ => none
  | k + 1, x4, x5, x236000, x236001, x236002, x236003 => if 0 ≤ x4 then (if x4 < (x236003.length : Int) then (if x5 < (((rd_T40 x236003 x4).f1).length : Int) then (if 0 ≤ x5 then (if ((rd_L3 ((rd_T40 x236003 x4).f1) x5).length : Int) > 20 then (some true) else (tontinehelp_WideConf.l2 k x4 (wrap64 (x5 + 1)) x236000 x236001 x236002 x236003)) else (none)) else (tontinehelp_WideConf.l1 k (wrap64 (x4 + 1)) x236000 x236001 x236002 x236003)) else (none)) else (none)
end
def tontinehelp_WideConf.f (k : Nat) (a0_0 : Int) (a0_1 : Int) (l0_2 : List (List Int)) (l0_3 : List (S40)) : Option (Bool) := if (l0_3.length : Int) > 10 then (tontinehelp_WideConf.j0 k true a0_0 a0_1 l0_2 l0_3) else (tontinehelp_WideConf.j0 k (decide ((l0_2.length : Int) > 10)) a0_0 a0_1 l0_2 l0_3)
set_option maxHeartbeats 8000000 in
set_option maxRecDepth 100000 in
theorem tontinehelp_WideConf.calls (k : Nat) (a0_0 : Int) (a0_1 : Int) (A0_2 : Option Addr) (c0_2 : Nat) (l0_2 : List (List Int)) (A0_3 : Option Addr) (c0_3 : Nat) (l0_3 : List (S40)) (r : Bool) (w : World) (hr0_2 : Kd.C (Kd.slice 3 (Kd.int .i64)) w A0_2 l0_2.length l0_2) (hc0_2 : l0_2.length ≤ c0_2) (hr0_3 : Kd.C k40 w A0_3 l0_3.length l0_3) (hc0_3 : l0_3.length ≤ c0_3) (h : tontinehelp_WideConf.f k a0_0 a0_1 l0_2 l0_3 = some r) :
    Calls Tryd.prog 5 #[.agg #[.int .i64 a0_0, .int .i64 a0_1, .slice A0_2 l0_2.length c0_2, .slice A0_3 l0_3.length c0_3]] w fun e w' => e = .returned (.bool r) ∧ Below w.heap.size w w' := by
 have hu25 := Tryd.underlying25
 have HR0_2 := Goto.m0 hr0_2
 have HC0_2 := Goto.m0 hc0_2
 clear hr0_2 hc0_2
 have HR0_3 := Goto.m0 hr0_3
 have HC0_3 := Goto.m0 hc0_3
 clear hr0_3 hc0_3
 have HB := Goto.m0 (Below.refl w.heap.size w)
 have H : (if (l0_3.length : Int) > 10 then (tontinehelp_WideConf.j0 k true a0_0 a0_1 l0_2 l0_3) else (tontinehelp_WideConf.j0 k (decide ((l0_2.length : Int) > 10)) a0_0 a0_1 l0_2 l0_3)) = some r := h
 clear h
 have HC2 := Goto.m0 H
 clear H
 go_enter Tryd.func5, Tryd.ntmps5
 go_upto_region 1 with (first | ((with_reducible refine gate_dst (N := 1) rfl ?_); (try (refine gate_guard (by rfl) ?_; dsimp only)); refine box_event ?hg (N := 1) ?hd (cs := #[.int .i64 a0_0, .int .i64 a0_1, .slice A0_2 l0_2.length c0_2, .slice A0_3 l0_3.length c0_3]) (t := 25) ?hr ?_; (case hd => rfl); (case hg => rfl); (case hr => first | (go_simp; done) | (go_simp; rfl)); intro gb235 hg w3 hbox hb; have BK235 := Goto.m0 (hbox); have GW235 := Goto.gs HB hg; have GE235 := Goto.gs HB hg; replace HB := Goto.hs HB hb; clear hb hbox hg))
 (try simp only [Act.put, List.setIfInBounds_toArray, List.set_cons_zero, List.set_cons_succ])
 go_cut [15] (fun v15 wc => ∃ (kq : Nat) (x15_1 : Bool), v15 = .bool x15_1 ∧ Aside0 (tontinehelp_WideConf.j0 kq x15_1 a0_0 a0_1 l0_2 l0_3 = some r) ∧ Aside0 (kq ≤ k) ∧ Aside0 (wc.heap[gb235]? = some (.cells #[.int .i64 a0_0, .int .i64 a0_1, (.slice A0_2 l0_2.length c0_2), (.slice A0_3 l0_3.length c0_3)] 25 (0, 0))) ∧ Aside0 (Below w.heap.size w wc))
 case first =>
  have H := HC2.out; clear HC2
  by_cases c4 : (l0_3.length : Int) > 10
  ·
   rw [if_pos c4] at H
   have c4b0 : decide (10 < (l0_3.length : Int)) = true := decide_eq_true c4
   have c4b1 : decide (10 < l0_3.length) = true := decide_eq_true (by omega)
   clear c4
   (first | rw [c4b0] | (simp only [i64_w, i32_w]; rw [c4b0]) | skip)
   have H' := Goto.m0 H
   clear H; have hcz5_0 := Goto.bc0 BK235; have hcz5_1 := Goto.bc1 BK235; have hcz5_2 := Goto.bc2 BK235; have hcz5_3 := Goto.bc3 BK235; have hfz5_0 := Goto.bf BK235 0; have hfz5_1 := Goto.bf BK235 1; have hfz5_2 := Goto.bf BK235 2; have hfz5_3 := Goto.bf BK235 3
   go_wp2
   go_meet
   case rel => exact ⟨_, (true), (by first | rfl | (simp; done) | (simp [*]; done)), H', ⟨by first | omega | exact Nat.le_refl _⟩, ⟨Goto.bx BK235⟩, ⟨Goto.hx HB⟩⟩
  ·
   rw [if_neg c4] at H
   have c4b0 : decide (10 < (l0_3.length : Int)) = false := decide_eq_false c4
   have c4b1 : decide (10 < l0_3.length) = false := decide_eq_false (by omega)
   clear c4
   (first | rw [c4b0] | (simp only [i64_w, i32_w]; rw [c4b0]) | skip)
   have H' := Goto.m0 H
   clear H; have hcz6_0 := Goto.bc0 BK235; have hcz6_1 := Goto.bc1 BK235; have hcz6_2 := Goto.bc2 BK235; have hcz6_3 := Goto.bc3 BK235; have hfz6_0 := Goto.bf BK235 0; have hfz6_1 := Goto.bf BK235 1; have hfz6_2 := Goto.bf BK235 2; have hfz6_3 := Goto.bf BK235 3
   go_wp2
   go_meet
   case rel => exact ⟨_, (decide ((l0_2.length : Int) > 10)), (by first | rfl | (simp; done) | (simp [*]; done)), H', ⟨by first | omega | exact Nat.le_refl _⟩, ⟨Goto.bx BK235⟩, ⟨Goto.hx HB⟩⟩
 case rest =>
  clear HC2; try clear p2; try clear c4; try clear c4b0; try clear c4b1; try clear c5; try clear hcz5_0; try clear hcz5_1; try clear hcz5_2; try clear hcz5_3; try clear hcz6_0; try clear hcz6_1; try clear hcz6_2; try clear hcz6_3; try clear hfz5_0; try clear hfz5_1; try clear hfz5_2; try clear hfz5_3; try clear hfz6_0; try clear hfz6_1; try clear hfz6_2; try clear hfz6_3
  obtain ⟨kq, x15_1, rfl, HA, HJ1, BK235, HB⟩ := hcut
  cases kq with
  | zero => exact absurd HA.out (by simp [tontinehelp_WideConf.j0])
  | succ kj1 =>
   have H := HA.out; clear HA
   simp only [tontinehelp_WideConf.j0] at H
   by_cases c7 : x15_1 = true
   ·
    subst c7
    rw [if_pos rfl] at H
    obtain rfl := Option.some.inj H
    go_wp2
    go_ret
    exact ⟨Goto.er, by repeat (first | (with_reducible first | exact HB.out | apply below_alloc | apply pw_below_drewN | apply below_drew1 | refine below_set ?_ GE235.out) | exact HB.out)⟩
   ·
    replace c7 := Bool.eq_false_iff.mpr c7
    subst c7
    rw [if_neg (show ¬ (false = true) by decide)] at H
    have H' := Goto.m0 H
    clear H
    go_wp2
    go_loopg [3] kj1 (fun kq v3 w' => ∃ (x3_2 : Int), v3 = .int .i64 x3_2 ∧ Aside0 (tontinehelp_WideConf.l0 kq x3_2 a0_0 a0_1 l0_2 l0_3 = some r) ∧ Aside0 (kq ≤ kj1) ∧ Aside0 (w'.heap[gb235]? = some (.cells #[.int .i64 a0_0, .int .i64 a0_1, (.slice A0_2 l0_2.length c0_2), (.slice A0_3 l0_3.length c0_3)] 25 (0, 0))) ∧ Aside0 (Below w.heap.size w w'))
    case atStart => exact ⟨(0), (by first | rfl | (simp; done) | (simp [*]; done)), H', ⟨Nat.le_refl _⟩, ⟨Goto.bx BK235⟩, ⟨Goto.hx HB⟩⟩
    case round =>
     clear H'
     try clear p2; try clear c4; try clear c4b0; try clear c4b1; try clear c5; try clear c7; try clear hcz5_0; try clear hcz5_1; try clear hcz5_2; try clear hcz5_3; try clear hcz6_0; try clear hcz6_1; try clear hcz6_2; try clear hcz6_3; try clear hfz5_0; try clear hfz5_1; try clear hfz5_2; try clear hfz5_3; try clear hfz6_0; try clear hfz6_1; try clear hfz6_2; try clear hfz6_3; try clear p2
     obtain ⟨x3_2, rfl, HA, HK2, BK235, HB⟩ := hrel
     cases gk with
     | zero => exact absurd HA.out (by simp [tontinehelp_WideConf.l0])
     | succ k2 =>
      have H := HA.out; clear HA
      simp only [tontinehelp_WideConf.l0] at H
      by_cases c8 : x3_2 < (l0_2.length : Int)
      ·
       rw [if_pos c8] at H
       have c8b0 : decide (x3_2 < (l0_2.length : Int)) = true := decide_eq_true c8
       clear c8
       by_cases c9 : 0 ≤ x3_2
       ·
        rw [if_pos c9] at H
        have c9b0 : decide (0 ≤ x3_2) = true := decide_eq_true c9
        clear c9
        by_cases c10 : ((rd_L3 l0_2 x3_2).length : Int) > 20
        ·
         rw [if_pos c10] at H
         have c10b0 : decide (20 < ((rd_L3 l0_2 x3_2).length : Int)) = true := decide_eq_true c10
         have c10b1 : decide (20 < (rd_L3 l0_2 x3_2).length) = true := decide_eq_true (by omega)
         clear c10
         obtain rfl := Option.some.inj H
         have hcz11_0 := Goto.bc0 BK235; have hcz11_1 := Goto.bc1 BK235; have hcz11_2 := Goto.bc2 BK235; have hcz11_3 := Goto.bc3 BK235; have hfz11_0 := Goto.bf BK235 0; have hfz11_1 := Goto.bf BK235 1; have hfz11_2 := Goto.bf BK235 2; have hfz11_3 := Goto.bf BK235 3
         have p236 : 0 ≤ (x3_2 : Int) := Goto.od
         have q236 : x3_2 < (l0_2.length : Int) := Goto.od
         obtain ⟨ad236, A236_0, c236_0, e236, hx236_0, hl236_0, hi236_0⟩ := at_L3 HR0_2.out x3_2 p236 q236
         cases e236
         replace hx236_0 := Goto.kc HB.out hx236_0
         have HR236_0 := Goto.m0 hi236_0
         have HC236_0 := Goto.m0 hl236_0
         clear hi236_0 hl236_0; replace p236 := eq_true p236; replace q236 := eq_true q236
         go_wp2
         go_ret
         exact ⟨Goto.er, by repeat (first | (with_reducible first | exact HB.out | apply below_alloc | apply pw_below_drewN | apply below_drew1 | refine below_set ?_ GE235.out) | exact HB.out)⟩
        ·
         rw [if_neg c10] at H
         have c10b0 : decide (20 < ((rd_L3 l0_2 x3_2).length : Int)) = false := decide_eq_false c10
         have c10b1 : decide (20 < (rd_L3 l0_2 x3_2).length) = false := decide_eq_false (by omega)
         clear c10
         have H' := Goto.m0 H
         clear H; have hcz12_0 := Goto.bc0 BK235; have hcz12_1 := Goto.bc1 BK235; have hcz12_2 := Goto.bc2 BK235; have hcz12_3 := Goto.bc3 BK235; have hfz12_0 := Goto.bf BK235 0; have hfz12_1 := Goto.bf BK235 1; have hfz12_2 := Goto.bf BK235 2; have hfz12_3 := Goto.bf BK235 3
         have p236 : 0 ≤ (x3_2 : Int) := Goto.od
         have q236 : x3_2 < (l0_2.length : Int) := Goto.od
         obtain ⟨ad236, A236_0, c236_0, e236, hx236_0, hl236_0, hi236_0⟩ := at_L3 HR0_2.out x3_2 p236 q236
         cases e236
         replace hx236_0 := Goto.kc HB.out hx236_0
         have HR236_0 := Goto.m0 hi236_0
         have HC236_0 := Goto.m0 hl236_0
         clear hi236_0 hl236_0; replace p236 := eq_true p236; replace q236 := eq_true q236
         go_wp2
         go_roundg k2
         case measure => have := HJ1.out; have := HK2.out; omega
         case rel => exact ⟨(wrap64 (x3_2 + 1)), (by first | rfl | (simp; done) | (simp [*]; done)), H', ⟨by have := HJ1.out; have := HK2.out; omega⟩, ⟨Goto.bx BK235⟩, ⟨Goto.hx HB⟩⟩
       ·
        rw [if_neg c9] at H
        exact absurd H (by simp)
      ·
       rw [if_neg c8] at H
       have c8b0 : decide (x3_2 < (l0_2.length : Int)) = false := decide_eq_false c8
       clear c8
       have H' := Goto.m0 H
       clear H; have hcz13_0 := Goto.bc0 BK235; have hcz13_1 := Goto.bc1 BK235; have hcz13_2 := Goto.bc2 BK235; have hcz13_3 := Goto.bc3 BK235; have hfz13_0 := Goto.bf BK235 0; have hfz13_1 := Goto.bf BK235 1; have hfz13_2 := Goto.bf BK235 2; have hfz13_3 := Goto.bf BK235 3
       go_wp2
       go_loopg [4] k2 (fun kq v4 w' => ∃ (x4_3 : Int), v4 = .int .i64 x4_3 ∧ Aside0 (tontinehelp_WideConf.l1 kq x4_3 a0_0 a0_1 l0_2 l0_3 = some r) ∧ Aside0 (kq ≤ k2) ∧ Aside0 (w'.heap[gb235]? = some (.cells #[.int .i64 a0_0, .int .i64 a0_1, (.slice A0_2 l0_2.length c0_2), (.slice A0_3 l0_3.length c0_3)] 25 (0, 0))) ∧ Aside0 (Below w.heap.size w w'))
       case atStart => exact ⟨(0), (by first | rfl | (simp; done) | (simp [*]; done)), H', ⟨Nat.le_refl _⟩, ⟨Goto.bx BK235⟩, ⟨Goto.hx HB⟩⟩
       case round =>
        clear H'
        try clear c1; try clear c2; try clear p2; try clear q2; try clear hx2; try clear c4; try clear c4b0; try clear c4b1; try clear c5; try clear p6; try clear c7; try clear c8; try clear c8b0; try clear c9; try clear c9b0; try clear c10; try clear c10b0; try clear c10b1; try clear hcz11_0; try clear hcz11_1; try clear hcz11_2; try clear hcz11_3; try clear hcz12_0; try clear hcz12_1; try clear hcz12_2; try clear hcz12_3; try clear hcz13_0; try clear hcz13_1; try clear hcz13_2; try clear hcz13_3; try clear hcz5_0; try clear hcz5_1; try clear hcz5_2; try clear hcz5_3; try clear hcz6_0; try clear hcz6_1; try clear hcz6_2; try clear hcz6_3; try clear hfz11_0; try clear hfz11_1; try clear hfz11_2; try clear hfz11_3; try clear hfz12_0; try clear hfz12_1; try clear hfz12_2; try clear hfz12_3; try clear hfz13_0; try clear hfz13_1; try clear hfz13_2; try clear hfz13_3; try clear hfz5_0; try clear hfz5_1; try clear hfz5_2; try clear hfz5_3; try clear hfz6_0; try clear hfz6_1; try clear hfz6_2; try clear hfz6_3; try clear hx236_0; try clear p2; try clear p236; try clear q236
        obtain ⟨x4_3, rfl, HA, HK3, BK235, HB⟩ := hrel
        cases gk with
        | zero => exact absurd HA.out (by simp [tontinehelp_WideConf.l1])
        | succ k3 =>
         have H := HA.out; clear HA
         simp only [tontinehelp_WideConf.l1] at H
         by_cases c14 : x4_3 < (l0_3.length : Int)
         ·
          rw [if_pos c14] at H
          have c14b0 : decide (x4_3 < (l0_3.length : Int)) = true := decide_eq_true c14
          clear c14
          have HC15 := Goto.m0 H
          clear H; have hcz16_0 := Goto.bc0 BK235; have hcz16_1 := Goto.bc1 BK235; have hcz16_2 := Goto.bc2 BK235; have hcz16_3 := Goto.bc3 BK235; have hfz16_0 := Goto.bf BK235 0; have hfz16_1 := Goto.bf BK235 1; have hfz16_2 := Goto.bf BK235 2; have hfz16_3 := Goto.bf BK235 3
          go_upto_region 11 with (fail)
          go_cut [54] (fun v54 wc => ∃ (kq : Nat) (x54_14 : Bool), v54 = .bool x54_14 ∧ Aside0 (tontinehelp_WideConf.j3 kq x4_3 x54_14 a0_0 a0_1 l0_2 l0_3 = some r) ∧ Aside0 (kq ≤ k3) ∧ Aside0 (wc.heap[gb235]? = some (.cells #[.int .i64 a0_0, .int .i64 a0_1, (.slice A0_2 l0_2.length c0_2), (.slice A0_3 l0_3.length c0_3)] 25 (0, 0))) ∧ Aside0 (Below w.heap.size w wc))
          case first =>
           have H := HC15.out; clear HC15
           by_cases c17 : 0 ≤ x4_3
           ·
            rw [if_pos c17] at H
            have c17b0 : decide (0 ≤ x4_3) = true := decide_eq_true c17
            clear c17
            (first | rw [c17b0] | (simp only [i64_w, i32_w]; rw [c17b0]) | skip)
            by_cases c18 : (((rd_T40 l0_3 x4_3).f1).length : Int) > 10
            ·
             rw [if_pos c18] at H
             have c18b0 : decide (10 < (((rd_T40 l0_3 x4_3).f1).length : Int)) = true := decide_eq_true c18
             have c18b1 : decide (10 < ((rd_T40 l0_3 x4_3).f1).length) = true := decide_eq_true (by omega)
             clear c18
             have H' := Goto.m0 H
             clear H; have hcz19_0 := Goto.bc0 BK235; have hcz19_1 := Goto.bc1 BK235; have hcz19_2 := Goto.bc2 BK235; have hcz19_3 := Goto.bc3 BK235; have hfz19_0 := Goto.bf BK235 0; have hfz19_1 := Goto.bf BK235 1; have hfz19_2 := Goto.bf BK235 2; have hfz19_3 := Goto.bf BK235 3
             have p237 : 0 ≤ (x4_3 : Int) := Goto.od
             have q237 : x4_3 < (l0_3.length : Int) := Goto.od
             obtain ⟨ad237, A237_2, c237_2, A237_3, c237_3, e237, hx237_0, hx237_1, hx237_2, hx237_3, hx237_4, hx237_5, hx237_6, hx237_7, hx237_8, hx237_9, hl237_2, hi237_2, hl237_3, hi237_3⟩ := at_T40 HR0_3.out x4_3 p237 q237
             cases e237
             replace hx237_0 := Goto.kc HB.out hx237_0
             replace hx237_1 := Goto.kc HB.out hx237_1
             replace hx237_2 := Goto.kc HB.out hx237_2
             replace hx237_3 := Goto.kc HB.out hx237_3
             replace hx237_4 := Goto.kc HB.out hx237_4
             replace hx237_5 := Goto.kc HB.out hx237_5
             replace hx237_6 := Goto.kc HB.out hx237_6
             replace hx237_7 := Goto.kc HB.out hx237_7
             replace hx237_8 := Goto.kc HB.out hx237_8
             replace hx237_9 := Goto.kc HB.out hx237_9
             have HR237_2 := Goto.m0 hi237_2
             have HC237_2 := Goto.m0 hl237_2
             clear hi237_2 hl237_2
             have HR237_3 := Goto.m0 hi237_3
             have HC237_3 := Goto.m0 hl237_3
             clear hi237_3 hl237_3; replace p237 := eq_true p237; replace q237 := eq_true q237
             go_wp2
             go_meet
             case rel => exact ⟨_, (true), (by first | rfl | (simp; done) | (simp [*]; done)), H', ⟨by have := HJ1.out; have := HK2.out; have := HK3.out; first | omega | exact Nat.le_refl _⟩, ⟨Goto.bx BK235⟩, ⟨Goto.hx HB⟩⟩
            ·
             rw [if_neg c18] at H
             have c18b0 : decide (10 < (((rd_T40 l0_3 x4_3).f1).length : Int)) = false := decide_eq_false c18
             have c18b1 : decide (10 < ((rd_T40 l0_3 x4_3).f1).length) = false := decide_eq_false (by omega)
             clear c18
             have H' := Goto.m0 H
             clear H; have hcz20_0 := Goto.bc0 BK235; have hcz20_1 := Goto.bc1 BK235; have hcz20_2 := Goto.bc2 BK235; have hcz20_3 := Goto.bc3 BK235; have hfz20_0 := Goto.bf BK235 0; have hfz20_1 := Goto.bf BK235 1; have hfz20_2 := Goto.bf BK235 2; have hfz20_3 := Goto.bf BK235 3
             have p237 : 0 ≤ (x4_3 : Int) := Goto.od
             have q237 : x4_3 < (l0_3.length : Int) := Goto.od
             obtain ⟨ad237, A237_2, c237_2, A237_3, c237_3, e237, hx237_0, hx237_1, hx237_2, hx237_3, hx237_4, hx237_5, hx237_6, hx237_7, hx237_8, hx237_9, hl237_2, hi237_2, hl237_3, hi237_3⟩ := at_T40 HR0_3.out x4_3 p237 q237
             cases e237
             replace hx237_0 := Goto.kc HB.out hx237_0
             replace hx237_1 := Goto.kc HB.out hx237_1
             replace hx237_2 := Goto.kc HB.out hx237_2
             replace hx237_3 := Goto.kc HB.out hx237_3
             replace hx237_4 := Goto.kc HB.out hx237_4
             replace hx237_5 := Goto.kc HB.out hx237_5
             replace hx237_6 := Goto.kc HB.out hx237_6
             replace hx237_7 := Goto.kc HB.out hx237_7
             replace hx237_8 := Goto.kc HB.out hx237_8
             replace hx237_9 := Goto.kc HB.out hx237_9
             have HR237_2 := Goto.m0 hi237_2
             have HC237_2 := Goto.m0 hl237_2
             clear hi237_2 hl237_2
             have HR237_3 := Goto.m0 hi237_3
             have HC237_3 := Goto.m0 hl237_3
             clear hi237_3 hl237_3; replace p237 := eq_true p237; replace q237 := eq_true q237
             have p238 : 0 ≤ (x4_3 : Int) := Goto.od
             have q238 : x4_3 < (l0_3.length : Int) := Goto.od
             obtain ⟨ad238, A238_2, c238_2, A238_3, c238_3, e238, hx238_0, hx238_1, hx238_2, hx238_3, hx238_4, hx238_5, hx238_6, hx238_7, hx238_8, hx238_9, hl238_2, hi238_2, hl238_3, hi238_3⟩ := at_T40 HR0_3.out x4_3 p238 q238
             obtain rfl : ad237 = ad238 := (by injection e238)
             replace hx238_0 := Goto.kc HB.out hx238_0
             replace hx238_1 := Goto.kc HB.out hx238_1
             replace hx238_2 := Goto.kc HB.out hx238_2
             replace hx238_3 := Goto.kc HB.out hx238_3
             replace hx238_4 := Goto.kc HB.out hx238_4
             replace hx238_5 := Goto.kc HB.out hx238_5
             replace hx238_6 := Goto.kc HB.out hx238_6
             replace hx238_7 := Goto.kc HB.out hx238_7
             replace hx238_8 := Goto.kc HB.out hx238_8
             replace hx238_9 := Goto.kc HB.out hx238_9
             have HR238_2 := Goto.m0 hi238_2
             have HC238_2 := Goto.m0 hl238_2
             clear hi238_2 hl238_2
             have HR238_3 := Goto.m0 hi238_3
             have HC238_3 := Goto.m0 hl238_3
             clear hi238_3 hl238_3; replace p238 := eq_true p238; replace q238 := eq_true q238
             have ea_ := Option.some.inj (hx237_2.symm.trans hx238_2)
             injection ea_ with ea_ en_ ec_
             subst ea_
             subst ec_
             clear en_
             have ea_ := Option.some.inj (hx237_3.symm.trans hx238_3)
             injection ea_ with ea_ en_ ec_
             subst ea_
             subst ec_
             clear en_
             go_wp2
             go_meet
             case rel => exact ⟨_, (decide ((((rd_T40 l0_3 x4_3).f2).length : Int) > 10)), (by first | rfl | (simp; done) | (simp [*]; done)), H', ⟨by have := HJ1.out; have := HK2.out; have := HK3.out; first | omega | exact Nat.le_refl _⟩, ⟨Goto.bx BK235⟩, ⟨Goto.hx HB⟩⟩
           ·
            rw [if_neg c17] at H
            exact absurd H (by simp)
          case rest =>
           clear HC15; try clear c1; try clear c2; try clear p2; try clear q2; try clear hx2; try clear c4; try clear c4b0; try clear c4b1; try clear c5; try clear p6; try clear c7; try clear c8; try clear c8b0; try clear c9; try clear c9b0; try clear c10; try clear c10b0; try clear c10b1; try clear c14; try clear c14b0; try clear c17; try clear c17b0; try clear c18; try clear c18b0; try clear c18b1; try clear hcz11_0; try clear hcz11_1; try clear hcz11_2; try clear hcz11_3; try clear hcz12_0; try clear hcz12_1; try clear hcz12_2; try clear hcz12_3; try clear hcz13_0; try clear hcz13_1; try clear hcz13_2; try clear hcz13_3; try clear hcz16_0; try clear hcz16_1; try clear hcz16_2; try clear hcz16_3; try clear hcz19_0; try clear hcz19_1; try clear hcz19_2; try clear hcz19_3; try clear hcz20_0; try clear hcz20_1; try clear hcz20_2; try clear hcz20_3; try clear hcz5_0; try clear hcz5_1; try clear hcz5_2; try clear hcz5_3; try clear hcz6_0; try clear hcz6_1; try clear hcz6_2; try clear hcz6_3; try clear hfz11_0; try clear hfz11_1; try clear hfz11_2; try clear hfz11_3; try clear hfz12_0; try clear hfz12_1; try clear hfz12_2; try clear hfz12_3; try clear hfz13_0; try clear hfz13_1; try clear hfz13_2; try clear hfz13_3; try clear hfz16_0; try clear hfz16_1; try clear hfz16_2; try clear hfz16_3; try clear hfz19_0; try clear hfz19_1; try clear hfz19_2; try clear hfz19_3; try clear hfz20_0; try clear hfz20_1; try clear hfz20_2; try clear hfz20_3; try clear hfz5_0; try clear hfz5_1; try clear hfz5_2; try clear hfz5_3; try clear hfz6_0; try clear hfz6_1; try clear hfz6_2; try clear hfz6_3; try clear hx236_0; try clear hx237_0; try clear hx237_1; try clear hx237_2; try clear hx237_3; try clear hx237_4; try clear hx237_5; try clear hx237_6; try clear hx237_7; try clear hx237_8; try clear hx237_9; try clear hx238_0; try clear hx238_1; try clear hx238_2; try clear hx238_3; try clear hx238_4; try clear hx238_5; try clear hx238_6; try clear hx238_7; try clear hx238_8; try clear hx238_9; try clear p2; try clear p236; try clear p237; try clear p238; try clear p6; try clear q2; try clear q236; try clear q237; try clear q238
           obtain ⟨kq, x54_14, rfl, HA, HJ14, BK235, HB⟩ := hcut
           cases kq with
           | zero => exact absurd HA.out (by simp [tontinehelp_WideConf.j3])
           | succ kj14 =>
            have H := HA.out; clear HA
            simp only [tontinehelp_WideConf.j3] at H
            by_cases c21 : x54_14 = true
            ·
             subst c21
             rw [if_pos rfl] at H
             obtain rfl := Option.some.inj H
             go_wp2
             go_ret
             exact ⟨Goto.er, by repeat (first | (with_reducible first | exact HB.out | apply below_alloc | apply pw_below_drewN | apply below_drew1 | refine below_set ?_ GE235.out) | exact HB.out)⟩
            ·
             replace c21 := Bool.eq_false_iff.mpr c21
             subst c21
             rw [if_neg (show ¬ (false = true) by decide)] at H
             have H' := Goto.m0 H
             clear H
             go_wp2
             go_loopg [5] kj14 (fun kq v5 w' => ∃ (x5_5 : Int), v5 = .int .i64 x5_5 ∧ Aside0 (tontinehelp_WideConf.l2 kq x4_3 x5_5 a0_0 a0_1 l0_2 l0_3 = some r) ∧ Aside0 (kq ≤ kj14) ∧ Aside0 (w'.heap[gb235]? = some (.cells #[.int .i64 a0_0, .int .i64 a0_1, (.slice A0_2 l0_2.length c0_2), (.slice A0_3 l0_3.length c0_3)] 25 (0, 0))) ∧ Aside0 (Below w.heap.size w w'))
             case atStart => exact ⟨(0), (by first | rfl | (simp; done) | (simp [*]; done)), H', ⟨Nat.le_refl _⟩, ⟨Goto.bx BK235⟩, ⟨Goto.hx HB⟩⟩
             case round =>
              clear H'
              try clear c1; try clear c2; try clear p2; try clear q2; try clear hx2; try clear c4; try clear c4b0; try clear c4b1; try clear c5; try clear p6; try clear c7; try clear c8; try clear c8b0; try clear c9; try clear c9b0; try clear c10; try clear c10b0; try clear c10b1; try clear c14; try clear c14b0; try clear c17; try clear c17b0; try clear c18; try clear c18b0; try clear c18b1; try clear c21; try clear hcz11_0; try clear hcz11_1; try clear hcz11_2; try clear hcz11_3; try clear hcz12_0; try clear hcz12_1; try clear hcz12_2; try clear hcz12_3; try clear hcz13_0; try clear hcz13_1; try clear hcz13_2; try clear hcz13_3; try clear hcz16_0; try clear hcz16_1; try clear hcz16_2; try clear hcz16_3; try clear hcz19_0; try clear hcz19_1; try clear hcz19_2; try clear hcz19_3; try clear hcz20_0; try clear hcz20_1; try clear hcz20_2; try clear hcz20_3; try clear hcz5_0; try clear hcz5_1; try clear hcz5_2; try clear hcz5_3; try clear hcz6_0; try clear hcz6_1; try clear hcz6_2; try clear hcz6_3; try clear hfz11_0; try clear hfz11_1; try clear hfz11_2; try clear hfz11_3; try clear hfz12_0; try clear hfz12_1; try clear hfz12_2; try clear hfz12_3; try clear hfz13_0; try clear hfz13_1; try clear hfz13_2; try clear hfz13_3; try clear hfz16_0; try clear hfz16_1; try clear hfz16_2; try clear hfz16_3; try clear hfz19_0; try clear hfz19_1; try clear hfz19_2; try clear hfz19_3; try clear hfz20_0; try clear hfz20_1; try clear hfz20_2; try clear hfz20_3; try clear hfz5_0; try clear hfz5_1; try clear hfz5_2; try clear hfz5_3; try clear hfz6_0; try clear hfz6_1; try clear hfz6_2; try clear hfz6_3; try clear hx236_0; try clear hx237_0; try clear hx237_1; try clear hx237_2; try clear hx237_3; try clear hx237_4; try clear hx237_5; try clear hx237_6; try clear hx237_7; try clear hx237_8; try clear hx237_9; try clear hx238_0; try clear hx238_1; try clear hx238_2; try clear hx238_3; try clear hx238_4; try clear hx238_5; try clear hx238_6; try clear hx238_7; try clear hx238_8; try clear hx238_9; try clear p2; try clear p236; try clear p237; try clear p238; try clear p6; try clear q2; try clear q236; try clear q237; try clear q238
              obtain ⟨x5_5, rfl, HA, HK5, BK235, HB⟩ := hrel
              cases gk with
              | zero => exact absurd HA.out (by simp [tontinehelp_WideConf.l2])
              | succ k5 =>
               have H := HA.out; clear HA
               simp only [tontinehelp_WideConf.l2] at H
               by_cases c22 : 0 ≤ x4_3
               ·
                rw [if_pos c22] at H
                have c22b0 : decide (0 ≤ x4_3) = true := decide_eq_true c22
                clear c22
                by_cases c23 : x4_3 < (l0_3.length : Int)
                ·
                 rw [if_pos c23] at H
                 have c23b0 : decide (x4_3 < (l0_3.length : Int)) = true := decide_eq_true c23
                 clear c23
                 by_cases c24 : x5_5 < (((rd_T40 l0_3 x4_3).f1).length : Int)
                 ·
                  rw [if_pos c24] at H
                  have c24b0 : decide (x5_5 < (((rd_T40 l0_3 x4_3).f1).length : Int)) = true := decide_eq_true c24
                  clear c24
                  by_cases c25 : 0 ≤ x5_5
                  ·
                   rw [if_pos c25] at H
                   have c25b0 : decide (0 ≤ x5_5) = true := decide_eq_true c25
                   clear c25
                   by_cases c26 : ((rd_L3 ((rd_T40 l0_3 x4_3).f1) x5_5).length : Int) > 20
                   ·
                    rw [if_pos c26] at H
                    have c26b0 : decide (20 < ((rd_L3 ((rd_T40 l0_3 x4_3).f1) x5_5).length : Int)) = true := decide_eq_true c26
                    have c26b1 : decide (20 < (rd_L3 ((rd_T40 l0_3 x4_3).f1) x5_5).length) = true := decide_eq_true (by omega)
                    clear c26
                    obtain rfl := Option.some.inj H
                    have hcz27_0 := Goto.bc0 BK235; have hcz27_1 := Goto.bc1 BK235; have hcz27_2 := Goto.bc2 BK235; have hcz27_3 := Goto.bc3 BK235; have hfz27_0 := Goto.bf BK235 0; have hfz27_1 := Goto.bf BK235 1; have hfz27_2 := Goto.bf BK235 2; have hfz27_3 := Goto.bf BK235 3
                    have p239 : 0 ≤ (x4_3 : Int) := Goto.od
                    have q239 : x4_3 < (l0_3.length : Int) := Goto.od
                    obtain ⟨ad239, A239_2, c239_2, A239_3, c239_3, e239, hx239_0, hx239_1, hx239_2, hx239_3, hx239_4, hx239_5, hx239_6, hx239_7, hx239_8, hx239_9, hl239_2, hi239_2, hl239_3, hi239_3⟩ := at_T40 HR0_3.out x4_3 p239 q239
                    cases e239
                    replace hx239_0 := Goto.kc HB.out hx239_0
                    replace hx239_1 := Goto.kc HB.out hx239_1
                    replace hx239_2 := Goto.kc HB.out hx239_2
                    replace hx239_3 := Goto.kc HB.out hx239_3
                    replace hx239_4 := Goto.kc HB.out hx239_4
                    replace hx239_5 := Goto.kc HB.out hx239_5
                    replace hx239_6 := Goto.kc HB.out hx239_6
                    replace hx239_7 := Goto.kc HB.out hx239_7
                    replace hx239_8 := Goto.kc HB.out hx239_8
                    replace hx239_9 := Goto.kc HB.out hx239_9
                    have HR239_2 := Goto.m0 hi239_2
                    have HC239_2 := Goto.m0 hl239_2
                    clear hi239_2 hl239_2
                    have HR239_3 := Goto.m0 hi239_3
                    have HC239_3 := Goto.m0 hl239_3
                    clear hi239_3 hl239_3; replace p239 := eq_true p239; replace q239 := eq_true q239
                    have p240 : 0 ≤ (x4_3 : Int) := Goto.od
                    have q240 : x4_3 < (l0_3.length : Int) := Goto.od
                    obtain ⟨ad240, A240_2, c240_2, A240_3, c240_3, e240, hx240_0, hx240_1, hx240_2, hx240_3, hx240_4, hx240_5, hx240_6, hx240_7, hx240_8, hx240_9, hl240_2, hi240_2, hl240_3, hi240_3⟩ := at_T40 HR0_3.out x4_3 p240 q240
                    obtain rfl : ad239 = ad240 := (by injection e240)
                    replace hx240_0 := Goto.kc HB.out hx240_0
                    replace hx240_1 := Goto.kc HB.out hx240_1
                    replace hx240_2 := Goto.kc HB.out hx240_2
                    replace hx240_3 := Goto.kc HB.out hx240_3
                    replace hx240_4 := Goto.kc HB.out hx240_4
                    replace hx240_5 := Goto.kc HB.out hx240_5
                    replace hx240_6 := Goto.kc HB.out hx240_6
                    replace hx240_7 := Goto.kc HB.out hx240_7
                    replace hx240_8 := Goto.kc HB.out hx240_8
                    replace hx240_9 := Goto.kc HB.out hx240_9
                    have HR240_2 := Goto.m0 hi240_2
                    have HC240_2 := Goto.m0 hl240_2
                    clear hi240_2 hl240_2
                    have HR240_3 := Goto.m0 hi240_3
                    have HC240_3 := Goto.m0 hl240_3
                    clear hi240_3 hl240_3; replace p240 := eq_true p240; replace q240 := eq_true q240
                    have ea_ := Option.some.inj (hx239_2.symm.trans hx240_2)
                    injection ea_ with ea_ en_ ec_
                    subst ea_
                    subst ec_
                    clear en_
                    have ea_ := Option.some.inj (hx239_3.symm.trans hx240_3)
                    injection ea_ with ea_ en_ ec_
                    subst ea_
                    subst ec_
                    clear en_
                    have p241 : 0 ≤ (x5_5 : Int) := Goto.od
                    have q241 : x5_5 < (((rd_T40 l0_3 x4_3).f1).length : Int) := Goto.od
                    obtain ⟨ad241, A241_0, c241_0, e241, hx241_0, hl241_0, hi241_0⟩ := at_L3 HR240_2.out x5_5 p241 q241
                    cases e241
                    replace hx241_0 := Goto.kc HB.out hx241_0
                    have HR241_0 := Goto.m0 hi241_0
                    have HC241_0 := Goto.m0 hl241_0
                    clear hi241_0 hl241_0; replace p241 := eq_true p241; replace q241 := eq_true q241
                    go_wp2
                    go_ret
                    exact ⟨Goto.er, by repeat (first | (with_reducible first | exact HB.out | apply below_alloc | apply pw_below_drewN | apply below_drew1 | refine below_set ?_ GE235.out) | exact HB.out)⟩
                   ·
                    rw [if_neg c26] at H
                    have c26b0 : decide (20 < ((rd_L3 ((rd_T40 l0_3 x4_3).f1) x5_5).length : Int)) = false := decide_eq_false c26
                    have c26b1 : decide (20 < (rd_L3 ((rd_T40 l0_3 x4_3).f1) x5_5).length) = false := decide_eq_false (by omega)
                    clear c26
                    have H' := Goto.m0 H
                    clear H; have hcz28_0 := Goto.bc0 BK235; have hcz28_1 := Goto.bc1 BK235; have hcz28_2 := Goto.bc2 BK235; have hcz28_3 := Goto.bc3 BK235; have hfz28_0 := Goto.bf BK235 0; have hfz28_1 := Goto.bf BK235 1; have hfz28_2 := Goto.bf BK235 2; have hfz28_3 := Goto.bf BK235 3
                    have p239 : 0 ≤ (x4_3 : Int) := Goto.od
                    have q239 : x4_3 < (l0_3.length : Int) := Goto.od
                    obtain ⟨ad239, A239_2, c239_2, A239_3, c239_3, e239, hx239_0, hx239_1, hx239_2, hx239_3, hx239_4, hx239_5, hx239_6, hx239_7, hx239_8, hx239_9, hl239_2, hi239_2, hl239_3, hi239_3⟩ := at_T40 HR0_3.out x4_3 p239 q239
                    cases e239
                    replace hx239_0 := Goto.kc HB.out hx239_0
                    replace hx239_1 := Goto.kc HB.out hx239_1
                    replace hx239_2 := Goto.kc HB.out hx239_2
                    replace hx239_3 := Goto.kc HB.out hx239_3
                    replace hx239_4 := Goto.kc HB.out hx239_4
                    replace hx239_5 := Goto.kc HB.out hx239_5
                    replace hx239_6 := Goto.kc HB.out hx239_6
                    replace hx239_7 := Goto.kc HB.out hx239_7
                    replace hx239_8 := Goto.kc HB.out hx239_8
                    replace hx239_9 := Goto.kc HB.out hx239_9
                    have HR239_2 := Goto.m0 hi239_2
                    have HC239_2 := Goto.m0 hl239_2
                    clear hi239_2 hl239_2
                    have HR239_3 := Goto.m0 hi239_3
                    have HC239_3 := Goto.m0 hl239_3
                    clear hi239_3 hl239_3; replace p239 := eq_true p239; replace q239 := eq_true q239
                    have p240 : 0 ≤ (x4_3 : Int) := Goto.od
                    have q240 : x4_3 < (l0_3.length : Int) := Goto.od
                    obtain ⟨ad240, A240_2, c240_2, A240_3, c240_3, e240, hx240_0, hx240_1, hx240_2, hx240_3, hx240_4, hx240_5, hx240_6, hx240_7, hx240_8, hx240_9, hl240_2, hi240_2, hl240_3, hi240_3⟩ := at_T40 HR0_3.out x4_3 p240 q240
                    obtain rfl : ad239 = ad240 := (by injection e240)
                    replace hx240_0 := Goto.kc HB.out hx240_0
                    replace hx240_1 := Goto.kc HB.out hx240_1
                    replace hx240_2 := Goto.kc HB.out hx240_2
                    replace hx240_3 := Goto.kc HB.out hx240_3
                    replace hx240_4 := Goto.kc HB.out hx240_4
                    replace hx240_5 := Goto.kc HB.out hx240_5
                    replace hx240_6 := Goto.kc HB.out hx240_6
                    replace hx240_7 := Goto.kc HB.out hx240_7
                    replace hx240_8 := Goto.kc HB.out hx240_8
                    replace hx240_9 := Goto.kc HB.out hx240_9
                    have HR240_2 := Goto.m0 hi240_2
                    have HC240_2 := Goto.m0 hl240_2
                    clear hi240_2 hl240_2
                    have HR240_3 := Goto.m0 hi240_3
                    have HC240_3 := Goto.m0 hl240_3
                    clear hi240_3 hl240_3; replace p240 := eq_true p240; replace q240 := eq_true q240
                    have ea_ := Option.some.inj (hx239_2.symm.trans hx240_2)
                    injection ea_ with ea_ en_ ec_
                    subst ea_
                    subst ec_
                    clear en_
                    have ea_ := Option.some.inj (hx239_3.symm.trans hx240_3)
                    injection ea_ with ea_ en_ ec_
                    subst ea_
                    subst ec_
                    clear en_
                    have p241 : 0 ≤ (x5_5 : Int) := Goto.od
                    have q241 : x5_5 < (((rd_T40 l0_3 x4_3).f1).length : Int) := Goto.od
                    obtain ⟨ad241, A241_0, c241_0, e241, hx241_0, hl241_0, hi241_0⟩ := at_L3 HR240_2.out x5_5 p241 q241
                    cases e241
                    replace hx241_0 := Goto.kc HB.out hx241_0
                    have HR241_0 := Goto.m0 hi241_0
                    have HC241_0 := Goto.m0 hl241_0
                    clear hi241_0 hl241_0; replace p241 := eq_true p241; replace q241 := eq_true q241
                    go_wp2
                    go_roundg k5
                    case measure => have := HJ1.out; have := HK2.out; have := HK3.out; have := HJ14.out; have := HK5.out; omega
                    case rel => exact ⟨(wrap64 (x5_5 + 1)), (by first | rfl | (simp; done) | (simp [*]; done)), H', ⟨by have := HJ1.out; have := HK2.out; have := HK3.out; have := HJ14.out; have := HK5.out; omega⟩, ⟨Goto.bx BK235⟩, ⟨Goto.hx HB⟩⟩
                  ·
                   rw [if_neg c25] at H
                   exact absurd H (by simp)
                 ·
                  rw [if_neg c24] at H
                  have c24b0 : decide (x5_5 < (((rd_T40 l0_3 x4_3).f1).length : Int)) = false := decide_eq_false c24
                  clear c24
                  have H' := Goto.m0 H
                  clear H; have hcz29_0 := Goto.bc0 BK235; have hcz29_1 := Goto.bc1 BK235; have hcz29_2 := Goto.bc2 BK235; have hcz29_3 := Goto.bc3 BK235; have hfz29_0 := Goto.bf BK235 0; have hfz29_1 := Goto.bf BK235 1; have hfz29_2 := Goto.bf BK235 2; have hfz29_3 := Goto.bf BK235 3
                  have p239 : 0 ≤ (x4_3 : Int) := Goto.od
                  have q239 : x4_3 < (l0_3.length : Int) := Goto.od
                  obtain ⟨ad239, A239_2, c239_2, A239_3, c239_3, e239, hx239_0, hx239_1, hx239_2, hx239_3, hx239_4, hx239_5, hx239_6, hx239_7, hx239_8, hx239_9, hl239_2, hi239_2, hl239_3, hi239_3⟩ := at_T40 HR0_3.out x4_3 p239 q239
                  cases e239
                  replace hx239_0 := Goto.kc HB.out hx239_0
                  replace hx239_1 := Goto.kc HB.out hx239_1
                  replace hx239_2 := Goto.kc HB.out hx239_2
                  replace hx239_3 := Goto.kc HB.out hx239_3
                  replace hx239_4 := Goto.kc HB.out hx239_4
                  replace hx239_5 := Goto.kc HB.out hx239_5
                  replace hx239_6 := Goto.kc HB.out hx239_6
                  replace hx239_7 := Goto.kc HB.out hx239_7
                  replace hx239_8 := Goto.kc HB.out hx239_8
                  replace hx239_9 := Goto.kc HB.out hx239_9
                  have HR239_2 := Goto.m0 hi239_2
                  have HC239_2 := Goto.m0 hl239_2
                  clear hi239_2 hl239_2
                  have HR239_3 := Goto.m0 hi239_3
                  have HC239_3 := Goto.m0 hl239_3
                  clear hi239_3 hl239_3; replace p239 := eq_true p239; replace q239 := eq_true q239
                  go_wp2
                  go_roundg k5
                  case measure => have := HJ1.out; have := HK2.out; have := HK3.out; have := HJ14.out; have := HK5.out; omega
                  case rel => exact ⟨(wrap64 (x4_3 + 1)), (by first | rfl | (simp; done) | (simp [*]; done)), H', ⟨by have := HJ1.out; have := HK2.out; have := HK3.out; have := HJ14.out; have := HK5.out; omega⟩, ⟨Goto.bx BK235⟩, ⟨Goto.hx HB⟩⟩
                ·
                 rw [if_neg c23] at H
                 exact absurd H (by simp)
               ·
                rw [if_neg c22] at H
                exact absurd H (by simp)
         ·
          rw [if_neg c14] at H
          have c14b0 : decide (x4_3 < (l0_3.length : Int)) = false := decide_eq_false c14
          clear c14
          obtain rfl := Option.some.inj H
          have hcz30_0 := Goto.bc0 BK235; have hcz30_1 := Goto.bc1 BK235; have hcz30_2 := Goto.bc2 BK235; have hcz30_3 := Goto.bc3 BK235; have hfz30_0 := Goto.bf BK235 0; have hfz30_1 := Goto.bf BK235 1; have hfz30_2 := Goto.bf BK235 2; have hfz30_3 := Goto.bf BK235 3
          go_wp2
          go_ret
          exact ⟨Goto.er, by repeat (first | (with_reducible first | exact HB.out | apply below_alloc | apply pw_below_drewN | apply below_drew1 | refine below_set ?_ GE235.out) | exact HB.out)⟩

-- NOT PRINTED: function 32 (reflectlite_ValueOf)

-- NOT PRINTED: function 33 (reflectlite_Value_Type)

-- NOT PRINTED: function 34 (reflectlite_Value_IsNil)

-- NOT PRINTED: function 44 (reflectlite_Value_Elem)

-- NOT PRINTED: function 45 (reflectlite_Value_Set)

-- NOT PRINTED: function 35 (errors_as)

-- NOT PRINTED: function 15 (errors_As)

end Go.Proofs.YtjgdcifbhmjinaaDoor.P
