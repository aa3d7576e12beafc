/- Printed by a program of this workplace (a turned copy of the kit's optional print), out of the translation; not trusted: Lean checks it. -/
import Derived.Test.YtjgdcifbhmjinaaDoorPx0
namespace Go.Proofs.YtjgdcifbhmjinaaDoor.P
open Go.RowKit Go.Proofs.YtjgdcifbhmjinaaDoorW.PrintWords Go.Proofs.YtjgdcifbhmjinaaDoorW.PrintLast Go.Proofs.YtjgdcifbhmjinaaDoorW.PrintMore
attribute [local go_sem] max2_int min2_int max_two min_two max_three min_three max_four min_four   -- for this text's walks alone
set_option linter.unusedVariables false
set_option linter.unusedSimpArgs false

/-! ### tontineref1_within: function 20 -/
def tontineref1_within.f (a0 : Int) (a1 : Int) (a2 : Int) : Option (Bool) := if a0 ≥ a1 then (some (decide (a0 ≤ a2))) else (some false)
set_option maxHeartbeats 8000000 in
set_option maxRecDepth 100000 in
theorem tontineref1_within.calls (a0 : Int) (a1 : Int) (a2 : Int) (r : Bool) (w : World) (h : tontineref1_within.f a0 a1 a2 = some r) :
    Calls Tryd.prog 20 #[.int .i64 a0, .int .i64 a1, .int .i64 a2] w fun e w' => e = .returned (.bool r) ∧ Drawn0 w w' := by
 have H : (if a0 ≥ a1 then (some (decide (a0 ≤ a2))) else (some false)) = some r := h
 clear h
 by_cases c4 : a0 ≥ a1
 ·
  rw [if_pos c4] at H
  have c4b0 : decide (a1 ≤ a0) = true := decide_eq_true c4
  clear c4
  obtain rfl := Option.some.inj H
  go_enter Tryd.func20, Tryd.ntmps20
  go_wp2
  go_ret
  exact ⟨by first | rfl | (simp; done) | (simp [*]; done), by repeat (first | exact Drawn0.refl _ | apply Drawn0.step)⟩
 ·
  rw [if_neg c4] at H
  have c4b0 : decide (a1 ≤ a0) = false := decide_eq_false c4
  clear c4
  obtain rfl := Option.some.inj H
  go_enter Tryd.func20, Tryd.ntmps20
  go_wp2
  go_ret
  exact ⟨by first | rfl | (simp; done) | (simp [*]; done), by repeat (first | exact Drawn0.refl _ | apply Drawn0.step)⟩

/-! ### tontineref1_IsLabel: function 21 -/
def tontineref1_IsLabel.f (a0_0 : Int) (a0_1 : Int) : Option (Bool) := if a0_0 ≥ 0 then (some (decide (a0_0 ≤ 255))) else (some false)
set_option maxHeartbeats 8000000 in
set_option maxRecDepth 100000 in
theorem tontineref1_IsLabel.calls (a0_0 : Int) (a0_1 : Int) (r : Bool) (w : World) (h : tontineref1_IsLabel.f a0_0 a0_1 = some r) :
    Calls Tryd.prog 21 #[.agg #[.int .i64 a0_0, .int .u64 a0_1]] w fun e w' => e = .returned (.bool r) ∧ Below w.heap.size w w' := by
 have hu38 := Tryd.underlying38
 have HB := Goto.m0 (Below.refl w.heap.size w)
 have H : (if a0_0 ≥ 0 then (some (decide (a0_0 ≤ 255))) else (some false)) = some r := h
 clear h
 by_cases c2 : a0_0 ≥ 0
 ·
  rw [if_pos c2] at H
  have c2b0 : decide (0 ≤ a0_0) = true := decide_eq_true c2
  clear c2
  obtain rfl := Option.some.inj H
  go_enter Tryd.func21, Tryd.ntmps21
  go_wp2_with (first | ((with_reducible refine gate_dst (N := 1) rfl ?_); refine box_event ?hg (N := 1) ?hd (cs := #[.int .i64 a0_0, .int .u64 a0_1]) (t := 38) ?hr ?_; (case hd => rfl); (case hg => rfl); (case hr => first | (go_simp; done) | (go_simp; rfl)); intro gb242 hg w3 hbox hb; have BK242 := Goto.m0 (hbox); have GW242 := Goto.gs HB hg; have GE242 := Goto.gs HB hg; replace HB := Goto.hs HB hb; clear hb hbox hg; have hcz4_0 := Goto.bc0 BK242; have hcz4_1 := Goto.bc1 BK242; have hfz4_0 := Goto.bf BK242 0; have hfz4_1 := Goto.bf BK242 1))
  go_ret
  exact ⟨Goto.er, by repeat (first | (with_reducible first | exact HB.out | apply below_alloc | apply pw_below_drewN | apply below_drew1 | refine below_set ?_ GE242.out) | exact HB.out)⟩
 ·
  rw [if_neg c2] at H
  have c2b0 : decide (0 ≤ a0_0) = false := decide_eq_false c2
  clear c2
  obtain rfl := Option.some.inj H
  go_enter Tryd.func21, Tryd.ntmps21
  go_wp2_with (first | ((with_reducible refine gate_dst (N := 1) rfl ?_); refine box_event ?hg (N := 1) ?hd (cs := #[.int .i64 a0_0, .int .u64 a0_1]) (t := 38) ?hr ?_; (case hd => rfl); (case hg => rfl); (case hr => first | (go_simp; done) | (go_simp; rfl)); intro gb242 hg w5 hbox hb; have BK242 := Goto.m0 (hbox); have GW242 := Goto.gs HB hg; have GE242 := Goto.gs HB hg; replace HB := Goto.hs HB hb; clear hb hbox hg; have hcz6_0 := Goto.bc0 BK242; have hcz6_1 := Goto.bc1 BK242; have hfz6_0 := Goto.bf BK242 0; have hfz6_1 := Goto.bf BK242 1))
  go_ret
  exact ⟨Goto.er, by repeat (first | (with_reducible first | exact HB.out | apply below_alloc | apply pw_below_drewN | apply below_drew1 | refine below_set ?_ GE242.out) | exact HB.out)⟩

/-! ### tontineref1_shares: function 22 -/
mutual
def tontineref1_shares.l0 : Nat → Int → Int → Int → List (List Int) → List (S40) → Option (Bool)
  | 0, _, _, _, _, _ => none
  | k + 1, x3, x244000, x244001, x244002, x244003 => if x3 < (x244002.length : Int) then (tontineref1_shares.l1 k x3 false 0 x244000 x244001 x244002 x244003) else (some true)
def tontineref1_shares.l1 : Nat → Int → Bool → Int → Int → Int → List (List Int) → List (S40) → Option (Bool)
  | 0, _, _, _, _, _, _, _ => none
  | k + 1, x3, x4, x5, x244000, x244001, x244002, x244003 => if 0 ≤ x3 then (if x3 < (x244002.length : Int) then (if x5 < ((rd_L3 x244002 x3).length : Int) then (if 0 ≤ x5 then ((tontineref1_within.f (rd (rd_L3 x244002 x3) x5) 0 1000).bind fun t249 => (if t249 = true then (if x4 = true then (tontineref1_shares.l1 k x3 true (wrap64 (x5 + 1)) x244000 x244001 x244002 x244003) else (tontineref1_shares.l1 k x3 (decide ((rd (rd_L3 x244002 x3) x5) > 0)) (wrap64 (x5 + 1)) x244000 x244001 x244002 x244003)) else (some false))) else (none)) else (if ((rd_L3 x244002 x3).length : Int) = (x244003.length : Int) then (if x4 = true then (tontineref1_shares.l0 k (wrap64 (x3 + 1)) x244000 x244001 x244002 x244003) else (some false)) else (some false))) else (none)) else (none)
end
def tontineref1_shares.f (k : Nat) (a0_0 : Int) (a0_1 : Int) (l0_2 : List (List Int)) (l0_3 : List (S40)) : Option (Bool) := (tontineref1_within.f (l0_2.length : Int) 1 3).bind fun t244 => (if t244 = true then (tontineref1_shares.l0 k 0 a0_0 a0_1 l0_2 l0_3) else (some false))
set_option maxHeartbeats 8000000 in
set_option maxRecDepth 100000 in
theorem tontineref1_shares.calls (k : Nat) (a0_0 : Int) (a0_1 : Int) (A0_2 : Option Addr) (c0_2 : Nat) (l0_2 : List (List Int)) (A0_3 : Option Addr) (c0_3 : Nat) (l0_3 : List (S40)) (r : Bool) (w : World) (hr0_2 : Kd.C (Kd.slice 3 (Kd.int .i64)) w A0_2 l0_2.length l0_2) (hc0_2 : l0_2.length ≤ c0_2) (hr0_3 : Kd.C k40 w A0_3 l0_3.length l0_3) (hc0_3 : l0_3.length ≤ c0_3) (h : tontineref1_shares.f k a0_0 a0_1 l0_2 l0_3 = some r) :
    Calls Tryd.prog 22 #[.agg #[.int .i64 a0_0, .int .i64 a0_1, .slice A0_2 l0_2.length c0_2, .slice A0_3 l0_3.length c0_3]] w fun e w' => e = .returned (.bool r) ∧ Below w.heap.size w w' := by
 have hu25 := Tryd.underlying25
 have HR0_2 := Goto.m0 hr0_2
 have HC0_2 := Goto.m0 hc0_2
 clear hr0_2 hc0_2
 have HR0_3 := Goto.m0 hr0_3
 have HC0_3 := Goto.m0 hc0_3
 clear hr0_3 hc0_3
 have HB := Goto.m0 (Below.refl w.heap.size w)
 have H : ((tontineref1_within.f (l0_2.length : Int) 1 3).bind fun t244 => (if t244 = true then (tontineref1_shares.l0 k 0 a0_0 a0_1 l0_2 l0_3) else (some false))) = some r := h
 clear h
 replace H := Option.bind_eq_some_iff.mp H
 obtain ⟨t244, A20, H⟩ := H
 have A2 := Goto.m0 A20
 clear A20
 by_cases c3 : t244 = true
 ·
  subst c3
  rw [if_pos rfl] at H
  have H' := Goto.m0 H
  clear H
  go_enter Tryd.func22, Tryd.ntmps22
  go_wp2_with (first | ((with_reducible refine gate_dst (N := 1) rfl ?_); refine box_event ?hg (N := 1) ?hd (cs := #[.int .i64 a0_0, .int .i64 a0_1, .slice A0_2 l0_2.length c0_2, .slice A0_3 l0_3.length c0_3]) (t := 25) ?hr ?_; (case hd => rfl); (case hg => rfl); (case hr => first | (go_simp; done) | (go_simp; rfl)); intro gb243 hg w4 hbox hb; have BK243 := Goto.m0 (hbox); have GW243 := Goto.gs HB hg; have GE243 := Goto.gs HB hg; replace HB := Goto.hs HB hb; clear hb hbox hg; have hcz5_0 := Goto.bc0 BK243; have hcz5_1 := Goto.bc1 BK243; have hcz5_2 := Goto.bc2 BK243; have hcz5_3 := Goto.bc3 BK243; have hfz5_0 := Goto.bf BK243 0; have hfz5_1 := Goto.bf BK243 1; have hfz5_2 := Goto.bf BK243 2; have hfz5_3 := Goto.bf BK243 3) | (go_at_call 20; (with_reducible refine (tontineref1_within.calls (l0_2.length : Int) 1 3 true _ A2.out).mono ?_); rintro e w' ⟨rfl, ⟨nd, rfl⟩⟩; (try first | exact ⟨rfl, _, World.drewN_drewN _ _ _⟩ | exact ⟨rfl, _, Eq.trans (World.drewN_drewN _ _ _) (congrArg (World.drewN _) (Nat.add_assoc _ _ _))⟩)))
  repeat (go_quiet (first | ((with_reducible refine gate_dst (N := 1) rfl ?_); refine box_event ?hg (N := 1) ?hd (cs := #[.int .i64 a0_0, .int .i64 a0_1, .slice A0_2 l0_2.length c0_2, .slice A0_3 l0_3.length c0_3]) (t := 25) ?hr ?_; (case hd => rfl); (case hg => rfl); (case hr => first | (go_simp; done) | (go_simp; rfl)); intro gb243 hg w4 hbox hb; have BK243 := Goto.m0 (hbox); have GW243 := Goto.gs HB hg; have GE243 := Goto.gs HB hg; replace HB := Goto.hs HB hb; clear hb hbox hg; have hcz5_0 := Goto.bc0 BK243; have hcz5_1 := Goto.bc1 BK243; have hcz5_2 := Goto.bc2 BK243; have hcz5_3 := Goto.bc3 BK243; have hfz5_0 := Goto.bf BK243 0; have hfz5_1 := Goto.bf BK243 1; have hfz5_2 := Goto.bf BK243 2; have hfz5_3 := Goto.bf BK243 3) | (go_at_call 20; (with_reducible refine (tontineref1_within.calls (l0_2.length : Int) 1 3 true _ A2.out).mono ?_); rintro e w' ⟨rfl, ⟨nd, rfl⟩⟩; (try first | exact ⟨rfl, _, World.drewN_drewN _ _ _⟩ | exact ⟨rfl, _, Eq.trans (World.drewN_drewN _ _ _) (congrArg (World.drewN _) (Nat.add_assoc _ _ _))⟩))); try go_wp2_with (first | ((with_reducible refine gate_dst (N := 1) rfl ?_); refine box_event ?hg (N := 1) ?hd (cs := #[.int .i64 a0_0, .int .i64 a0_1, .slice A0_2 l0_2.length c0_2, .slice A0_3 l0_3.length c0_3]) (t := 25) ?hr ?_; (case hd => rfl); (case hg => rfl); (case hr => first | (go_simp; done) | (go_simp; rfl)); intro gb243 hg w4 hbox hb; have BK243 := Goto.m0 (hbox); have GW243 := Goto.gs HB hg; have GE243 := Goto.gs HB hg; replace HB := Goto.hs HB hb; clear hb hbox hg; have hcz5_0 := Goto.bc0 BK243; have hcz5_1 := Goto.bc1 BK243; have hcz5_2 := Goto.bc2 BK243; have hcz5_3 := Goto.bc3 BK243; have hfz5_0 := Goto.bf BK243 0; have hfz5_1 := Goto.bf BK243 1; have hfz5_2 := Goto.bf BK243 2; have hfz5_3 := Goto.bf BK243 3) | (go_at_call 20; (with_reducible refine (tontineref1_within.calls (l0_2.length : Int) 1 3 true _ A2.out).mono ?_); rintro e w' ⟨rfl, ⟨nd, rfl⟩⟩; (try first | exact ⟨rfl, _, World.drewN_drewN _ _ _⟩ | exact ⟨rfl, _, Eq.trans (World.drewN_drewN _ _ _) (congrArg (World.drewN _) (Nat.add_assoc _ _ _))⟩))))
  go_loopg [3] k (fun kq v3 w' => ∃ (x3_1 : Int), v3 = .int .i64 x3_1 ∧ Aside0 (tontineref1_shares.l0 kq x3_1 a0_0 a0_1 l0_2 l0_3 = some r) ∧ Aside0 (kq ≤ k) ∧ Aside0 (w'.heap[gb243]? = some (.cells #[.int .i64 a0_0, .int .i64 a0_1, (.slice A0_2 l0_2.length c0_2), (.slice A0_3 l0_3.length c0_3)] 25 (0, 0))) ∧ Aside0 (Below w.heap.size w w'))
  case atStart => exact ⟨(0), (by first | rfl | (simp; done) | (simp [*]; done)), H', ⟨Nat.le_refl _⟩, ⟨Goto.bx BK243⟩, ⟨Goto.hx HB⟩⟩
  case round =>
   clear H'
   try clear c2; try clear p2; try clear c3; try clear hcz5_0; try clear hcz5_1; try clear hcz5_2; try clear hcz5_3; try clear hfz5_0; try clear hfz5_1; try clear hfz5_2; try clear hfz5_3
   obtain ⟨x3_1, rfl, HA, HK1, BK243, HB⟩ := hrel
   cases gk with
   | zero => exact absurd HA.out (by simp [tontineref1_shares.l0])
   | succ k1 =>
    have H := HA.out; clear HA
    simp only [tontineref1_shares.l0] at H
    by_cases c6 : x3_1 < (l0_2.length : Int)
    ·
     rw [if_pos c6] at H
     have c6b0 : decide (x3_1 < (l0_2.length : Int)) = true := decide_eq_true c6
     clear c6
     have H' := Goto.m0 H
     clear H; have hcz7_0 := Goto.bc0 BK243; have hcz7_1 := Goto.bc1 BK243; have hcz7_2 := Goto.bc2 BK243; have hcz7_3 := Goto.bc3 BK243; have hfz7_0 := Goto.bf BK243 0; have hfz7_1 := Goto.bf BK243 1; have hfz7_2 := Goto.bf BK243 2; have hfz7_3 := Goto.bf BK243 3
     go_wp2
     repeat (go_quiet (fail); try go_wp2)
     go_loopg [4, 5] k1 (fun kq v4 v5 w' => ∃ (x4_2 : Bool) (x5_2 : Int), v4 = .bool x4_2 ∧ v5 = .int .i64 x5_2 ∧ Aside0 (tontineref1_shares.l1 kq x3_1 x4_2 x5_2 a0_0 a0_1 l0_2 l0_3 = some r) ∧ Aside0 (kq ≤ k1) ∧ Aside0 (w'.heap[gb243]? = some (.cells #[.int .i64 a0_0, .int .i64 a0_1, (.slice A0_2 l0_2.length c0_2), (.slice A0_3 l0_3.length c0_3)] 25 (0, 0))) ∧ Aside0 (Below w.heap.size w w'))
     case atStart => exact ⟨(false), (0), (by first | rfl | (simp; done) | (simp [*]; done)), (by first | rfl | (simp; done) | (simp [*]; done)), H', ⟨Nat.le_refl _⟩, ⟨Goto.bx BK243⟩, ⟨Goto.hx HB⟩⟩
     case round =>
      clear H'
      try clear c2; try clear p2; try clear c3; try clear c6; try clear c6b0; try clear hcz5_0; try clear hcz5_1; try clear hcz5_2; try clear hcz5_3; try clear hcz7_0; try clear hcz7_1; try clear hcz7_2; try clear hcz7_3; try clear hfz5_0; try clear hfz5_1; try clear hfz5_2; try clear hfz5_3; try clear hfz7_0; try clear hfz7_1; try clear hfz7_2; try clear hfz7_3; try clear p2
      obtain ⟨x4_2, x5_2, rfl, rfl, HA, HK2, BK243, HB⟩ := hrel
      cases gk with
      | zero => exact absurd HA.out (by simp [tontineref1_shares.l1])
      | succ k2 =>
       have H := HA.out; clear HA
       simp only [tontineref1_shares.l1] at H
       by_cases c8 : 0 ≤ x3_1
       ·
        rw [if_pos c8] at H
        have c8b0 : decide (0 ≤ x3_1) = true := decide_eq_true c8
        clear c8
        by_cases c9 : x3_1 < (l0_2.length : Int)
        ·
         rw [if_pos c9] at H
         have c9b0 : decide (x3_1 < (l0_2.length : Int)) = true := decide_eq_true c9
         clear c9
         by_cases c10 : x5_2 < ((rd_L3 l0_2 x3_1).length : Int)
         ·
          rw [if_pos c10] at H
          have c10b0 : decide (x5_2 < ((rd_L3 l0_2 x3_1).length : Int)) = true := decide_eq_true c10
          clear c10
          by_cases c11 : 0 ≤ x5_2
          ·
           rw [if_pos c11] at H
           have c11b0 : decide (0 ≤ x5_2) = true := decide_eq_true c11
           clear c11
           replace H := Option.bind_eq_some_iff.mp H
           obtain ⟨t249, A120, H⟩ := H
           have A12 := Goto.m0 A120
           clear A120
           by_cases c13 : t249 = true
           ·
            subst c13
            rw [if_pos rfl] at H
            by_cases c14 : x4_2 = true
            ·
             subst c14
             rw [if_pos rfl] at H
             have H' := Goto.m0 H
             clear H; have hcz15_0 := Goto.bc0 BK243; have hcz15_1 := Goto.bc1 BK243; have hcz15_2 := Goto.bc2 BK243; have hcz15_3 := Goto.bc3 BK243; have hfz15_0 := Goto.bf BK243 0; have hfz15_1 := Goto.bf BK243 1; have hfz15_2 := Goto.bf BK243 2; have hfz15_3 := Goto.bf BK243 3
             have p245 : 0 ≤ (x3_1 : Int) := Goto.od
             have q245 : x3_1 < (l0_2.length : Int) := Goto.od
             obtain ⟨ad245, A245_0, c245_0, e245, hx245_0, hl245_0, hi245_0⟩ := at_L3 HR0_2.out x3_1 p245 q245
             cases e245
             replace hx245_0 := Goto.kc HB.out hx245_0
             have HR245_0 := Goto.m0 hi245_0
             have HC245_0 := Goto.m0 hl245_0
             clear hi245_0 hl245_0; replace p245 := eq_true p245; replace q245 := eq_true q245
             have p247 : 0 ≤ (x3_1 : Int) := Goto.od
             have q247 : x3_1 < (l0_2.length : Int) := Goto.od
             obtain ⟨ad247, A247_0, c247_0, e247, hx247_0, hl247_0, hi247_0⟩ := at_L3 HR0_2.out x3_1 p247 q247
             obtain rfl : ad245 = ad247 := (by injection e247)
             replace hx247_0 := Goto.kc HB.out hx247_0
             have HR247_0 := Goto.m0 hi247_0
             have HC247_0 := Goto.m0 hl247_0
             clear hi247_0 hl247_0; replace p247 := eq_true p247; replace q247 := eq_true q247
             have ea_ := Option.some.inj (hx245_0.symm.trans hx247_0)
             injection ea_ with ea_ en_ ec_
             subst ea_
             subst ec_
             clear en_
             have p248 : 0 ≤ (x5_2 : Int) := Goto.od
             have q248 : x5_2 < ((rd_L3 l0_2 x3_1).length : Int) := Goto.od
             obtain ⟨ad248, e248, hx248_0⟩ := Kd.at_int HR247_0.out x5_2 p248 q248
             cases e248
             replace hx248_0 := Goto.kc HB.out hx248_0
             replace p248 := eq_true p248; replace q248 := eq_true q248
             go_wp2_with (first | (go_at_call 20; (with_reducible refine (tontineref1_within.calls (rd (rd_L3 l0_2 x3_1) x5_2) 0 1000 true _ A12.out).mono ?_); rintro e w' ⟨rfl, ⟨nd, rfl⟩⟩; (try first | exact ⟨rfl, _, World.drewN_drewN _ _ _⟩ | exact ⟨rfl, _, Eq.trans (World.drewN_drewN _ _ _) (congrArg (World.drewN _) (Nat.add_assoc _ _ _))⟩)))
             repeat (go_quiet (first | (go_at_call 20; (with_reducible refine (tontineref1_within.calls (rd (rd_L3 l0_2 x3_1) x5_2) 0 1000 true _ A12.out).mono ?_); rintro e w' ⟨rfl, ⟨nd, rfl⟩⟩; (try first | exact ⟨rfl, _, World.drewN_drewN _ _ _⟩ | exact ⟨rfl, _, Eq.trans (World.drewN_drewN _ _ _) (congrArg (World.drewN _) (Nat.add_assoc _ _ _))⟩))); try go_wp2_with (first | (go_at_call 20; (with_reducible refine (tontineref1_within.calls (rd (rd_L3 l0_2 x3_1) x5_2) 0 1000 true _ A12.out).mono ?_); rintro e w' ⟨rfl, ⟨nd, rfl⟩⟩; (try first | exact ⟨rfl, _, World.drewN_drewN _ _ _⟩ | exact ⟨rfl, _, Eq.trans (World.drewN_drewN _ _ _) (congrArg (World.drewN _) (Nat.add_assoc _ _ _))⟩))))
             go_roundg k2
             case measure => have := HK1.out; have := HK2.out; omega
             case rel => exact ⟨(true), (wrap64 (x5_2 + 1)), (by first | rfl | (simp; done) | (simp [*]; done)), (by first | rfl | (simp; done) | (simp [*]; done)), H', ⟨by have := HK1.out; have := HK2.out; omega⟩, ⟨Goto.bx BK243⟩, ⟨Goto.hx HB⟩⟩
            ·
             replace c14 := Bool.eq_false_iff.mpr c14
             subst c14
             rw [if_neg (show ¬ (false = true) by decide)] at H
             have H' := Goto.m0 H
             clear H; have hcz16_0 := Goto.bc0 BK243; have hcz16_1 := Goto.bc1 BK243; have hcz16_2 := Goto.bc2 BK243; have hcz16_3 := Goto.bc3 BK243; have hfz16_0 := Goto.bf BK243 0; have hfz16_1 := Goto.bf BK243 1; have hfz16_2 := Goto.bf BK243 2; have hfz16_3 := Goto.bf BK243 3
             have p245 : 0 ≤ (x3_1 : Int) := Goto.od
             have q245 : x3_1 < (l0_2.length : Int) := Goto.od
             obtain ⟨ad245, A245_0, c245_0, e245, hx245_0, hl245_0, hi245_0⟩ := at_L3 HR0_2.out x3_1 p245 q245
             cases e245
             replace hx245_0 := Goto.kc HB.out hx245_0
             have HR245_0 := Goto.m0 hi245_0
             have HC245_0 := Goto.m0 hl245_0
             clear hi245_0 hl245_0; replace p245 := eq_true p245; replace q245 := eq_true q245
             have p247 : 0 ≤ (x3_1 : Int) := Goto.od
             have q247 : x3_1 < (l0_2.length : Int) := Goto.od
             obtain ⟨ad247, A247_0, c247_0, e247, hx247_0, hl247_0, hi247_0⟩ := at_L3 HR0_2.out x3_1 p247 q247
             obtain rfl : ad245 = ad247 := (by injection e247)
             replace hx247_0 := Goto.kc HB.out hx247_0
             have HR247_0 := Goto.m0 hi247_0
             have HC247_0 := Goto.m0 hl247_0
             clear hi247_0 hl247_0; replace p247 := eq_true p247; replace q247 := eq_true q247
             have ea_ := Option.some.inj (hx245_0.symm.trans hx247_0)
             injection ea_ with ea_ en_ ec_
             subst ea_
             subst ec_
             clear en_
             have p248 : 0 ≤ (x5_2 : Int) := Goto.od
             have q248 : x5_2 < ((rd_L3 l0_2 x3_1).length : Int) := Goto.od
             obtain ⟨ad248, e248, hx248_0⟩ := Kd.at_int HR247_0.out x5_2 p248 q248
             cases e248
             replace hx248_0 := Goto.kc HB.out hx248_0
             replace p248 := eq_true p248; replace q248 := eq_true q248
             go_wp2_with (first | (go_at_call 20; (with_reducible refine (tontineref1_within.calls (rd (rd_L3 l0_2 x3_1) x5_2) 0 1000 true _ A12.out).mono ?_); rintro e w' ⟨rfl, ⟨nd, rfl⟩⟩; (try first | exact ⟨rfl, _, World.drewN_drewN _ _ _⟩ | exact ⟨rfl, _, Eq.trans (World.drewN_drewN _ _ _) (congrArg (World.drewN _) (Nat.add_assoc _ _ _))⟩); have p250 : 0 ≤ (x3_1 : Int) := Goto.od; have q250 : x3_1 < (l0_2.length : Int) := Goto.od; obtain ⟨ad250, A250_0, c250_0, e250, hx250_0, hl250_0, hi250_0⟩ := at_L3 HR0_2.out x3_1 p250 q250; obtain rfl : ad245 = ad250 := (by injection e250); replace hx250_0 := Goto.kc HB.out hx250_0; have HR250_0 := Goto.m0 hi250_0; have HC250_0 := Goto.m0 hl250_0; clear hi250_0 hl250_0; replace p250 := eq_true p250; replace q250 := eq_true q250; have ea_ := Option.some.inj (hx245_0.symm.trans hx250_0); injection ea_ with ea_ en_ ec_; subst ea_; subst ec_; clear en_; have p251 : 0 ≤ (x5_2 : Int) := Goto.od; have q251 : x5_2 < ((rd_L3 l0_2 x3_1).length : Int) := Goto.od; obtain ⟨ad251, e251, hx251_0⟩ := Kd.at_int HR250_0.out x5_2 p251 q251; cases e251; replace hx251_0 := Goto.kc HB.out hx251_0; replace p251 := eq_true p251; replace q251 := eq_true q251))
             repeat (go_quiet (first | (go_at_call 20; (with_reducible refine (tontineref1_within.calls (rd (rd_L3 l0_2 x3_1) x5_2) 0 1000 true _ A12.out).mono ?_); rintro e w' ⟨rfl, ⟨nd, rfl⟩⟩; (try first | exact ⟨rfl, _, World.drewN_drewN _ _ _⟩ | exact ⟨rfl, _, Eq.trans (World.drewN_drewN _ _ _) (congrArg (World.drewN _) (Nat.add_assoc _ _ _))⟩); have p250 : 0 ≤ (x3_1 : Int) := Goto.od; have q250 : x3_1 < (l0_2.length : Int) := Goto.od; obtain ⟨ad250, A250_0, c250_0, e250, hx250_0, hl250_0, hi250_0⟩ := at_L3 HR0_2.out x3_1 p250 q250; obtain rfl : ad245 = ad250 := (by injection e250); replace hx250_0 := Goto.kc HB.out hx250_0; have HR250_0 := Goto.m0 hi250_0; have HC250_0 := Goto.m0 hl250_0; clear hi250_0 hl250_0; replace p250 := eq_true p250; replace q250 := eq_true q250; have ea_ := Option.some.inj (hx245_0.symm.trans hx250_0); injection ea_ with ea_ en_ ec_; subst ea_; subst ec_; clear en_; have p251 : 0 ≤ (x5_2 : Int) := Goto.od; have q251 : x5_2 < ((rd_L3 l0_2 x3_1).length : Int) := Goto.od; obtain ⟨ad251, e251, hx251_0⟩ := Kd.at_int HR250_0.out x5_2 p251 q251; cases e251; replace hx251_0 := Goto.kc HB.out hx251_0; replace p251 := eq_true p251; replace q251 := eq_true q251)); try go_wp2_with (first | (go_at_call 20; (with_reducible refine (tontineref1_within.calls (rd (rd_L3 l0_2 x3_1) x5_2) 0 1000 true _ A12.out).mono ?_); rintro e w' ⟨rfl, ⟨nd, rfl⟩⟩; (try first | exact ⟨rfl, _, World.drewN_drewN _ _ _⟩ | exact ⟨rfl, _, Eq.trans (World.drewN_drewN _ _ _) (congrArg (World.drewN _) (Nat.add_assoc _ _ _))⟩); have p250 : 0 ≤ (x3_1 : Int) := Goto.od; have q250 : x3_1 < (l0_2.length : Int) := Goto.od; obtain ⟨ad250, A250_0, c250_0, e250, hx250_0, hl250_0, hi250_0⟩ := at_L3 HR0_2.out x3_1 p250 q250; obtain rfl : ad245 = ad250 := (by injection e250); replace hx250_0 := Goto.kc HB.out hx250_0; have HR250_0 := Goto.m0 hi250_0; have HC250_0 := Goto.m0 hl250_0; clear hi250_0 hl250_0; replace p250 := eq_true p250; replace q250 := eq_true q250; have ea_ := Option.some.inj (hx245_0.symm.trans hx250_0); injection ea_ with ea_ en_ ec_; subst ea_; subst ec_; clear en_; have p251 : 0 ≤ (x5_2 : Int) := Goto.od; have q251 : x5_2 < ((rd_L3 l0_2 x3_1).length : Int) := Goto.od; obtain ⟨ad251, e251, hx251_0⟩ := Kd.at_int HR250_0.out x5_2 p251 q251; cases e251; replace hx251_0 := Goto.kc HB.out hx251_0; replace p251 := eq_true p251; replace q251 := eq_true q251)))
             go_roundg k2
             case measure => have := HK1.out; have := HK2.out; omega
             case rel => exact ⟨(decide ((rd (rd_L3 l0_2 x3_1) x5_2) > 0)), (wrap64 (x5_2 + 1)), (by first | rfl | (simp; done) | (simp [*]; done)), (by first | rfl | (simp; done) | (simp [*]; done)), H', ⟨by have := HK1.out; have := HK2.out; omega⟩, ⟨Goto.bx BK243⟩, ⟨Goto.hx HB⟩⟩
           ·
            replace c13 := Bool.eq_false_iff.mpr c13
            subst c13
            rw [if_neg (show ¬ (false = true) by decide)] at H
            obtain rfl := Option.some.inj H
            have hcz17_0 := Goto.bc0 BK243; have hcz17_1 := Goto.bc1 BK243; have hcz17_2 := Goto.bc2 BK243; have hcz17_3 := Goto.bc3 BK243; have hfz17_0 := Goto.bf BK243 0; have hfz17_1 := Goto.bf BK243 1; have hfz17_2 := Goto.bf BK243 2; have hfz17_3 := Goto.bf BK243 3
            have p245 : 0 ≤ (x3_1 : Int) := Goto.od
            have q245 : x3_1 < (l0_2.length : Int) := Goto.od
            obtain ⟨ad245, A245_0, c245_0, e245, hx245_0, hl245_0, hi245_0⟩ := at_L3 HR0_2.out x3_1 p245 q245
            cases e245
            replace hx245_0 := Goto.kc HB.out hx245_0
            have HR245_0 := Goto.m0 hi245_0
            have HC245_0 := Goto.m0 hl245_0
            clear hi245_0 hl245_0; replace p245 := eq_true p245; replace q245 := eq_true q245
            have p247 : 0 ≤ (x3_1 : Int) := Goto.od
            have q247 : x3_1 < (l0_2.length : Int) := Goto.od
            obtain ⟨ad247, A247_0, c247_0, e247, hx247_0, hl247_0, hi247_0⟩ := at_L3 HR0_2.out x3_1 p247 q247
            obtain rfl : ad245 = ad247 := (by injection e247)
            replace hx247_0 := Goto.kc HB.out hx247_0
            have HR247_0 := Goto.m0 hi247_0
            have HC247_0 := Goto.m0 hl247_0
            clear hi247_0 hl247_0; replace p247 := eq_true p247; replace q247 := eq_true q247
            have ea_ := Option.some.inj (hx245_0.symm.trans hx247_0)
            injection ea_ with ea_ en_ ec_
            subst ea_
            subst ec_
            clear en_
            have p248 : 0 ≤ (x5_2 : Int) := Goto.od
            have q248 : x5_2 < ((rd_L3 l0_2 x3_1).length : Int) := Goto.od
            obtain ⟨ad248, e248, hx248_0⟩ := Kd.at_int HR247_0.out x5_2 p248 q248
            cases e248
            replace hx248_0 := Goto.kc HB.out hx248_0
            replace p248 := eq_true p248; replace q248 := eq_true q248
            go_wp2_with (first | (go_at_call 20; (with_reducible refine (tontineref1_within.calls (rd (rd_L3 l0_2 x3_1) x5_2) 0 1000 false _ A12.out).mono ?_); rintro e w' ⟨rfl, ⟨nd, rfl⟩⟩; (try first | exact ⟨rfl, _, World.drewN_drewN _ _ _⟩ | exact ⟨rfl, _, Eq.trans (World.drewN_drewN _ _ _) (congrArg (World.drewN _) (Nat.add_assoc _ _ _))⟩)))
            repeat (go_quiet (first | (go_at_call 20; (with_reducible refine (tontineref1_within.calls (rd (rd_L3 l0_2 x3_1) x5_2) 0 1000 false _ A12.out).mono ?_); rintro e w' ⟨rfl, ⟨nd, rfl⟩⟩; (try first | exact ⟨rfl, _, World.drewN_drewN _ _ _⟩ | exact ⟨rfl, _, Eq.trans (World.drewN_drewN _ _ _) (congrArg (World.drewN _) (Nat.add_assoc _ _ _))⟩))); try go_wp2_with (first | (go_at_call 20; (with_reducible refine (tontineref1_within.calls (rd (rd_L3 l0_2 x3_1) x5_2) 0 1000 false _ A12.out).mono ?_); rintro e w' ⟨rfl, ⟨nd, rfl⟩⟩; (try first | exact ⟨rfl, _, World.drewN_drewN _ _ _⟩ | exact ⟨rfl, _, Eq.trans (World.drewN_drewN _ _ _) (congrArg (World.drewN _) (Nat.add_assoc _ _ _))⟩))))
            go_ret
            exact ⟨Goto.er, by repeat (first | (with_reducible first | exact HB.out | apply below_alloc | apply pw_below_drewN | apply below_drew1 | refine below_set ?_ GE243.out) | exact HB.out)⟩
          ·
           rw [if_neg c11] at H
           exact absurd H (by simp)
         ·
          rw [if_neg c10] at H
          have c10b0 : decide (x5_2 < ((rd_L3 l0_2 x3_1).length : Int)) = false := decide_eq_false c10
          clear c10
          by_cases c18 : ((rd_L3 l0_2 x3_1).length : Int) = (l0_3.length : Int)
          ·
           rw [if_pos c18] at H
           have c18b0 : (((rd_L3 l0_2 x3_1).length : Int) == (l0_3.length : Int)) = true := beq_iff_eq.mpr c18
           have c18b1 : (((rd_L3 l0_2 x3_1).length : Int) != (l0_3.length : Int)) = false := bne_eq_false_iff_eq.mpr c18
           have c18b2 : ((rd_L3 l0_2 x3_1).length == l0_3.length) = true := by first | simpa using c18 | (simp at c18 ⊢; omega)
           clear c18
           by_cases c19 : x4_2 = true
           ·
            subst c19
            rw [if_pos rfl] at H
            have H' := Goto.m0 H
            clear H; have hcz20_0 := Goto.bc0 BK243; have hcz20_1 := Goto.bc1 BK243; have hcz20_2 := Goto.bc2 BK243; have hcz20_3 := Goto.bc3 BK243; have hfz20_0 := Goto.bf BK243 0; have hfz20_1 := Goto.bf BK243 1; have hfz20_2 := Goto.bf BK243 2; have hfz20_3 := Goto.bf BK243 3
            have p245 : 0 ≤ (x3_1 : Int) := Goto.od
            have q245 : x3_1 < (l0_2.length : Int) := Goto.od
            obtain ⟨ad245, A245_0, c245_0, e245, hx245_0, hl245_0, hi245_0⟩ := at_L3 HR0_2.out x3_1 p245 q245
            cases e245
            replace hx245_0 := Goto.kc HB.out hx245_0
            have HR245_0 := Goto.m0 hi245_0
            have HC245_0 := Goto.m0 hl245_0
            clear hi245_0 hl245_0; replace p245 := eq_true p245; replace q245 := eq_true q245
            have p246 : 0 ≤ (x3_1 : Int) := Goto.od
            have q246 : x3_1 < (l0_2.length : Int) := Goto.od
            obtain ⟨ad246, A246_0, c246_0, e246, hx246_0, hl246_0, hi246_0⟩ := at_L3 HR0_2.out x3_1 p246 q246
            obtain rfl : ad245 = ad246 := (by injection e246)
            replace hx246_0 := Goto.kc HB.out hx246_0
            have HR246_0 := Goto.m0 hi246_0
            have HC246_0 := Goto.m0 hl246_0
            clear hi246_0 hl246_0; replace p246 := eq_true p246; replace q246 := eq_true q246
            have ea_ := Option.some.inj (hx245_0.symm.trans hx246_0)
            injection ea_ with ea_ en_ ec_
            subst ea_
            subst ec_
            clear en_
            go_wp2
            repeat (go_quiet (fail); try go_wp2)
            go_roundg k2
            case measure => have := HK1.out; have := HK2.out; omega
            case rel => exact ⟨(wrap64 (x3_1 + 1)), (by first | rfl | (simp; done) | (simp [*]; done)), H', ⟨by have := HK1.out; have := HK2.out; omega⟩, ⟨Goto.bx BK243⟩, ⟨Goto.hx HB⟩⟩
           ·
            replace c19 := Bool.eq_false_iff.mpr c19
            subst c19
            rw [if_neg (show ¬ (false = true) by decide)] at H
            obtain rfl := Option.some.inj H
            have hcz21_0 := Goto.bc0 BK243; have hcz21_1 := Goto.bc1 BK243; have hcz21_2 := Goto.bc2 BK243; have hcz21_3 := Goto.bc3 BK243; have hfz21_0 := Goto.bf BK243 0; have hfz21_1 := Goto.bf BK243 1; have hfz21_2 := Goto.bf BK243 2; have hfz21_3 := Goto.bf BK243 3
            have p245 : 0 ≤ (x3_1 : Int) := Goto.od
            have q245 : x3_1 < (l0_2.length : Int) := Goto.od
            obtain ⟨ad245, A245_0, c245_0, e245, hx245_0, hl245_0, hi245_0⟩ := at_L3 HR0_2.out x3_1 p245 q245
            cases e245
            replace hx245_0 := Goto.kc HB.out hx245_0
            have HR245_0 := Goto.m0 hi245_0
            have HC245_0 := Goto.m0 hl245_0
            clear hi245_0 hl245_0; replace p245 := eq_true p245; replace q245 := eq_true q245
            have p246 : 0 ≤ (x3_1 : Int) := Goto.od
            have q246 : x3_1 < (l0_2.length : Int) := Goto.od
            obtain ⟨ad246, A246_0, c246_0, e246, hx246_0, hl246_0, hi246_0⟩ := at_L3 HR0_2.out x3_1 p246 q246
            obtain rfl : ad245 = ad246 := (by injection e246)
            replace hx246_0 := Goto.kc HB.out hx246_0
            have HR246_0 := Goto.m0 hi246_0
            have HC246_0 := Goto.m0 hl246_0
            clear hi246_0 hl246_0; replace p246 := eq_true p246; replace q246 := eq_true q246
            have ea_ := Option.some.inj (hx245_0.symm.trans hx246_0)
            injection ea_ with ea_ en_ ec_
            subst ea_
            subst ec_
            clear en_
            go_wp2
            repeat (go_quiet (fail); try go_wp2)
            go_ret
            exact ⟨Goto.er, by repeat (first | (with_reducible first | exact HB.out | apply below_alloc | apply pw_below_drewN | apply below_drew1 | refine below_set ?_ GE243.out) | exact HB.out)⟩
          ·
           rw [if_neg c18] at H
           have c18b0 : (((rd_L3 l0_2 x3_1).length : Int) == (l0_3.length : Int)) = false := beq_eq_false_iff_ne.mpr c18
           have c18b1 : (((rd_L3 l0_2 x3_1).length : Int) != (l0_3.length : Int)) = true := bne_iff_ne.mpr c18
           have c18b2 : ((rd_L3 l0_2 x3_1).length == l0_3.length) = false := by first | simpa using c18 | (simp at c18 ⊢; omega)
           obtain rfl := Option.some.inj H
           have hcz22_0 := Goto.bc0 BK243; have hcz22_1 := Goto.bc1 BK243; have hcz22_2 := Goto.bc2 BK243; have hcz22_3 := Goto.bc3 BK243; have hfz22_0 := Goto.bf BK243 0; have hfz22_1 := Goto.bf BK243 1; have hfz22_2 := Goto.bf BK243 2; have hfz22_3 := Goto.bf BK243 3
           have p245 : 0 ≤ (x3_1 : Int) := Goto.od
           have q245 : x3_1 < (l0_2.length : Int) := Goto.od
           obtain ⟨ad245, A245_0, c245_0, e245, hx245_0, hl245_0, hi245_0⟩ := at_L3 HR0_2.out x3_1 p245 q245
           cases e245
           replace hx245_0 := Goto.kc HB.out hx245_0
           have HR245_0 := Goto.m0 hi245_0
           have HC245_0 := Goto.m0 hl245_0
           clear hi245_0 hl245_0; replace p245 := eq_true p245; replace q245 := eq_true q245
           have p246 : 0 ≤ (x3_1 : Int) := Goto.od
           have q246 : x3_1 < (l0_2.length : Int) := Goto.od
           obtain ⟨ad246, A246_0, c246_0, e246, hx246_0, hl246_0, hi246_0⟩ := at_L3 HR0_2.out x3_1 p246 q246
           obtain rfl : ad245 = ad246 := (by injection e246)
           replace hx246_0 := Goto.kc HB.out hx246_0
           have HR246_0 := Goto.m0 hi246_0
           have HC246_0 := Goto.m0 hl246_0
           clear hi246_0 hl246_0; replace p246 := eq_true p246; replace q246 := eq_true q246
           have ea_ := Option.some.inj (hx245_0.symm.trans hx246_0)
           injection ea_ with ea_ en_ ec_
           subst ea_
           subst ec_
           clear en_
           go_wp2
           repeat (go_quiet (fail); try go_wp2)
           go_ret
           exact ⟨Goto.er, by repeat (first | (with_reducible first | exact HB.out | apply below_alloc | apply pw_below_drewN | apply below_drew1 | refine below_set ?_ GE243.out) | exact HB.out)⟩
        ·
         rw [if_neg c9] at H
         exact absurd H (by simp)
       ·
        rw [if_neg c8] at H
        exact absurd H (by simp)
    ·
     rw [if_neg c6] at H
     have c6b0 : decide (x3_1 < (l0_2.length : Int)) = false := decide_eq_false c6
     clear c6
     obtain rfl := Option.some.inj H
     have hcz23_0 := Goto.bc0 BK243; have hcz23_1 := Goto.bc1 BK243; have hcz23_2 := Goto.bc2 BK243; have hcz23_3 := Goto.bc3 BK243; have hfz23_0 := Goto.bf BK243 0; have hfz23_1 := Goto.bf BK243 1; have hfz23_2 := Goto.bf BK243 2; have hfz23_3 := Goto.bf BK243 3
     go_wp2
     repeat (go_quiet (fail); try go_wp2)
     go_ret
     exact ⟨Goto.er, by repeat (first | (with_reducible first | exact HB.out | apply below_alloc | apply pw_below_drewN | apply below_drew1 | refine below_set ?_ GE243.out) | exact HB.out)⟩
 ·
  replace c3 := Bool.eq_false_iff.mpr c3
  subst c3
  rw [if_neg (show ¬ (false = true) by decide)] at H
  obtain rfl := Option.some.inj H
  go_enter Tryd.func22, Tryd.ntmps22
  go_wp2_with (first | ((with_reducible refine gate_dst (N := 1) rfl ?_); refine box_event ?hg (N := 1) ?hd (cs := #[.int .i64 a0_0, .int .i64 a0_1, .slice A0_2 l0_2.length c0_2, .slice A0_3 l0_3.length c0_3]) (t := 25) ?hr ?_; (case hd => rfl); (case hg => rfl); (case hr => first | (go_simp; done) | (go_simp; rfl)); intro gb243 hg w24 hbox hb; have BK243 := Goto.m0 (hbox); have GW243 := Goto.gs HB hg; have GE243 := Goto.gs HB hg; replace HB := Goto.hs HB hb; clear hb hbox hg; have hcz25_0 := Goto.bc0 BK243; have hcz25_1 := Goto.bc1 BK243; have hcz25_2 := Goto.bc2 BK243; have hcz25_3 := Goto.bc3 BK243; have hfz25_0 := Goto.bf BK243 0; have hfz25_1 := Goto.bf BK243 1; have hfz25_2 := Goto.bf BK243 2; have hfz25_3 := Goto.bf BK243 3) | (go_at_call 20; (with_reducible refine (tontineref1_within.calls (l0_2.length : Int) 1 3 false _ A2.out).mono ?_); rintro e w' ⟨rfl, ⟨nd, rfl⟩⟩; (try first | exact ⟨rfl, _, World.drewN_drewN _ _ _⟩ | exact ⟨rfl, _, Eq.trans (World.drewN_drewN _ _ _) (congrArg (World.drewN _) (Nat.add_assoc _ _ _))⟩)))
  repeat (go_quiet (first | ((with_reducible refine gate_dst (N := 1) rfl ?_); refine box_event ?hg (N := 1) ?hd (cs := #[.int .i64 a0_0, .int .i64 a0_1, .slice A0_2 l0_2.length c0_2, .slice A0_3 l0_3.length c0_3]) (t := 25) ?hr ?_; (case hd => rfl); (case hg => rfl); (case hr => first | (go_simp; done) | (go_simp; rfl)); intro gb243 hg w24 hbox hb; have BK243 := Goto.m0 (hbox); have GW243 := Goto.gs HB hg; have GE243 := Goto.gs HB hg; replace HB := Goto.hs HB hb; clear hb hbox hg; have hcz25_0 := Goto.bc0 BK243; have hcz25_1 := Goto.bc1 BK243; have hcz25_2 := Goto.bc2 BK243; have hcz25_3 := Goto.bc3 BK243; have hfz25_0 := Goto.bf BK243 0; have hfz25_1 := Goto.bf BK243 1; have hfz25_2 := Goto.bf BK243 2; have hfz25_3 := Goto.bf BK243 3) | (go_at_call 20; (with_reducible refine (tontineref1_within.calls (l0_2.length : Int) 1 3 false _ A2.out).mono ?_); rintro e w' ⟨rfl, ⟨nd, rfl⟩⟩; (try first | exact ⟨rfl, _, World.drewN_drewN _ _ _⟩ | exact ⟨rfl, _, Eq.trans (World.drewN_drewN _ _ _) (congrArg (World.drewN _) (Nat.add_assoc _ _ _))⟩))); try go_wp2_with (first | ((with_reducible refine gate_dst (N := 1) rfl ?_); refine box_event ?hg (N := 1) ?hd (cs := #[.int .i64 a0_0, .int .i64 a0_1, .slice A0_2 l0_2.length c0_2, .slice A0_3 l0_3.length c0_3]) (t := 25) ?hr ?_; (case hd => rfl); (case hg => rfl); (case hr => first | (go_simp; done) | (go_simp; rfl)); intro gb243 hg w24 hbox hb; have BK243 := Goto.m0 (hbox); have GW243 := Goto.gs HB hg; have GE243 := Goto.gs HB hg; replace HB := Goto.hs HB hb; clear hb hbox hg; have hcz25_0 := Goto.bc0 BK243; have hcz25_1 := Goto.bc1 BK243; have hcz25_2 := Goto.bc2 BK243; have hcz25_3 := Goto.bc3 BK243; have hfz25_0 := Goto.bf BK243 0; have hfz25_1 := Goto.bf BK243 1; have hfz25_2 := Goto.bf BK243 2; have hfz25_3 := Goto.bf BK243 3) | (go_at_call 20; (with_reducible refine (tontineref1_within.calls (l0_2.length : Int) 1 3 false _ A2.out).mono ?_); rintro e w' ⟨rfl, ⟨nd, rfl⟩⟩; (try first | exact ⟨rfl, _, World.drewN_drewN _ _ _⟩ | exact ⟨rfl, _, Eq.trans (World.drewN_drewN _ _ _) (congrArg (World.drewN _) (Nat.add_assoc _ _ _))⟩))))
  go_ret
  exact ⟨Goto.er, by repeat (first | (with_reducible first | exact HB.out | apply below_alloc | apply pw_below_drewN | apply below_drew1 | refine below_set ?_ GE243.out) | exact HB.out)⟩

/-! ### tontineref1_Leq: function 43 -/
def tontineref1_Leq.f (a0_0 : Int) (a0_1 : Int) (a1_0 : Int) (a1_1 : Int) : Option (Bool) := if a0_0 ≤ a1_0 then (some ((Go.bits .andNot .u64 a0_1 a1_1) == 0)) else (some false)
set_option maxHeartbeats 8000000 in
set_option maxRecDepth 100000 in
theorem tontineref1_Leq.calls (a0_0 : Int) (a0_1 : Int) (a1_0 : Int) (a1_1 : Int) (r : Bool) (w : World) (h : tontineref1_Leq.f a0_0 a0_1 a1_0 a1_1 = some r) :
    Calls Tryd.prog 43 #[.agg #[.int .i64 a0_0, .int .u64 a0_1], .agg #[.int .i64 a1_0, .int .u64 a1_1]] w fun e w' => e = .returned (.bool r) ∧ Below w.heap.size w w' := by
 have hu38 := Tryd.underlying38
 have HB := Goto.m0 (Below.refl w.heap.size w)
 have H : (if a0_0 ≤ a1_0 then (some ((Go.bits .andNot .u64 a0_1 a1_1) == 0)) else (some false)) = some r := h
 clear h
 by_cases c3 : a0_0 ≤ a1_0
 ·
  rw [if_pos c3] at H
  have c3b0 : decide (a0_0 ≤ a1_0) = true := decide_eq_true c3
  clear c3
  obtain rfl := Option.some.inj H
  go_enter Tryd.func43, Tryd.ntmps43
  go_wp2_with (first | ((with_reducible refine gate_dst (N := 2) rfl ?_); refine box_event ?hg (N := 2) ?hd (cs := #[.int .i64 a0_0, .int .u64 a0_1]) (t := 38) ?hr ?_; (case hd => rfl); (case hg => rfl); (case hr => first | (go_simp; done) | (go_simp; rfl)); intro gb252 hg w4 hbox hb; have BK252 := Goto.m0 (hbox); have GW252 := Goto.gs HB hg; have GE252 := Goto.gs HB hg; replace HB := Goto.hs HB hb; clear hb hbox hg) | ((with_reducible refine gate_dst (N := 3) rfl ?_); refine box_event ?hg (N := 3) ?hd (cs := #[.int .i64 a1_0, .int .u64 a1_1]) (t := 38) ?hr ?_; (case hd => rfl); (case hg => rfl); (case hr => first | (go_simp; done) | (go_simp; rfl)); intro gb253 hg w5 hbox hb; have BK253 := Goto.m0 (hbox); have GW253 := Goto.gs HB hg; have GE253 := Goto.gs HB hg; have NB252_253 := Goto.nl BK252 hg; have NB253_252 := Goto.nr BK252 hg; replace BK252 := Goto.bb BK252 hb; replace HB := Goto.hs HB hb; clear hb hbox hg; have hnb6 := NB252_253.out; have hnc6 := NB253_252.out; have hcz7_0 := Goto.bc0 BK252; have hcz7_1 := Goto.bc1 BK252; have hfz7_0 := Goto.bf BK252 0; have hfz7_1 := Goto.bf BK252 1; have hcz8_0 := Goto.bc0 BK253; have hcz8_1 := Goto.bc1 BK253; have hfz8_0 := Goto.bf BK253 0; have hfz8_1 := Goto.bf BK253 1))
  go_ret
  exact ⟨Goto.er, by repeat (first | (with_reducible first | exact HB.out | apply below_alloc | apply pw_below_drewN | apply below_drew1 | refine below_set ?_ GE252.out | refine below_set ?_ GE253.out) | exact HB.out)⟩
 ·
  rw [if_neg c3] at H
  have c3b0 : decide (a0_0 ≤ a1_0) = false := decide_eq_false c3
  clear c3
  obtain rfl := Option.some.inj H
  go_enter Tryd.func43, Tryd.ntmps43
  go_wp2_with (first | ((with_reducible refine gate_dst (N := 2) rfl ?_); refine box_event ?hg (N := 2) ?hd (cs := #[.int .i64 a0_0, .int .u64 a0_1]) (t := 38) ?hr ?_; (case hd => rfl); (case hg => rfl); (case hr => first | (go_simp; done) | (go_simp; rfl)); intro gb252 hg w9 hbox hb; have BK252 := Goto.m0 (hbox); have GW252 := Goto.gs HB hg; have GE252 := Goto.gs HB hg; replace HB := Goto.hs HB hb; clear hb hbox hg) | ((with_reducible refine gate_dst (N := 3) rfl ?_); refine box_event ?hg (N := 3) ?hd (cs := #[.int .i64 a1_0, .int .u64 a1_1]) (t := 38) ?hr ?_; (case hd => rfl); (case hg => rfl); (case hr => first | (go_simp; done) | (go_simp; rfl)); intro gb253 hg w10 hbox hb; have BK253 := Goto.m0 (hbox); have GW253 := Goto.gs HB hg; have GE253 := Goto.gs HB hg; have NB252_253 := Goto.nl BK252 hg; have NB253_252 := Goto.nr BK252 hg; replace BK252 := Goto.bb BK252 hb; replace HB := Goto.hs HB hb; clear hb hbox hg; have hnb11 := NB252_253.out; have hnc11 := NB253_252.out; have hcz12_0 := Goto.bc0 BK252; have hcz12_1 := Goto.bc1 BK252; have hfz12_0 := Goto.bf BK252 0; have hfz12_1 := Goto.bf BK252 1; have hcz13_0 := Goto.bc0 BK253; have hcz13_1 := Goto.bc1 BK253; have hfz13_0 := Goto.bf BK253 0; have hfz13_1 := Goto.bf BK253 1))
  go_ret
  exact ⟨Goto.er, by repeat (first | (with_reducible first | exact HB.out | apply below_alloc | apply pw_below_drewN | apply below_drew1 | refine below_set ?_ GE252.out | refine below_set ?_ GE253.out) | exact HB.out)⟩

end Go.Proofs.YtjgdcifbhmjinaaDoor.P
