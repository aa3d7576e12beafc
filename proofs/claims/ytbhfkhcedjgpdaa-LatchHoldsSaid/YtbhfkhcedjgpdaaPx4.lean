/- Printed by a program of this workplace (a turned copy of the kit's optional print), out of the translation; not trusted: Lean checks it. -/
import Derived.Test.YtbhfkhcedjgpdaaPx0
import Derived.Test.YtbhfkhcedjgpdaaPx3
namespace Go.Proofs.Ytbhfkhcedjgpdaa.P
open Go.RowKit Go.Proofs.YtbhfkhcedjgpdaaW.PrintWords Go.Proofs.YtbhfkhcedjgpdaaW.PrintLast Go.Proofs.YtbhfkhcedjgpdaaW.PrintMore
attribute [local go_sem] max2_int min2_int max_two min_two max_three min_three max_four min_four   -- for this text's walks alone
set_option linter.unusedVariables false
set_option linter.unusedSimpArgs false

/-! ### tontineref1_shares: function 43 -/
mutual
def tontineref1_shares.l0 : Nat → Int → Int → Int → List (List Int) → List (S44) → Option (Bool)
  | 0, _, _, _, _, _ => none
  | k + 1, x3, x110000, x110001, x110002, x110003 => if x3 < (x110002.length : Int) then (tontineref1_shares.l1 k x3 false 0 x110000 x110001 x110002 x110003) else (some true)
def tontineref1_shares.l1 : Nat → Int → Bool → Int → Int → Int → List (List Int) → List (S44) → Option (Bool)
  | 0, _, _, _, _, _, _, _ => none
  | k + 1, x3, x4, x5, x110000, x110001, x110002, x110003 => if 0 ≤ x3 then (if x3 < (x110002.length : Int) then (if x5 < ((rd_L1 x110002 x3).length : Int) then (if 0 ≤ x5 then ((tontineref1_within.f (rd (rd_L1 x110002 x3) x5) 0 1000).bind fun t114 => (if t114 = true then (if x4 = true then (tontineref1_shares.l1 k x3 true (wrap64 (x5 + 1)) x110000 x110001 x110002 x110003) else (tontineref1_shares.l1 k x3 (decide ((rd (rd_L1 x110002 x3) x5) > 0)) (wrap64 (x5 + 1)) x110000 x110001 x110002 x110003)) else (some false))) else (none)) else (if ((rd_L1 x110002 x3).length : Int) = (x110003.length : Int) then (if x4 = true then (tontineref1_shares.l0 k (wrap64 (x3 + 1)) x110000 x110001 x110002 x110003) else (some false)) else (some false))) else (none)) else (none)
end
def tontineref1_shares.f (k : Nat) (a0_0 : Int) (a0_1 : Int) (l0_2 : List (List Int)) (l0_3 : List (S44)) : Option (Bool) := (tontineref1_within.f (l0_2.length : Int) 1 3).bind fun t110 => (if t110 = true then (tontineref1_shares.l0 k 0 a0_0 a0_1 l0_2 l0_3) else (some false))
theorem tontineref1_shares.mono_l : ∀ k, (∀ y0 y1 y2 y3 y4, LeO (tontineref1_shares.l0 k y0 y1 y2 y3 y4) (tontineref1_shares.l0 (k + 1) y0 y1 y2 y3 y4)) ∧ (∀ y0 y1 y2 y3 y4 y5 y6, LeO (tontineref1_shares.l1 k y0 y1 y2 y3 y4 y5 y6) (tontineref1_shares.l1 (k + 1) y0 y1 y2 y3 y4 y5 y6))
  | 0 => ⟨fun _ _ _ _ _ r h => by simp [tontineref1_shares.l0] at h, fun _ _ _ _ _ _ _ r h => by simp [tontineref1_shares.l1] at h⟩
  | k + 1 => by
    obtain ⟨ih0, ih1⟩ := tontineref1_shares.mono_l k
    refine ⟨?_, ?_⟩
    · intro y0 y1 y2 y3 y4
      unfold tontineref1_shares.l0
      repeat' first
      | (with_reducible exact ih0 _ _ _ _ _)
      | (with_reducible exact ih1 _ _ _ _ _ _ _)
      | (with_reducible exact LeO.refl _)
      | (with_reducible exact LeO.none _)
      | (with_reducible refine LeO.ite ?_ ?_)
      | (with_reducible refine LeO.bind ?_ (fun _ => ?_))
      | exact ih0 _ _ _ _ _
      | exact ih1 _ _ _ _ _ _ _
      | exact LeO.none _
      | refine LeO.ite ?_ ?_
      | refine LeO.bind ?_ (fun _ => ?_)
    · intro y0 y1 y2 y3 y4 y5 y6
      unfold tontineref1_shares.l1
      repeat' first
      | (with_reducible exact ih0 _ _ _ _ _)
      | (with_reducible exact ih1 _ _ _ _ _ _ _)
      | (with_reducible exact LeO.refl _)
      | (with_reducible exact LeO.none _)
      | (with_reducible refine LeO.ite ?_ ?_)
      | (with_reducible refine LeO.bind ?_ (fun _ => ?_))
      | exact ih0 _ _ _ _ _
      | exact ih1 _ _ _ _ _ _ _
      | exact LeO.none _
      | refine LeO.ite ?_ ?_
      | refine LeO.bind ?_ (fun _ => ?_)
theorem tontineref1_shares.mono : ∀ a0 a1 a2 a3 k, LeO (tontineref1_shares.f k a0 a1 a2 a3) (tontineref1_shares.f (k + 1) a0 a1 a2 a3) := by
 intro a0 a1 a2 a3 k
 obtain ⟨ih0, ih1⟩ := tontineref1_shares.mono_l k
 unfold tontineref1_shares.f
 repeat' first
   | (with_reducible exact ih0 _ _ _ _ _)
   | (with_reducible exact ih1 _ _ _ _ _ _ _)
   | (with_reducible exact LeO.refl _)
   | (with_reducible exact LeO.none _)
   | (with_reducible refine LeO.ite ?_ ?_)
   | (with_reducible refine LeO.bind ?_ (fun _ => ?_))
   | exact ih0 _ _ _ _ _
   | exact ih1 _ _ _ _ _ _ _
   | exact LeO.none _
   | refine LeO.ite ?_ ?_
   | refine LeO.bind ?_ (fun _ => ?_)
set_option maxHeartbeats 8000000 in
set_option maxRecDepth 100000 in
theorem tontineref1_shares.calls (k : Nat) (a0_0 : Int) (a0_1 : Int) (A0_2 : Option Addr) (c0_2 : Nat) (l0_2 : List (List Int)) (A0_3 : Option Addr) (c0_3 : Nat) (l0_3 : List (S44)) (r : Bool) (w : World) (hr0_2 : Kd.C (Kd.slice 3 (Kd.int .i64)) w A0_2 l0_2.length l0_2) (hc0_2 : l0_2.length ≤ c0_2) (hr0_3 : Kd.C k44 w A0_3 l0_3.length l0_3) (hc0_3 : l0_3.length ≤ c0_3) (h : tontineref1_shares.f k a0_0 a0_1 l0_2 l0_3 = some r) :
    Calls Try.prog 43 #[.agg #[.int .i64 a0_0, .int .i64 a0_1, .slice A0_2 l0_2.length c0_2, .slice A0_3 l0_3.length c0_3]] w fun e w' => e = .returned (.bool r) ∧ Below w.heap.size w w' := by
 have hu25 := Try.underlying25
 have HR0_2 := Goto.m0 hr0_2
 have HC0_2 := Goto.m0 hc0_2
 clear hr0_2 hc0_2
 have HR0_3 := Goto.m0 hr0_3
 have HC0_3 := Goto.m0 hc0_3
 clear hr0_3 hc0_3
 have HB := Goto.m0 (Below.refl w.heap.size w)
 have H : ((tontineref1_within.f (l0_2.length : Int) 1 3).bind fun t110 => (if t110 = true then (tontineref1_shares.l0 k 0 a0_0 a0_1 l0_2 l0_3) else (some false))) = some r := h
 clear h
 replace H := Option.bind_eq_some_iff.mp H
 obtain ⟨t110, A20, H⟩ := H
 have A2 := Goto.m0 A20
 clear A20
 by_cases c3 : t110 = true
 ·
  subst c3
  rw [if_pos rfl] at H
  have H' := Goto.m0 H
  clear H
  go_enter Try.func43, Try.ntmps43
  go_wp2_with (first | ((with_reducible refine gate_dst (N := 1) rfl ?_); refine box_event ?hg (N := 1) ?hd (cs := #[.int .i64 a0_0, .int .i64 a0_1, .slice A0_2 l0_2.length c0_2, .slice A0_3 l0_3.length c0_3]) (t := 25) ?hr ?_; (case hd => rfl); (case hg => rfl); (case hr => first | (go_simp; done) | (go_simp; rfl)); intro gb109 hg w4 hbox hb; have BK109 := Goto.m0 (hbox); have GW109 := Goto.gs HB hg; have GE109 := Goto.gs HB hg; replace HB := Goto.hs HB hb; clear hb hbox hg; have hcz5_0 := Goto.bc0 BK109; have hcz5_1 := Goto.bc1 BK109; have hcz5_2 := Goto.bc2 BK109; have hcz5_3 := Goto.bc3 BK109; have hfz5_0 := blk_frozen BK109.out 0; have hfz5_1 := blk_frozen BK109.out 1; have hfz5_2 := blk_frozen BK109.out 2; have hfz5_3 := blk_frozen BK109.out 3) | (go_at_call 41; (with_reducible refine (tontineref1_within.calls (l0_2.length : Int) 1 3 true _ A2.out).mono ?_); rintro e w' ⟨rfl, ⟨nd, rfl⟩⟩; (try first | exact ⟨rfl, _, World.drewN_drewN _ _ _⟩ | exact ⟨rfl, _, Eq.trans (World.drewN_drewN _ _ _) (congrArg (World.drewN _) (Nat.add_assoc _ _ _))⟩)))
  repeat (go_quiet (first | ((with_reducible refine gate_dst (N := 1) rfl ?_); refine box_event ?hg (N := 1) ?hd (cs := #[.int .i64 a0_0, .int .i64 a0_1, .slice A0_2 l0_2.length c0_2, .slice A0_3 l0_3.length c0_3]) (t := 25) ?hr ?_; (case hd => rfl); (case hg => rfl); (case hr => first | (go_simp; done) | (go_simp; rfl)); intro gb109 hg w4 hbox hb; have BK109 := Goto.m0 (hbox); have GW109 := Goto.gs HB hg; have GE109 := Goto.gs HB hg; replace HB := Goto.hs HB hb; clear hb hbox hg; have hcz5_0 := Goto.bc0 BK109; have hcz5_1 := Goto.bc1 BK109; have hcz5_2 := Goto.bc2 BK109; have hcz5_3 := Goto.bc3 BK109; have hfz5_0 := blk_frozen BK109.out 0; have hfz5_1 := blk_frozen BK109.out 1; have hfz5_2 := blk_frozen BK109.out 2; have hfz5_3 := blk_frozen BK109.out 3) | (go_at_call 41; (with_reducible refine (tontineref1_within.calls (l0_2.length : Int) 1 3 true _ A2.out).mono ?_); rintro e w' ⟨rfl, ⟨nd, rfl⟩⟩; (try first | exact ⟨rfl, _, World.drewN_drewN _ _ _⟩ | exact ⟨rfl, _, Eq.trans (World.drewN_drewN _ _ _) (congrArg (World.drewN _) (Nat.add_assoc _ _ _))⟩))); try go_wp2_with (first | ((with_reducible refine gate_dst (N := 1) rfl ?_); refine box_event ?hg (N := 1) ?hd (cs := #[.int .i64 a0_0, .int .i64 a0_1, .slice A0_2 l0_2.length c0_2, .slice A0_3 l0_3.length c0_3]) (t := 25) ?hr ?_; (case hd => rfl); (case hg => rfl); (case hr => first | (go_simp; done) | (go_simp; rfl)); intro gb109 hg w4 hbox hb; have BK109 := Goto.m0 (hbox); have GW109 := Goto.gs HB hg; have GE109 := Goto.gs HB hg; replace HB := Goto.hs HB hb; clear hb hbox hg; have hcz5_0 := Goto.bc0 BK109; have hcz5_1 := Goto.bc1 BK109; have hcz5_2 := Goto.bc2 BK109; have hcz5_3 := Goto.bc3 BK109; have hfz5_0 := blk_frozen BK109.out 0; have hfz5_1 := blk_frozen BK109.out 1; have hfz5_2 := blk_frozen BK109.out 2; have hfz5_3 := blk_frozen BK109.out 3) | (go_at_call 41; (with_reducible refine (tontineref1_within.calls (l0_2.length : Int) 1 3 true _ A2.out).mono ?_); rintro e w' ⟨rfl, ⟨nd, rfl⟩⟩; (try first | exact ⟨rfl, _, World.drewN_drewN _ _ _⟩ | exact ⟨rfl, _, Eq.trans (World.drewN_drewN _ _ _) (congrArg (World.drewN _) (Nat.add_assoc _ _ _))⟩))))
  go_loopg [3] k (fun kq v3 w' => ∃ (x3_1 : Int), v3 = .int .i64 x3_1 ∧ Aside0 (tontineref1_shares.l0 kq x3_1 a0_0 a0_1 l0_2 l0_3 = some r) ∧ Aside0 (kq ≤ k) ∧ Aside0 (w'.heap[gb109]? = some (.cells #[.int .i64 a0_0, .int .i64 a0_1, (.slice A0_2 l0_2.length c0_2), (.slice A0_3 l0_3.length c0_3)] 25 (0, 0))) ∧ Aside0 (Below w.heap.size w w'))
  case atStart => exact ⟨(0), (by first | rfl | (simp; done) | (simp [*]; done)), H', ⟨Nat.le_refl _⟩, ⟨Goto.bx BK109⟩, ⟨Goto.hx HB⟩⟩
  case round =>
   clear H'
   try clear p2; try clear c3; try clear c4; try clear hcz5_0; try clear hcz5_1; try clear hcz5_2; try clear hcz5_3; try clear hfz5_0; try clear hfz5_1; try clear hfz5_2; try clear hfz5_3
   obtain ⟨x3_1, rfl, HA, HK1, BK109, HB⟩ := hrel
   cases gk with
   | zero => exact absurd HA.out (by simp [tontineref1_shares.l0])
   | succ k1 =>
    have H := HA.out; clear HA
    simp only [tontineref1_shares.l0] at H
    by_cases c6 : x3_1 < (l0_2.length : Int)
    ·
     rw [if_pos c6] at H
     have c6b0 : decide (x3_1 < (l0_2.length : Int)) = true := decide_eq_true c6
     clear c6
     have H' := Goto.m0 H
     clear H; have hcz7_0 := Goto.bc0 BK109; have hcz7_1 := Goto.bc1 BK109; have hcz7_2 := Goto.bc2 BK109; have hcz7_3 := Goto.bc3 BK109; have hfz7_0 := blk_frozen BK109.out 0; have hfz7_1 := blk_frozen BK109.out 1; have hfz7_2 := blk_frozen BK109.out 2; have hfz7_3 := blk_frozen BK109.out 3
     go_wp2
     repeat (go_quiet (fail); try go_wp2)
     go_loopg [4, 5] k1 (fun kq v4 v5 w' => ∃ (x4_2 : Bool) (x5_2 : Int), v4 = .bool x4_2 ∧ v5 = .int .i64 x5_2 ∧ Aside0 (tontineref1_shares.l1 kq x3_1 x4_2 x5_2 a0_0 a0_1 l0_2 l0_3 = some r) ∧ Aside0 (kq ≤ k1) ∧ Aside0 (w'.heap[gb109]? = some (.cells #[.int .i64 a0_0, .int .i64 a0_1, (.slice A0_2 l0_2.length c0_2), (.slice A0_3 l0_3.length c0_3)] 25 (0, 0))) ∧ Aside0 (Below w.heap.size w w'))
     case atStart => exact ⟨(false), (0), (by first | rfl | (simp; done) | (simp [*]; done)), (by first | rfl | (simp; done) | (simp [*]; done)), H', ⟨Nat.le_refl _⟩, ⟨Goto.bx BK109⟩, ⟨Goto.hx HB⟩⟩
     case round =>
      clear H'
      try clear p2; try clear c3; try clear c4; try clear c6; try clear c6b0; try clear hcz5_0; try clear hcz5_1; try clear hcz5_2; try clear hcz5_3; try clear hcz7_0; try clear hcz7_1; try clear hcz7_2; try clear hcz7_3; try clear hfz5_0; try clear hfz5_1; try clear hfz5_2; try clear hfz5_3; try clear hfz7_0; try clear hfz7_1; try clear hfz7_2; try clear hfz7_3; try clear p2
      obtain ⟨x4_2, x5_2, rfl, rfl, HA, HK2, BK109, HB⟩ := hrel
      cases gk with
      | zero => exact absurd HA.out (by simp [tontineref1_shares.l1])
      | succ k2 =>
       have H := HA.out; clear HA
       simp only [tontineref1_shares.l1] at H
       by_cases c8 : 0 ≤ x3_1
       ·
        rw [if_pos c8] at H
        have c8b0 : decide (0 ≤ x3_1) = true := decide_eq_true c8
        clear c8
        by_cases c9 : x3_1 < (l0_2.length : Int)
        ·
         rw [if_pos c9] at H
         have c9b0 : decide (x3_1 < (l0_2.length : Int)) = true := decide_eq_true c9
         clear c9
         by_cases c10 : x5_2 < ((rd_L1 l0_2 x3_1).length : Int)
         ·
          rw [if_pos c10] at H
          have c10b0 : decide (x5_2 < ((rd_L1 l0_2 x3_1).length : Int)) = true := decide_eq_true c10
          clear c10
          by_cases c11 : 0 ≤ x5_2
          ·
           rw [if_pos c11] at H
           have c11b0 : decide (0 ≤ x5_2) = true := decide_eq_true c11
           clear c11
           replace H := Option.bind_eq_some_iff.mp H
           obtain ⟨t114, A120, H⟩ := H
           have A12 := Goto.m0 A120
           clear A120
           by_cases c13 : t114 = true
           ·
            subst c13
            rw [if_pos rfl] at H
            by_cases c14 : x4_2 = true
            ·
             subst c14
             rw [if_pos rfl] at H
             have H' := Goto.m0 H
             clear H; have hcz15_0 := Goto.bc0 BK109; have hcz15_1 := Goto.bc1 BK109; have hcz15_2 := Goto.bc2 BK109; have hcz15_3 := Goto.bc3 BK109; have hfz15_0 := blk_frozen BK109.out 0; have hfz15_1 := blk_frozen BK109.out 1; have hfz15_2 := blk_frozen BK109.out 2; have hfz15_3 := blk_frozen BK109.out 3
             have p111 : 0 ≤ (x3_1 : Int) := of_decide_eq_true (by first | (with_reducible assumption) | assumption)
             have q111 : x3_1 < (l0_2.length : Int) := of_decide_eq_true (by first | (with_reducible assumption) | assumption)
             obtain ⟨ad111, A111_0, c111_0, e111, hx111_0, hl111_0, hi111_0⟩ := at_L1 HR0_2.out x3_1 p111 q111
             cases e111
             replace hx111_0 := Goto.kc HB.out hx111_0
             have HR111_0 := Goto.m0 hi111_0
             have HC111_0 := Goto.m0 hl111_0
             clear hi111_0 hl111_0; replace p111 := eq_true p111; replace q111 := eq_true q111
             have p112 : 0 ≤ (x3_1 : Int) := of_decide_eq_true (by first | (with_reducible assumption) | assumption)
             have q112 : x3_1 < (l0_2.length : Int) := of_decide_eq_true (by first | (with_reducible assumption) | assumption)
             obtain ⟨ad112, A112_0, c112_0, e112, hx112_0, hl112_0, hi112_0⟩ := at_L1 HR0_2.out x3_1 p112 q112
             obtain rfl : ad111 = ad112 := (by injection e112)
             replace hx112_0 := Goto.kc HB.out hx112_0
             have HR112_0 := Goto.m0 hi112_0
             have HC112_0 := Goto.m0 hl112_0
             clear hi112_0 hl112_0; replace p112 := eq_true p112; replace q112 := eq_true q112
             have ea_ := Option.some.inj (hx111_0.symm.trans hx112_0)
             injection ea_ with ea_ en_ ec_
             subst ea_
             subst ec_
             clear en_
             have p113 : 0 ≤ (x5_2 : Int) := of_decide_eq_true (by first | (with_reducible assumption) | assumption)
             have q113 : x5_2 < ((rd_L1 l0_2 x3_1).length : Int) := of_decide_eq_true (by first | (with_reducible assumption) | assumption)
             obtain ⟨ad113, e113, hx113_0⟩ := Kd.at_int HR112_0.out x5_2 p113 q113
             cases e113
             replace hx113_0 := Goto.kc HB.out hx113_0
             replace p113 := eq_true p113; replace q113 := eq_true q113
             go_wp2_with (first | (go_at_call 41; (with_reducible refine (tontineref1_within.calls (rd (rd_L1 l0_2 x3_1) x5_2) 0 1000 true _ A12.out).mono ?_); rintro e w' ⟨rfl, ⟨nd, rfl⟩⟩; (try first | exact ⟨rfl, _, World.drewN_drewN _ _ _⟩ | exact ⟨rfl, _, Eq.trans (World.drewN_drewN _ _ _) (congrArg (World.drewN _) (Nat.add_assoc _ _ _))⟩)))
             repeat (go_quiet (first | (go_at_call 41; (with_reducible refine (tontineref1_within.calls (rd (rd_L1 l0_2 x3_1) x5_2) 0 1000 true _ A12.out).mono ?_); rintro e w' ⟨rfl, ⟨nd, rfl⟩⟩; (try first | exact ⟨rfl, _, World.drewN_drewN _ _ _⟩ | exact ⟨rfl, _, Eq.trans (World.drewN_drewN _ _ _) (congrArg (World.drewN _) (Nat.add_assoc _ _ _))⟩))); try go_wp2_with (first | (go_at_call 41; (with_reducible refine (tontineref1_within.calls (rd (rd_L1 l0_2 x3_1) x5_2) 0 1000 true _ A12.out).mono ?_); rintro e w' ⟨rfl, ⟨nd, rfl⟩⟩; (try first | exact ⟨rfl, _, World.drewN_drewN _ _ _⟩ | exact ⟨rfl, _, Eq.trans (World.drewN_drewN _ _ _) (congrArg (World.drewN _) (Nat.add_assoc _ _ _))⟩))))
             go_roundg k2
             case measure => have := HK1.out; have := HK2.out; omega
             case rel => exact ⟨(true), (wrap64 (x5_2 + 1)), (by first | rfl | (simp; done) | (simp [*]; done)), (by first | rfl | (simp; done) | (simp [*]; done)), H', ⟨by have := HK1.out; have := HK2.out; omega⟩, ⟨Goto.bx BK109⟩, ⟨Goto.hx HB⟩⟩
            ·
             replace c14 := Bool.eq_false_iff.mpr c14
             subst c14
             rw [if_neg (show ¬ (false = true) by decide)] at H
             have H' := Goto.m0 H
             clear H; have hcz16_0 := Goto.bc0 BK109; have hcz16_1 := Goto.bc1 BK109; have hcz16_2 := Goto.bc2 BK109; have hcz16_3 := Goto.bc3 BK109; have hfz16_0 := blk_frozen BK109.out 0; have hfz16_1 := blk_frozen BK109.out 1; have hfz16_2 := blk_frozen BK109.out 2; have hfz16_3 := blk_frozen BK109.out 3
             have p111 : 0 ≤ (x3_1 : Int) := of_decide_eq_true (by first | (with_reducible assumption) | assumption)
             have q111 : x3_1 < (l0_2.length : Int) := of_decide_eq_true (by first | (with_reducible assumption) | assumption)
             obtain ⟨ad111, A111_0, c111_0, e111, hx111_0, hl111_0, hi111_0⟩ := at_L1 HR0_2.out x3_1 p111 q111
             cases e111
             replace hx111_0 := Goto.kc HB.out hx111_0
             have HR111_0 := Goto.m0 hi111_0
             have HC111_0 := Goto.m0 hl111_0
             clear hi111_0 hl111_0; replace p111 := eq_true p111; replace q111 := eq_true q111
             have p112 : 0 ≤ (x3_1 : Int) := of_decide_eq_true (by first | (with_reducible assumption) | assumption)
             have q112 : x3_1 < (l0_2.length : Int) := of_decide_eq_true (by first | (with_reducible assumption) | assumption)
             obtain ⟨ad112, A112_0, c112_0, e112, hx112_0, hl112_0, hi112_0⟩ := at_L1 HR0_2.out x3_1 p112 q112
             obtain rfl : ad111 = ad112 := (by injection e112)
             replace hx112_0 := Goto.kc HB.out hx112_0
             have HR112_0 := Goto.m0 hi112_0
             have HC112_0 := Goto.m0 hl112_0
             clear hi112_0 hl112_0; replace p112 := eq_true p112; replace q112 := eq_true q112
             have ea_ := Option.some.inj (hx111_0.symm.trans hx112_0)
             injection ea_ with ea_ en_ ec_
             subst ea_
             subst ec_
             clear en_
             have p113 : 0 ≤ (x5_2 : Int) := of_decide_eq_true (by first | (with_reducible assumption) | assumption)
             have q113 : x5_2 < ((rd_L1 l0_2 x3_1).length : Int) := of_decide_eq_true (by first | (with_reducible assumption) | assumption)
             obtain ⟨ad113, e113, hx113_0⟩ := Kd.at_int HR112_0.out x5_2 p113 q113
             cases e113
             replace hx113_0 := Goto.kc HB.out hx113_0
             replace p113 := eq_true p113; replace q113 := eq_true q113
             go_wp2_with (first | (go_at_call 41; (with_reducible refine (tontineref1_within.calls (rd (rd_L1 l0_2 x3_1) x5_2) 0 1000 true _ A12.out).mono ?_); rintro e w' ⟨rfl, ⟨nd, rfl⟩⟩; (try first | exact ⟨rfl, _, World.drewN_drewN _ _ _⟩ | exact ⟨rfl, _, Eq.trans (World.drewN_drewN _ _ _) (congrArg (World.drewN _) (Nat.add_assoc _ _ _))⟩); have p115 : 0 ≤ (x3_1 : Int) := of_decide_eq_true (by first | (with_reducible assumption) | assumption); have q115 : x3_1 < (l0_2.length : Int) := of_decide_eq_true (by first | (with_reducible assumption) | assumption); obtain ⟨ad115, A115_0, c115_0, e115, hx115_0, hl115_0, hi115_0⟩ := at_L1 HR0_2.out x3_1 p115 q115; obtain rfl : ad111 = ad115 := (by injection e115); replace hx115_0 := Goto.kc HB.out hx115_0; have HR115_0 := Goto.m0 hi115_0; have HC115_0 := Goto.m0 hl115_0; clear hi115_0 hl115_0; replace p115 := eq_true p115; replace q115 := eq_true q115; have ea_ := Option.some.inj (hx111_0.symm.trans hx115_0); injection ea_ with ea_ en_ ec_; subst ea_; subst ec_; clear en_; have p116 : 0 ≤ (x5_2 : Int) := of_decide_eq_true (by first | (with_reducible assumption) | assumption); have q116 : x5_2 < ((rd_L1 l0_2 x3_1).length : Int) := of_decide_eq_true (by first | (with_reducible assumption) | assumption); obtain ⟨ad116, e116, hx116_0⟩ := Kd.at_int HR115_0.out x5_2 p116 q116; cases e116; replace hx116_0 := Goto.kc HB.out hx116_0; replace p116 := eq_true p116; replace q116 := eq_true q116))
             repeat (go_quiet (first | (go_at_call 41; (with_reducible refine (tontineref1_within.calls (rd (rd_L1 l0_2 x3_1) x5_2) 0 1000 true _ A12.out).mono ?_); rintro e w' ⟨rfl, ⟨nd, rfl⟩⟩; (try first | exact ⟨rfl, _, World.drewN_drewN _ _ _⟩ | exact ⟨rfl, _, Eq.trans (World.drewN_drewN _ _ _) (congrArg (World.drewN _) (Nat.add_assoc _ _ _))⟩); have p115 : 0 ≤ (x3_1 : Int) := of_decide_eq_true (by first | (with_reducible assumption) | assumption); have q115 : x3_1 < (l0_2.length : Int) := of_decide_eq_true (by first | (with_reducible assumption) | assumption); obtain ⟨ad115, A115_0, c115_0, e115, hx115_0, hl115_0, hi115_0⟩ := at_L1 HR0_2.out x3_1 p115 q115; obtain rfl : ad111 = ad115 := (by injection e115); replace hx115_0 := Goto.kc HB.out hx115_0; have HR115_0 := Goto.m0 hi115_0; have HC115_0 := Goto.m0 hl115_0; clear hi115_0 hl115_0; replace p115 := eq_true p115; replace q115 := eq_true q115; have ea_ := Option.some.inj (hx111_0.symm.trans hx115_0); injection ea_ with ea_ en_ ec_; subst ea_; subst ec_; clear en_; have p116 : 0 ≤ (x5_2 : Int) := of_decide_eq_true (by first | (with_reducible assumption) | assumption); have q116 : x5_2 < ((rd_L1 l0_2 x3_1).length : Int) := of_decide_eq_true (by first | (with_reducible assumption) | assumption); obtain ⟨ad116, e116, hx116_0⟩ := Kd.at_int HR115_0.out x5_2 p116 q116; cases e116; replace hx116_0 := Goto.kc HB.out hx116_0; replace p116 := eq_true p116; replace q116 := eq_true q116)); try go_wp2_with (first | (go_at_call 41; (with_reducible refine (tontineref1_within.calls (rd (rd_L1 l0_2 x3_1) x5_2) 0 1000 true _ A12.out).mono ?_); rintro e w' ⟨rfl, ⟨nd, rfl⟩⟩; (try first | exact ⟨rfl, _, World.drewN_drewN _ _ _⟩ | exact ⟨rfl, _, Eq.trans (World.drewN_drewN _ _ _) (congrArg (World.drewN _) (Nat.add_assoc _ _ _))⟩); have p115 : 0 ≤ (x3_1 : Int) := of_decide_eq_true (by first | (with_reducible assumption) | assumption); have q115 : x3_1 < (l0_2.length : Int) := of_decide_eq_true (by first | (with_reducible assumption) | assumption); obtain ⟨ad115, A115_0, c115_0, e115, hx115_0, hl115_0, hi115_0⟩ := at_L1 HR0_2.out x3_1 p115 q115; obtain rfl : ad111 = ad115 := (by injection e115); replace hx115_0 := Goto.kc HB.out hx115_0; have HR115_0 := Goto.m0 hi115_0; have HC115_0 := Goto.m0 hl115_0; clear hi115_0 hl115_0; replace p115 := eq_true p115; replace q115 := eq_true q115; have ea_ := Option.some.inj (hx111_0.symm.trans hx115_0); injection ea_ with ea_ en_ ec_; subst ea_; subst ec_; clear en_; have p116 : 0 ≤ (x5_2 : Int) := of_decide_eq_true (by first | (with_reducible assumption) | assumption); have q116 : x5_2 < ((rd_L1 l0_2 x3_1).length : Int) := of_decide_eq_true (by first | (with_reducible assumption) | assumption); obtain ⟨ad116, e116, hx116_0⟩ := Kd.at_int HR115_0.out x5_2 p116 q116; cases e116; replace hx116_0 := Goto.kc HB.out hx116_0; replace p116 := eq_true p116; replace q116 := eq_true q116)))
             go_roundg k2
             case measure => have := HK1.out; have := HK2.out; omega
             case rel => exact ⟨(decide ((rd (rd_L1 l0_2 x3_1) x5_2) > 0)), (wrap64 (x5_2 + 1)), (by first | rfl | (simp; done) | (simp [*]; done)), (by first | rfl | (simp; done) | (simp [*]; done)), H', ⟨by have := HK1.out; have := HK2.out; omega⟩, ⟨Goto.bx BK109⟩, ⟨Goto.hx HB⟩⟩
           ·
            replace c13 := Bool.eq_false_iff.mpr c13
            subst c13
            rw [if_neg (show ¬ (false = true) by decide)] at H
            obtain rfl := Option.some.inj H
            have hcz17_0 := Goto.bc0 BK109; have hcz17_1 := Goto.bc1 BK109; have hcz17_2 := Goto.bc2 BK109; have hcz17_3 := Goto.bc3 BK109; have hfz17_0 := blk_frozen BK109.out 0; have hfz17_1 := blk_frozen BK109.out 1; have hfz17_2 := blk_frozen BK109.out 2; have hfz17_3 := blk_frozen BK109.out 3
            have p111 : 0 ≤ (x3_1 : Int) := of_decide_eq_true (by first | (with_reducible assumption) | assumption)
            have q111 : x3_1 < (l0_2.length : Int) := of_decide_eq_true (by first | (with_reducible assumption) | assumption)
            obtain ⟨ad111, A111_0, c111_0, e111, hx111_0, hl111_0, hi111_0⟩ := at_L1 HR0_2.out x3_1 p111 q111
            cases e111
            replace hx111_0 := Goto.kc HB.out hx111_0
            have HR111_0 := Goto.m0 hi111_0
            have HC111_0 := Goto.m0 hl111_0
            clear hi111_0 hl111_0; replace p111 := eq_true p111; replace q111 := eq_true q111
            have p112 : 0 ≤ (x3_1 : Int) := of_decide_eq_true (by first | (with_reducible assumption) | assumption)
            have q112 : x3_1 < (l0_2.length : Int) := of_decide_eq_true (by first | (with_reducible assumption) | assumption)
            obtain ⟨ad112, A112_0, c112_0, e112, hx112_0, hl112_0, hi112_0⟩ := at_L1 HR0_2.out x3_1 p112 q112
            obtain rfl : ad111 = ad112 := (by injection e112)
            replace hx112_0 := Goto.kc HB.out hx112_0
            have HR112_0 := Goto.m0 hi112_0
            have HC112_0 := Goto.m0 hl112_0
            clear hi112_0 hl112_0; replace p112 := eq_true p112; replace q112 := eq_true q112
            have ea_ := Option.some.inj (hx111_0.symm.trans hx112_0)
            injection ea_ with ea_ en_ ec_
            subst ea_
            subst ec_
            clear en_
            have p113 : 0 ≤ (x5_2 : Int) := of_decide_eq_true (by first | (with_reducible assumption) | assumption)
            have q113 : x5_2 < ((rd_L1 l0_2 x3_1).length : Int) := of_decide_eq_true (by first | (with_reducible assumption) | assumption)
            obtain ⟨ad113, e113, hx113_0⟩ := Kd.at_int HR112_0.out x5_2 p113 q113
            cases e113
            replace hx113_0 := Goto.kc HB.out hx113_0
            replace p113 := eq_true p113; replace q113 := eq_true q113
            go_wp2_with (first | (go_at_call 41; (with_reducible refine (tontineref1_within.calls (rd (rd_L1 l0_2 x3_1) x5_2) 0 1000 false _ A12.out).mono ?_); rintro e w' ⟨rfl, ⟨nd, rfl⟩⟩; (try first | exact ⟨rfl, _, World.drewN_drewN _ _ _⟩ | exact ⟨rfl, _, Eq.trans (World.drewN_drewN _ _ _) (congrArg (World.drewN _) (Nat.add_assoc _ _ _))⟩)))
            repeat (go_quiet (first | (go_at_call 41; (with_reducible refine (tontineref1_within.calls (rd (rd_L1 l0_2 x3_1) x5_2) 0 1000 false _ A12.out).mono ?_); rintro e w' ⟨rfl, ⟨nd, rfl⟩⟩; (try first | exact ⟨rfl, _, World.drewN_drewN _ _ _⟩ | exact ⟨rfl, _, Eq.trans (World.drewN_drewN _ _ _) (congrArg (World.drewN _) (Nat.add_assoc _ _ _))⟩))); try go_wp2_with (first | (go_at_call 41; (with_reducible refine (tontineref1_within.calls (rd (rd_L1 l0_2 x3_1) x5_2) 0 1000 false _ A12.out).mono ?_); rintro e w' ⟨rfl, ⟨nd, rfl⟩⟩; (try first | exact ⟨rfl, _, World.drewN_drewN _ _ _⟩ | exact ⟨rfl, _, Eq.trans (World.drewN_drewN _ _ _) (congrArg (World.drewN _) (Nat.add_assoc _ _ _))⟩))))
            go_ret
            exact ⟨by first | rfl | (simp [errW_none, errW_some] <;> rfl) | (simp [*, errW_none, errW_some] <;> rfl), by repeat (first | (with_reducible first | exact HB.out | apply below_alloc | apply pw_below_drewN | apply below_drew1 | refine below_set ?_ GE109.out) | exact HB.out)⟩
          ·
           rw [if_neg c11] at H
           exact absurd H (by simp)
         ·
          rw [if_neg c10] at H
          have c10b0 : decide (x5_2 < ((rd_L1 l0_2 x3_1).length : Int)) = false := decide_eq_false c10
          clear c10
          by_cases c18 : ((rd_L1 l0_2 x3_1).length : Int) = (l0_3.length : Int)
          ·
           rw [if_pos c18] at H
           have c18b0 : (((rd_L1 l0_2 x3_1).length : Int) == (l0_3.length : Int)) = true := beq_iff_eq.mpr c18
           have c18b1 : (((rd_L1 l0_2 x3_1).length : Int) != (l0_3.length : Int)) = false := bne_eq_false_iff_eq.mpr c18
           have c18b2 : ((rd_L1 l0_2 x3_1).length == l0_3.length) = true := by first | simpa using c18 | (simp at c18 ⊢; omega)
           clear c18
           by_cases c19 : x4_2 = true
           ·
            subst c19
            rw [if_pos rfl] at H
            have H' := Goto.m0 H
            clear H; have hcz20_0 := Goto.bc0 BK109; have hcz20_1 := Goto.bc1 BK109; have hcz20_2 := Goto.bc2 BK109; have hcz20_3 := Goto.bc3 BK109; have hfz20_0 := blk_frozen BK109.out 0; have hfz20_1 := blk_frozen BK109.out 1; have hfz20_2 := blk_frozen BK109.out 2; have hfz20_3 := blk_frozen BK109.out 3
            have p111 : 0 ≤ (x3_1 : Int) := of_decide_eq_true (by first | (with_reducible assumption) | assumption)
            have q111 : x3_1 < (l0_2.length : Int) := of_decide_eq_true (by first | (with_reducible assumption) | assumption)
            obtain ⟨ad111, A111_0, c111_0, e111, hx111_0, hl111_0, hi111_0⟩ := at_L1 HR0_2.out x3_1 p111 q111
            cases e111
            replace hx111_0 := Goto.kc HB.out hx111_0
            have HR111_0 := Goto.m0 hi111_0
            have HC111_0 := Goto.m0 hl111_0
            clear hi111_0 hl111_0; replace p111 := eq_true p111; replace q111 := eq_true q111
            have p117 : 0 ≤ (x3_1 : Int) := of_decide_eq_true (by first | (with_reducible assumption) | assumption)
            have q117 : x3_1 < (l0_2.length : Int) := of_decide_eq_true (by first | (with_reducible assumption) | assumption)
            obtain ⟨ad117, A117_0, c117_0, e117, hx117_0, hl117_0, hi117_0⟩ := at_L1 HR0_2.out x3_1 p117 q117
            obtain rfl : ad111 = ad117 := (by injection e117)
            replace hx117_0 := Goto.kc HB.out hx117_0
            have HR117_0 := Goto.m0 hi117_0
            have HC117_0 := Goto.m0 hl117_0
            clear hi117_0 hl117_0; replace p117 := eq_true p117; replace q117 := eq_true q117
            have ea_ := Option.some.inj (hx111_0.symm.trans hx117_0)
            injection ea_ with ea_ en_ ec_
            subst ea_
            subst ec_
            clear en_
            go_wp2
            repeat (go_quiet (fail); try go_wp2)
            go_roundg k2
            case measure => have := HK1.out; have := HK2.out; omega
            case rel => exact ⟨(wrap64 (x3_1 + 1)), (by first | rfl | (simp; done) | (simp [*]; done)), H', ⟨by have := HK1.out; have := HK2.out; omega⟩, ⟨Goto.bx BK109⟩, ⟨Goto.hx HB⟩⟩
           ·
            replace c19 := Bool.eq_false_iff.mpr c19
            subst c19
            rw [if_neg (show ¬ (false = true) by decide)] at H
            obtain rfl := Option.some.inj H
            have hcz21_0 := Goto.bc0 BK109; have hcz21_1 := Goto.bc1 BK109; have hcz21_2 := Goto.bc2 BK109; have hcz21_3 := Goto.bc3 BK109; have hfz21_0 := blk_frozen BK109.out 0; have hfz21_1 := blk_frozen BK109.out 1; have hfz21_2 := blk_frozen BK109.out 2; have hfz21_3 := blk_frozen BK109.out 3
            have p111 : 0 ≤ (x3_1 : Int) := of_decide_eq_true (by first | (with_reducible assumption) | assumption)
            have q111 : x3_1 < (l0_2.length : Int) := of_decide_eq_true (by first | (with_reducible assumption) | assumption)
            obtain ⟨ad111, A111_0, c111_0, e111, hx111_0, hl111_0, hi111_0⟩ := at_L1 HR0_2.out x3_1 p111 q111
            cases e111
            replace hx111_0 := Goto.kc HB.out hx111_0
            have HR111_0 := Goto.m0 hi111_0
            have HC111_0 := Goto.m0 hl111_0
            clear hi111_0 hl111_0; replace p111 := eq_true p111; replace q111 := eq_true q111
            have p117 : 0 ≤ (x3_1 : Int) := of_decide_eq_true (by first | (with_reducible assumption) | assumption)
            have q117 : x3_1 < (l0_2.length : Int) := of_decide_eq_true (by first | (with_reducible assumption) | assumption)
            obtain ⟨ad117, A117_0, c117_0, e117, hx117_0, hl117_0, hi117_0⟩ := at_L1 HR0_2.out x3_1 p117 q117
            obtain rfl : ad111 = ad117 := (by injection e117)
            replace hx117_0 := Goto.kc HB.out hx117_0
            have HR117_0 := Goto.m0 hi117_0
            have HC117_0 := Goto.m0 hl117_0
            clear hi117_0 hl117_0; replace p117 := eq_true p117; replace q117 := eq_true q117
            have ea_ := Option.some.inj (hx111_0.symm.trans hx117_0)
            injection ea_ with ea_ en_ ec_
            subst ea_
            subst ec_
            clear en_
            go_wp2
            repeat (go_quiet (fail); try go_wp2)
            go_ret
            exact ⟨by first | rfl | (simp [errW_none, errW_some] <;> rfl) | (simp [*, errW_none, errW_some] <;> rfl), by repeat (first | (with_reducible first | exact HB.out | apply below_alloc | apply pw_below_drewN | apply below_drew1 | refine below_set ?_ GE109.out) | exact HB.out)⟩
          ·
           rw [if_neg c18] at H
           have c18b0 : (((rd_L1 l0_2 x3_1).length : Int) == (l0_3.length : Int)) = false := beq_eq_false_iff_ne.mpr c18
           have c18b1 : (((rd_L1 l0_2 x3_1).length : Int) != (l0_3.length : Int)) = true := bne_iff_ne.mpr c18
           have c18b2 : ((rd_L1 l0_2 x3_1).length == l0_3.length) = false := by first | simpa using c18 | (simp at c18 ⊢; omega)
           obtain rfl := Option.some.inj H
           have hcz22_0 := Goto.bc0 BK109; have hcz22_1 := Goto.bc1 BK109; have hcz22_2 := Goto.bc2 BK109; have hcz22_3 := Goto.bc3 BK109; have hfz22_0 := blk_frozen BK109.out 0; have hfz22_1 := blk_frozen BK109.out 1; have hfz22_2 := blk_frozen BK109.out 2; have hfz22_3 := blk_frozen BK109.out 3
           have p111 : 0 ≤ (x3_1 : Int) := of_decide_eq_true (by first | (with_reducible assumption) | assumption)
           have q111 : x3_1 < (l0_2.length : Int) := of_decide_eq_true (by first | (with_reducible assumption) | assumption)
           obtain ⟨ad111, A111_0, c111_0, e111, hx111_0, hl111_0, hi111_0⟩ := at_L1 HR0_2.out x3_1 p111 q111
           cases e111
           replace hx111_0 := Goto.kc HB.out hx111_0
           have HR111_0 := Goto.m0 hi111_0
           have HC111_0 := Goto.m0 hl111_0
           clear hi111_0 hl111_0; replace p111 := eq_true p111; replace q111 := eq_true q111
           have p117 : 0 ≤ (x3_1 : Int) := of_decide_eq_true (by first | (with_reducible assumption) | assumption)
           have q117 : x3_1 < (l0_2.length : Int) := of_decide_eq_true (by first | (with_reducible assumption) | assumption)
           obtain ⟨ad117, A117_0, c117_0, e117, hx117_0, hl117_0, hi117_0⟩ := at_L1 HR0_2.out x3_1 p117 q117
           obtain rfl : ad111 = ad117 := (by injection e117)
           replace hx117_0 := Goto.kc HB.out hx117_0
           have HR117_0 := Goto.m0 hi117_0
           have HC117_0 := Goto.m0 hl117_0
           clear hi117_0 hl117_0; replace p117 := eq_true p117; replace q117 := eq_true q117
           have ea_ := Option.some.inj (hx111_0.symm.trans hx117_0)
           injection ea_ with ea_ en_ ec_
           subst ea_
           subst ec_
           clear en_
           go_wp2
           repeat (go_quiet (fail); try go_wp2)
           go_ret
           exact ⟨by first | rfl | (simp [errW_none, errW_some] <;> rfl) | (simp [*, errW_none, errW_some] <;> rfl), by repeat (first | (with_reducible first | exact HB.out | apply below_alloc | apply pw_below_drewN | apply below_drew1 | refine below_set ?_ GE109.out) | exact HB.out)⟩
        ·
         rw [if_neg c9] at H
         exact absurd H (by simp)
       ·
        rw [if_neg c8] at H
        exact absurd H (by simp)
    ·
     rw [if_neg c6] at H
     have c6b0 : decide (x3_1 < (l0_2.length : Int)) = false := decide_eq_false c6
     clear c6
     obtain rfl := Option.some.inj H
     have hcz23_0 := Goto.bc0 BK109; have hcz23_1 := Goto.bc1 BK109; have hcz23_2 := Goto.bc2 BK109; have hcz23_3 := Goto.bc3 BK109; have hfz23_0 := blk_frozen BK109.out 0; have hfz23_1 := blk_frozen BK109.out 1; have hfz23_2 := blk_frozen BK109.out 2; have hfz23_3 := blk_frozen BK109.out 3
     go_wp2
     repeat (go_quiet (fail); try go_wp2)
     go_ret
     exact ⟨by first | rfl | (simp [errW_none, errW_some] <;> rfl) | (simp [*, errW_none, errW_some] <;> rfl), by repeat (first | (with_reducible first | exact HB.out | apply below_alloc | apply pw_below_drewN | apply below_drew1 | refine below_set ?_ GE109.out) | exact HB.out)⟩
 ·
  replace c3 := Bool.eq_false_iff.mpr c3
  subst c3
  rw [if_neg (show ¬ (false = true) by decide)] at H
  obtain rfl := Option.some.inj H
  go_enter Try.func43, Try.ntmps43
  go_wp2_with (first | ((with_reducible refine gate_dst (N := 1) rfl ?_); refine box_event ?hg (N := 1) ?hd (cs := #[.int .i64 a0_0, .int .i64 a0_1, .slice A0_2 l0_2.length c0_2, .slice A0_3 l0_3.length c0_3]) (t := 25) ?hr ?_; (case hd => rfl); (case hg => rfl); (case hr => first | (go_simp; done) | (go_simp; rfl)); intro gb109 hg w24 hbox hb; have BK109 := Goto.m0 (hbox); have GW109 := Goto.gs HB hg; have GE109 := Goto.gs HB hg; replace HB := Goto.hs HB hb; clear hb hbox hg; have hcz25_0 := Goto.bc0 BK109; have hcz25_1 := Goto.bc1 BK109; have hcz25_2 := Goto.bc2 BK109; have hcz25_3 := Goto.bc3 BK109; have hfz25_0 := blk_frozen BK109.out 0; have hfz25_1 := blk_frozen BK109.out 1; have hfz25_2 := blk_frozen BK109.out 2; have hfz25_3 := blk_frozen BK109.out 3) | (go_at_call 41; (with_reducible refine (tontineref1_within.calls (l0_2.length : Int) 1 3 false _ A2.out).mono ?_); rintro e w' ⟨rfl, ⟨nd, rfl⟩⟩; (try first | exact ⟨rfl, _, World.drewN_drewN _ _ _⟩ | exact ⟨rfl, _, Eq.trans (World.drewN_drewN _ _ _) (congrArg (World.drewN _) (Nat.add_assoc _ _ _))⟩)))
  repeat (go_quiet (first | ((with_reducible refine gate_dst (N := 1) rfl ?_); refine box_event ?hg (N := 1) ?hd (cs := #[.int .i64 a0_0, .int .i64 a0_1, .slice A0_2 l0_2.length c0_2, .slice A0_3 l0_3.length c0_3]) (t := 25) ?hr ?_; (case hd => rfl); (case hg => rfl); (case hr => first | (go_simp; done) | (go_simp; rfl)); intro gb109 hg w24 hbox hb; have BK109 := Goto.m0 (hbox); have GW109 := Goto.gs HB hg; have GE109 := Goto.gs HB hg; replace HB := Goto.hs HB hb; clear hb hbox hg; have hcz25_0 := Goto.bc0 BK109; have hcz25_1 := Goto.bc1 BK109; have hcz25_2 := Goto.bc2 BK109; have hcz25_3 := Goto.bc3 BK109; have hfz25_0 := blk_frozen BK109.out 0; have hfz25_1 := blk_frozen BK109.out 1; have hfz25_2 := blk_frozen BK109.out 2; have hfz25_3 := blk_frozen BK109.out 3) | (go_at_call 41; (with_reducible refine (tontineref1_within.calls (l0_2.length : Int) 1 3 false _ A2.out).mono ?_); rintro e w' ⟨rfl, ⟨nd, rfl⟩⟩; (try first | exact ⟨rfl, _, World.drewN_drewN _ _ _⟩ | exact ⟨rfl, _, Eq.trans (World.drewN_drewN _ _ _) (congrArg (World.drewN _) (Nat.add_assoc _ _ _))⟩))); try go_wp2_with (first | ((with_reducible refine gate_dst (N := 1) rfl ?_); refine box_event ?hg (N := 1) ?hd (cs := #[.int .i64 a0_0, .int .i64 a0_1, .slice A0_2 l0_2.length c0_2, .slice A0_3 l0_3.length c0_3]) (t := 25) ?hr ?_; (case hd => rfl); (case hg => rfl); (case hr => first | (go_simp; done) | (go_simp; rfl)); intro gb109 hg w24 hbox hb; have BK109 := Goto.m0 (hbox); have GW109 := Goto.gs HB hg; have GE109 := Goto.gs HB hg; replace HB := Goto.hs HB hb; clear hb hbox hg; have hcz25_0 := Goto.bc0 BK109; have hcz25_1 := Goto.bc1 BK109; have hcz25_2 := Goto.bc2 BK109; have hcz25_3 := Goto.bc3 BK109; have hfz25_0 := blk_frozen BK109.out 0; have hfz25_1 := blk_frozen BK109.out 1; have hfz25_2 := blk_frozen BK109.out 2; have hfz25_3 := blk_frozen BK109.out 3) | (go_at_call 41; (with_reducible refine (tontineref1_within.calls (l0_2.length : Int) 1 3 false _ A2.out).mono ?_); rintro e w' ⟨rfl, ⟨nd, rfl⟩⟩; (try first | exact ⟨rfl, _, World.drewN_drewN _ _ _⟩ | exact ⟨rfl, _, Eq.trans (World.drewN_drewN _ _ _) (congrArg (World.drewN _) (Nat.add_assoc _ _ _))⟩))))
  go_ret
  exact ⟨by first | rfl | (simp [errW_none, errW_some] <;> rfl) | (simp [*, errW_none, errW_some] <;> rfl), by repeat (first | (with_reducible first | exact HB.out | apply below_alloc | apply pw_below_drewN | apply below_drew1 | refine below_set ?_ GE109.out) | exact HB.out)⟩

end Go.Proofs.Ytbhfkhcedjgpdaa.P
