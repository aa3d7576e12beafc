/- Printed by a program of this workplace (a turned copy of the kit's optional print), out of the translation; not trusted: Lean checks it. -/
import Derived.Test.YthlokoombomndaaPx0
import Derived.Test.YthlokoombomndaaPx9
namespace Go.Proofs.Ythlokoombomndaa.P
open Go.RowKit Go.Proofs.YthlokoombomndaaW.PrintWords Go.Proofs.YthlokoombomndaaW.PrintLast Go.Proofs.YthlokoombomndaaW.PrintMore
attribute [local go_sem] max2_int min2_int max_two min_two max_three min_three max_four min_four   -- for this text's walks alone
set_option linter.unusedVariables false
set_option linter.unusedSimpArgs false

/-! ### check_flows: function 47 -/
def check_flows.j0 : Nat → Int → Int → Bool → Int → Int → List (List Int) → List (S44) → Option (Option Int)
  | 0, _, _, _, _, _, _, _ => none
  | k + 1, x1, x2, x16, x165000, x165001, x165002, x165003 => if x16 = true then (some (some 13)) else (if 0 ≤ x1 then (if x1 < (x165003.length : Int) then (if 0 ≤ x2 then (if x2 < (x165003.length : Int) then ((label_Leq.f ((rd_T44 x165003 x1).f0.f0) ((rd_T44 x165003 x1).f0.f1) ((rd_T44 x165003 x2).f0.f0) ((rd_T44 x165003 x2).f0.f1)).bind fun t169 => (if t169 = true then (some none) else (some (some 15)))) else (none)) else (none)) else (none)) else (none))
def check_flows.f (k : Nat) (a0_0 : Int) (a0_1 : Int) (l0_2 : List (List Int)) (l0_3 : List (S44)) (a1 : Int) (a2 : Int) : Option (Option Int) := (check_domain.f a0_0 a0_1 l0_2 l0_3 a1).bind fun t165 => (if t165 = true then ((check_domain.f a0_0 a0_1 l0_2 l0_3 a2).bind fun t166 => (check_flows.j0 k a1 a2 (!t166) a0_0 a0_1 l0_2 l0_3)) else (check_flows.j0 k a1 a2 true a0_0 a0_1 l0_2 l0_3))
theorem check_flows.mono_l : ∀ k, (∀ y0 y1 y2 y3 y4 y5 y6, LeO (check_flows.j0 k y0 y1 y2 y3 y4 y5 y6) (check_flows.j0 (k + 1) y0 y1 y2 y3 y4 y5 y6))
  | 0 => fun _ _ _ _ _ _ _ r h => by simp [check_flows.j0] at h
  | k + 1 => by
    have ih0 := check_flows.mono_l k
    · intro y0 y1 y2 y3 y4 y5 y6
      unfold check_flows.j0
      repeat' first
      | (with_reducible exact ih0 _ _ _ _ _ _ _)
      | (with_reducible exact LeO.refl _)
      | (with_reducible exact LeO.none _)
      | (with_reducible refine LeO.ite ?_ ?_)
      | (with_reducible refine LeO.bind ?_ (fun _ => ?_))
      | exact ih0 _ _ _ _ _ _ _
      | exact LeO.none _
      | refine LeO.ite ?_ ?_
      | refine LeO.bind ?_ (fun _ => ?_)
theorem check_flows.mono : ∀ a0 a1 a2 a3 a4 a5 k, LeO (check_flows.f k a0 a1 a2 a3 a4 a5) (check_flows.f (k + 1) a0 a1 a2 a3 a4 a5) := by
 intro a0 a1 a2 a3 a4 a5 k
 have ih0 := check_flows.mono_l k
 unfold check_flows.f
 repeat' first
   | (with_reducible exact ih0 _ _ _ _ _ _ _)
   | (with_reducible exact LeO.refl _)
   | (with_reducible exact LeO.none _)
   | (with_reducible refine LeO.ite ?_ ?_)
   | (with_reducible refine LeO.bind ?_ (fun _ => ?_))
   | exact ih0 _ _ _ _ _ _ _
   | exact LeO.none _
   | refine LeO.ite ?_ ?_
   | refine LeO.bind ?_ (fun _ => ?_)
def check_flows.T3 : Bool × List (List Nat × List Nat) := (true, [([], []), ([0], [0]), ([], []), ([1, 2], [1, 2]), ([3], [3]), ([4], [4]), ([], []), ([6], [6]), ([], []), ([7, 8], [7, 8]), ([9], [9]), ([10], [10]), ([5, 11], [5, 11]), ([12], [12])])
def check_flows.B3 : List Nat := [0, 1, 0, 7, 15, 31, 0, 64, 0, 448, 960, 1984, 4095, 8191]
theorem check_flows.tab3 : rtab .any (opsOf Try.f47 3) = check_flows.T3 := by kernel_rfl
theorem check_flows.bits3 : waitsOk check_flows.T3.2 check_flows.B3 = true := by kernel_rfl
set_option maxHeartbeats 8000000 in
set_option maxRecDepth 100000 in
theorem check_flows.calls (k : Nat) (a0_0 : Int) (a0_1 : Int) (A0_2 : Option Addr) (c0_2 : Nat) (l0_2 : List (List Int)) (A0_3 : Option Addr) (c0_3 : Nat) (l0_3 : List (S44)) (a1 : Int) (a2 : Int) (r : Option Int) (w : World) (hr0_2 : Kd.C (Kd.slice 3 (Kd.int .i64)) w A0_2 l0_2.length l0_2) (hc0_2 : l0_2.length ≤ c0_2) (hr0_3 : Kd.C k44 w A0_3 l0_3.length l0_3) (hc0_3 : l0_3.length ≤ c0_3) (h : check_flows.f k a0_0 a0_1 l0_2 l0_3 a1 a2 = some r) :
    Calls Try.prog 47 #[.agg #[.int .i64 a0_0, .int .i64 a0_1, .slice A0_2 l0_2.length c0_2, .slice A0_3 l0_3.length c0_3], .int .i64 a1, .int .i64 a2] w fun e w' => e = .returned (errW r) ∧ Below w.heap.size w w' := by
 have hu25 := Try.underlying25; have hu42 := Try.underlying42; have hu50 := Try.underlying50; have hu54 := Try.underlying54
 have HR0_2 := Goto.m0 hr0_2
 have HC0_2 := Goto.m0 hc0_2
 clear hr0_2 hc0_2
 have HR0_3 := Goto.m0 hr0_3
 have HC0_3 := Goto.m0 hc0_3
 clear hr0_3 hc0_3
 have HB := Goto.m0 (Below.refl w.heap.size w)
 have H : ((check_domain.f a0_0 a0_1 l0_2 l0_3 a1).bind fun t165 => (if t165 = true then ((check_domain.f a0_0 a0_1 l0_2 l0_3 a2).bind fun t166 => (check_flows.j0 k a1 a2 (!t166) a0_0 a0_1 l0_2 l0_3)) else (check_flows.j0 k a1 a2 true a0_0 a0_1 l0_2 l0_3))) = some r := h
 clear h
 have HC4 := Goto.m0 H
 clear H
 go_enter Try.func47, Try.ntmps47
 go_upto_region 1 with (first | ((with_reducible refine gate_dst (N := 3) rfl ?_); refine box_event ?hg (N := 3) ?hd (cs := #[.int .i64 a0_0, .int .i64 a0_1, .slice A0_2 l0_2.length c0_2, .slice A0_3 l0_3.length c0_3]) (t := 25) ?hr ?_; (case hd => rfl); (case hg => rfl); (case hr => first | (go_simp; done) | (go_simp; rfl)); intro gb164 hg w5 hbox hb; have BK164 := Goto.m0 (hbox); have GW164 := Goto.gs HB hg; have GE164 := Goto.gs HB hg; replace HB := Goto.hs HB hb; clear hb hbox hg))
 (try simp only [Act.put, List.setIfInBounds_toArray, List.set_cons_zero, List.set_cons_succ])
 go_cut [16] (fun v16 wc => ∃ (kq : Nat) (x16_3 : Bool), v16 = .bool x16_3 ∧ Aside0 (check_flows.j0 kq a1 a2 x16_3 a0_0 a0_1 l0_2 l0_3 = some r) ∧ Aside0 (kq ≤ k) ∧ Aside0 (wc.heap[gb164]? = some (.cells #[.int .i64 a0_0, .int .i64 a0_1, (.slice A0_2 l0_2.length c0_2), (.slice A0_3 l0_3.length c0_3)] 25 (0, 0))) ∧ Aside0 (Below w.heap.size w wc))
 case first =>
  have H := HC4.out; clear HC4
  replace H := Option.bind_eq_some_iff.mp H
  obtain ⟨t165, A60, H⟩ := H
  have A6 := Goto.m0 A60
  clear A60
  by_cases c7 : t165 = true
  ·
   subst c7
   rw [if_pos rfl] at H
   replace H := Option.bind_eq_some_iff.mp H
   obtain ⟨t166, A80, H⟩ := H
   have A8 := Goto.m0 A80
   clear A80
   have H' := Goto.m0 H
   clear H; have hcz9_0 : w5.cell? ⟨gb164, 0, none⟩ = some (.int .i64 a0_0) := (blk_cell BK164.out 0).trans rfl; have hcz9_1 : w5.cell? ⟨gb164, 1, none⟩ = some (.int .i64 a0_1) := (blk_cell BK164.out 1).trans rfl; have hcz9_2 : w5.cell? ⟨gb164, 2, none⟩ = some (.slice A0_2 l0_2.length c0_2) := (blk_cell BK164.out 2).trans rfl; have hcz9_3 : w5.cell? ⟨gb164, 3, none⟩ = some (.slice A0_3 l0_3.length c0_3) := (blk_cell BK164.out 3).trans rfl; have hfz9_0 := blk_frozen BK164.out 0; have hfz9_1 := blk_frozen BK164.out 1; have hfz9_2 := blk_frozen BK164.out 2; have hfz9_3 := blk_frozen BK164.out 3
   go_wp2_with (first | ((with_reducible refine gate_callee (f := 50) rfl ?_); refine goesL_ (some 9) rfl rfl Try.func50 (by kernel_rfl) rfl #[.agg #[.int .i64 a0_0, .int .i64 a0_1, .slice A0_2 l0_2.length c0_2, .slice A0_3 l0_3.length c0_3], .int .i64 a1] rfl (by (try simp only [List.map_toArray, List.map_cons, List.map_nil]); first | done | rfl | (simp only [List.length_drop, List.length_take]; rfl)) ?_; (with_reducible refine (check_domain.calls a0_0 a0_1 _ _ l0_2 _ _ l0_3 a1 true _ ?side1 ?side2 ?side3 ?side4 A6.out).mono ?_); (case side1 => repeat (first | exact (Kd.C_below HR0_2.out HB.out) | (with_reducible refine Kd.C_alloc ?_ _) | (with_reducible refine Kd.C_drewN ?_ _) | (with_reducible refine Kd.C_drew ?_))); (case side2 => exact HC0_2.out); (case side3 => repeat (first | exact (Kd.C_below HR0_3.out HB.out) | (with_reducible refine Kd.C_alloc ?_ _) | (with_reducible refine Kd.C_drewN ?_ _) | (with_reducible refine Kd.C_drew ?_))); (case side4 => exact HC0_3.out); rintro e w10 ⟨rfl, hb⟩; refine ⟨_, rfl, ?_⟩; replace BK164 := Goto.bb BK164 hb; replace HB := Goto.hs HB hb; (try clear hb); (try clear hb2); (try clear hk); (try clear hi); have hcz11_0 : w10.cell? ⟨gb164, 0, none⟩ = some (.int .i64 a0_0) := (blk_cell BK164.out 0).trans rfl; have hcz11_1 : w10.cell? ⟨gb164, 1, none⟩ = some (.int .i64 a0_1) := (blk_cell BK164.out 1).trans rfl; have hcz11_2 : w10.cell? ⟨gb164, 2, none⟩ = some (.slice A0_2 l0_2.length c0_2) := (blk_cell BK164.out 2).trans rfl; have hcz11_3 : w10.cell? ⟨gb164, 3, none⟩ = some (.slice A0_3 l0_3.length c0_3) := (blk_cell BK164.out 3).trans rfl; have hfz11_0 := blk_frozen BK164.out 0; have hfz11_1 := blk_frozen BK164.out 1; have hfz11_2 := blk_frozen BK164.out 2; have hfz11_3 := blk_frozen BK164.out 3) | (go_at_call 50; (with_reducible refine (check_domain.calls a0_0 a0_1 _ _ l0_2 _ _ l0_3 a2 t166 _ ?side1 ?side2 ?side3 ?side4 A8.out).mono ?_); (case side1 => repeat (first | exact (Kd.C_below HR0_2.out HB.out) | (with_reducible refine Kd.C_alloc ?_ _) | (with_reducible refine Kd.C_drewN ?_ _) | (with_reducible refine Kd.C_drew ?_))); (case side2 => exact HC0_2.out); (case side3 => repeat (first | exact (Kd.C_below HR0_3.out HB.out) | (with_reducible refine Kd.C_alloc ?_ _) | (with_reducible refine Kd.C_drewN ?_ _) | (with_reducible refine Kd.C_drew ?_))); (case side4 => exact HC0_3.out); rintro e w12 ⟨rfl, hb⟩; replace BK164 := Goto.bb BK164 hb; replace HB := Goto.hs HB hb; (try clear hb); (try clear hb2); (try clear hk); (try clear hi)))
   go_meet
   case rel => exact ⟨_, (!t166), (by first | rfl | (simp; done) | (simp [*]; done)), H', ⟨by first | omega | exact Nat.le_refl _⟩, ⟨Goto.bx BK164⟩, ⟨Goto.hx HB⟩⟩
  ·
   replace c7 := Bool.eq_false_iff.mpr c7
   subst c7
   rw [if_neg (show ¬ (false = true) by decide)] at H
   have H' := Goto.m0 H
   clear H; have hcz13_0 : w5.cell? ⟨gb164, 0, none⟩ = some (.int .i64 a0_0) := (blk_cell BK164.out 0).trans rfl; have hcz13_1 : w5.cell? ⟨gb164, 1, none⟩ = some (.int .i64 a0_1) := (blk_cell BK164.out 1).trans rfl; have hcz13_2 : w5.cell? ⟨gb164, 2, none⟩ = some (.slice A0_2 l0_2.length c0_2) := (blk_cell BK164.out 2).trans rfl; have hcz13_3 : w5.cell? ⟨gb164, 3, none⟩ = some (.slice A0_3 l0_3.length c0_3) := (blk_cell BK164.out 3).trans rfl; have hfz13_0 := blk_frozen BK164.out 0; have hfz13_1 := blk_frozen BK164.out 1; have hfz13_2 := blk_frozen BK164.out 2; have hfz13_3 := blk_frozen BK164.out 3
   go_wp2_with (first | ((with_reducible refine gate_callee (f := 50) rfl ?_); refine goesL_ (some 9) rfl rfl Try.func50 (by kernel_rfl) rfl #[.agg #[.int .i64 a0_0, .int .i64 a0_1, .slice A0_2 l0_2.length c0_2, .slice A0_3 l0_3.length c0_3], .int .i64 a1] rfl (by (try simp only [List.map_toArray, List.map_cons, List.map_nil]); first | done | rfl | (simp only [List.length_drop, List.length_take]; rfl)) ?_; (with_reducible refine (check_domain.calls a0_0 a0_1 _ _ l0_2 _ _ l0_3 a1 false _ ?side1 ?side2 ?side3 ?side4 A6.out).mono ?_); (case side1 => repeat (first | exact (Kd.C_below HR0_2.out HB.out) | (with_reducible refine Kd.C_alloc ?_ _) | (with_reducible refine Kd.C_drewN ?_ _) | (with_reducible refine Kd.C_drew ?_))); (case side2 => exact HC0_2.out); (case side3 => repeat (first | exact (Kd.C_below HR0_3.out HB.out) | (with_reducible refine Kd.C_alloc ?_ _) | (with_reducible refine Kd.C_drewN ?_ _) | (with_reducible refine Kd.C_drew ?_))); (case side4 => exact HC0_3.out); rintro e w14 ⟨rfl, hb⟩; refine ⟨_, rfl, ?_⟩; replace BK164 := Goto.bb BK164 hb; replace HB := Goto.hs HB hb; (try clear hb); (try clear hb2); (try clear hk); (try clear hi)))
   go_meet
   case rel => exact ⟨_, (true), (by first | rfl | (simp; done) | (simp [*]; done)), H', ⟨by first | omega | exact Nat.le_refl _⟩, ⟨Goto.bx BK164⟩, ⟨Goto.hx HB⟩⟩
 case rest =>
  clear HC4; try clear p2; try clear c4; try clear c5; try clear c7; try clear hcz11_0; try clear hcz11_1; try clear hcz11_2; try clear hcz11_3; try clear hcz13_0; try clear hcz13_1; try clear hcz13_2; try clear hcz13_3; try clear hcz9_0; try clear hcz9_1; try clear hcz9_2; try clear hcz9_3; try clear hfz11_0; try clear hfz11_1; try clear hfz11_2; try clear hfz11_3; try clear hfz13_0; try clear hfz13_1; try clear hfz13_2; try clear hfz13_3; try clear hfz9_0; try clear hfz9_1; try clear hfz9_2; try clear hfz9_3
  obtain ⟨kq, x16_3, rfl, HA, HJ3, BK164, HB⟩ := hcut
  cases kq with
  | zero => exact absurd HA.out (by simp [check_flows.j0])
  | succ kj3 =>
   have H := HA.out; clear HA
   simp only [check_flows.j0] at H
   by_cases c15 : x16_3 = true
   ·
    subst c15
    rw [if_pos rfl] at H
    obtain rfl := Option.some.inj H
    go_wp2
    go_ret
    exact ⟨by first | rfl | (simp [errW_none, errW_some] <;> rfl) | (simp [*, errW_none, errW_some] <;> rfl), by repeat (first | (with_reducible first | exact HB.out | apply below_alloc | apply pw_below_drewN | apply below_drew1 | refine below_set ?_ GE164.out) | exact HB.out)⟩
   ·
    replace c15 := Bool.eq_false_iff.mpr c15
    subst c15
    rw [if_neg (show ¬ (false = true) by decide)] at H
    by_cases c16 : 0 ≤ a1
    ·
     rw [if_pos c16] at H
     have c16b0 : decide (0 ≤ a1) = true := decide_eq_true c16
     clear c16
     by_cases c17 : a1 < (l0_3.length : Int)
     ·
      rw [if_pos c17] at H
      have c17b0 : decide (a1 < (l0_3.length : Int)) = true := decide_eq_true c17
      clear c17
      by_cases c18 : 0 ≤ a2
      ·
       rw [if_pos c18] at H
       have c18b0 : decide (0 ≤ a2) = true := decide_eq_true c18
       clear c18
       by_cases c19 : a2 < (l0_3.length : Int)
       ·
        rw [if_pos c19] at H
        have c19b0 : decide (a2 < (l0_3.length : Int)) = true := decide_eq_true c19
        clear c19
        replace H := Option.bind_eq_some_iff.mp H
        obtain ⟨t169, A200, H⟩ := H
        have A20 := Goto.m0 A200
        clear A200
        by_cases c21 : t169 = true
        ·
         subst c21
         rw [if_pos rfl] at H
         obtain rfl := Option.some.inj H
         try go_wp2
         replace BK164 := Goto.m0 (blk_drew BK164.out); replace HB := Goto.m0 (below_drew1 HB.out)
         have p167 : 0 ≤ (a1 : Int) := of_decide_eq_true (by first | (with_reducible assumption) | assumption)
         have q167 : a1 < (l0_3.length : Int) := of_decide_eq_true (by first | (with_reducible assumption) | assumption)
         obtain ⟨ad167, A167_2, c167_2, A167_3, c167_3, e167, hx167_0, hx167_1, hx167_2, hx167_3, hx167_4, hx167_5, hx167_6, hx167_7, hx167_8, hx167_9, hl167_2, hi167_2, hl167_3, hi167_3⟩ := at_T44 HR0_3.out a1 p167 q167
         have hw167_9 := hx167_9; have hw167_8 := hx167_8; have hw167_7 := hx167_7; have hw167_6 := hx167_6; have hw167_5 := hx167_5; have hw167_4 := hx167_4; have hw167_3 := hx167_3; have hw167_2 := hx167_2; have hw167_1 := hx167_1; have hw167_0 := hx167_0
         cases e167
         replace hx167_0 := Goto.kc HB.out hx167_0
         replace hx167_1 := Goto.kc HB.out hx167_1
         replace hx167_2 := Goto.kc HB.out hx167_2
         replace hx167_3 := Goto.kc HB.out hx167_3
         replace hx167_4 := Goto.kc HB.out hx167_4
         replace hx167_5 := Goto.kc HB.out hx167_5
         replace hx167_6 := Goto.kc HB.out hx167_6
         replace hx167_7 := Goto.kc HB.out hx167_7
         replace hx167_8 := Goto.kc HB.out hx167_8
         replace hx167_9 := Goto.kc HB.out hx167_9
         have HR167_2 := Goto.m0 hi167_2
         have HC167_2 := Goto.m0 hl167_2
         clear hi167_2 hl167_2
         have HR167_3 := Goto.m0 hi167_3
         have HC167_3 := Goto.m0 hl167_3
         clear hi167_3 hl167_3; replace p167 := eq_true p167; replace q167 := eq_true q167
         have p168 : 0 ≤ (a2 : Int) := of_decide_eq_true (by first | (with_reducible assumption) | assumption)
         have q168 : a2 < (l0_3.length : Int) := of_decide_eq_true (by first | (with_reducible assumption) | assumption)
         obtain ⟨ad168, A168_2, c168_2, A168_3, c168_3, e168, hx168_0, hx168_1, hx168_2, hx168_3, hx168_4, hx168_5, hx168_6, hx168_7, hx168_8, hx168_9, hl168_2, hi168_2, hl168_3, hi168_3⟩ := at_T44 HR0_3.out a2 p168 q168
         have hw168_9 := hx168_9; have hw168_8 := hx168_8; have hw168_7 := hx168_7; have hw168_6 := hx168_6; have hw168_5 := hx168_5; have hw168_4 := hx168_4; have hw168_3 := hx168_3; have hw168_2 := hx168_2; have hw168_1 := hx168_1; have hw168_0 := hx168_0
         obtain rfl : ad167 = ad168 := (by injection e168)
         replace hx168_0 := Goto.kc HB.out hx168_0
         replace hx168_1 := Goto.kc HB.out hx168_1
         replace hx168_2 := Goto.kc HB.out hx168_2
         replace hx168_3 := Goto.kc HB.out hx168_3
         replace hx168_4 := Goto.kc HB.out hx168_4
         replace hx168_5 := Goto.kc HB.out hx168_5
         replace hx168_6 := Goto.kc HB.out hx168_6
         replace hx168_7 := Goto.kc HB.out hx168_7
         replace hx168_8 := Goto.kc HB.out hx168_8
         replace hx168_9 := Goto.kc HB.out hx168_9
         have HR168_2 := Goto.m0 hi168_2
         have HC168_2 := Goto.m0 hl168_2
         clear hi168_2 hl168_2
         have HR168_3 := Goto.m0 hi168_3
         have HC168_3 := Goto.m0 hl168_3
         clear hi168_3 hl168_3; replace p168 := eq_true p168; replace q168 := eq_true q168
         refine start_ (n := 14) (S := fun w' => w'.cell? ⟨gb164, 0, none⟩ = some (.int .i64 a0_0) ∧ w'.cell? ⟨gb164, 1, none⟩ = some (.int .i64 a0_1) ∧ w'.cell? ⟨gb164, 2, none⟩ = some (.slice A0_2 l0_2.length c0_2) ∧ w'.cell? ⟨gb164, 3, none⟩ = some (.slice (some ad167) l0_3.length c0_3) ∧ w'.cell? (ad167.add ((a1).toNat * 10)) = some (.int .i64 ((rd_T44 l0_3 a1).f0.f0)) ∧ w'.cell? ⟨(ad167.add ((a1).toNat * 10)).block, (ad167.add ((a1).toNat * 10)).off + 1, none⟩ = some (.int .u64 ((rd_T44 l0_3 a1).f0.f1)) ∧ w'.cell? ⟨(ad167.add ((a1).toNat * 10)).block, (ad167.add ((a1).toNat * 10)).off + 2, none⟩ = some (.slice A167_2 ((rd_T44 l0_3 a1).f1).length c167_2) ∧ w'.cell? ⟨(ad167.add ((a1).toNat * 10)).block, (ad167.add ((a1).toNat * 10)).off + 3, none⟩ = some (.slice A167_3 ((rd_T44 l0_3 a1).f2).length c167_3) ∧ w'.cell? ⟨(ad167.add ((a1).toNat * 10)).block, (ad167.add ((a1).toNat * 10)).off + 4, none⟩ = some (.int .i64 ((rd_T44 l0_3 a1).f3)) ∧ w'.cell? ⟨(ad167.add ((a1).toNat * 10)).block, (ad167.add ((a1).toNat * 10)).off + 5, none⟩ = some (.int .i64 ((rd_T44 l0_3 a1).f4)) ∧ w'.cell? ⟨(ad167.add ((a1).toNat * 10)).block, (ad167.add ((a1).toNat * 10)).off + 6, none⟩ = some (.int .i64 ((rd_T44 l0_3 a1).f5)) ∧ w'.cell? ⟨(ad167.add ((a1).toNat * 10)).block, (ad167.add ((a1).toNat * 10)).off + 7, none⟩ = some (.int .i64 ((rd_T44 l0_3 a1).f6)) ∧ w'.cell? ⟨(ad167.add ((a1).toNat * 10)).block, (ad167.add ((a1).toNat * 10)).off + 8, none⟩ = some (.int .i64 ((rd_T44 l0_3 a1).f7)) ∧ w'.cell? ⟨(ad167.add ((a1).toNat * 10)).block, (ad167.add ((a1).toNat * 10)).off + 9, none⟩ = some (.int .i64 ((rd_T44 l0_3 a1).f8)) ∧ w'.cell? (ad167.add ((a2).toNat * 10)) = some (.int .i64 ((rd_T44 l0_3 a2).f0.f0)) ∧ w'.cell? ⟨(ad167.add ((a2).toNat * 10)).block, (ad167.add ((a2).toNat * 10)).off + 1, none⟩ = some (.int .u64 ((rd_T44 l0_3 a2).f0.f1)) ∧ w'.cell? ⟨(ad167.add ((a2).toNat * 10)).block, (ad167.add ((a2).toNat * 10)).off + 2, none⟩ = some (.slice A168_2 ((rd_T44 l0_3 a2).f1).length c168_2) ∧ w'.cell? ⟨(ad167.add ((a2).toNat * 10)).block, (ad167.add ((a2).toNat * 10)).off + 3, none⟩ = some (.slice A168_3 ((rd_T44 l0_3 a2).f2).length c168_3) ∧ w'.cell? ⟨(ad167.add ((a2).toNat * 10)).block, (ad167.add ((a2).toNat * 10)).off + 4, none⟩ = some (.int .i64 ((rd_T44 l0_3 a2).f3)) ∧ w'.cell? ⟨(ad167.add ((a2).toNat * 10)).block, (ad167.add ((a2).toNat * 10)).off + 5, none⟩ = some (.int .i64 ((rd_T44 l0_3 a2).f4)) ∧ w'.cell? ⟨(ad167.add ((a2).toNat * 10)).block, (ad167.add ((a2).toNat * 10)).off + 6, none⟩ = some (.int .i64 ((rd_T44 l0_3 a2).f5)) ∧ w'.cell? ⟨(ad167.add ((a2).toNat * 10)).block, (ad167.add ((a2).toNat * 10)).off + 7, none⟩ = some (.int .i64 ((rd_T44 l0_3 a2).f6)) ∧ w'.cell? ⟨(ad167.add ((a2).toNat * 10)).block, (ad167.add ((a2).toNat * 10)).off + 8, none⟩ = some (.int .i64 ((rd_T44 l0_3 a2).f7)) ∧ w'.cell? ⟨(ad167.add ((a2).toNat * 10)).block, (ad167.add ((a2).toNat * 10)).off + 9, none⟩ = some (.int .i64 ((rd_T44 l0_3 a2).f8))) (ds := []) (.replicate 14 false) (by kernel_rfl) rfl rfl ⟨(blk_cell BK164.out 0).trans rfl, (blk_cell BK164.out 1).trans rfl, (blk_cell BK164.out 2).trans rfl, (blk_cell BK164.out 3).trans rfl, (Goto.kc HB.out hw167_0), (Goto.kc HB.out hw167_1), (Goto.kc HB.out hw167_2), (Goto.kc HB.out hw167_3), (Goto.kc HB.out hw167_4), (Goto.kc HB.out hw167_5), (Goto.kc HB.out hw167_6), (Goto.kc HB.out hw167_7), (Goto.kc HB.out hw167_8), (Goto.kc HB.out hw167_9), (Goto.kc HB.out hw168_0), (Goto.kc HB.out hw168_1), (Goto.kc HB.out hw168_2), (Goto.kc HB.out hw168_3), (Goto.kc HB.out hw168_4), (Goto.kc HB.out hw168_5), (Goto.kc HB.out hw168_6), (Goto.kc HB.out hw168_7), (Goto.kc HB.out hw168_8), (Goto.kc HB.out hw168_9)⟩ (fun hHeld => ?_); refine with_tabW check_flows.tab3 check_flows.bits3 (fun HT_ HW_ => ?_)
         generalize wc.drew = w22 at BK164 HB HR167_2 HR167_3 HR168_2 HR168_3 hx167_0 hx167_1 hx167_2 hx167_3 hx167_4 hx167_5 hx167_6 hx167_7 hx167_8 hx167_9 hx168_0 hx168_1 hx168_2 hx168_3 hx168_4 hx168_5 hx168_6 hx168_7 hx168_8 hx168_9 hHeld ⊢
         refine pure_ (i := 0) (N := some 18) (v := ?_) (a' := ?_) (Goto.bs 14 1) rfl rfl (any_of HT_.out (by kernel_rfl)) (fun _ _ _ h => h) (Or.inl ⟨by rfl, ?_⟩) ?_ ?_
         rotate_left
         ·
          intro w'
          go_simp
          with_reducible rfl
         rotate_left
         ·
          exact Goto.ap
         refine pure_ (i := 2) (N := some 20) (v := ?_) (a' := ?_) (Goto.bs 14 5) rfl rfl (any_of HT_.out (by kernel_rfl)) (fun _ _ _ h => h) (Or.inl ⟨by rfl, ?_⟩) ?_ ?_
         rotate_left
         ·
          intro w'
          go_simp
          with_reducible rfl
         rotate_left
         ·
          exact Goto.ap
         refine pure_ (i := 6) (N := some 24) (v := ?_) (a' := ?_) (Goto.bs 14 69) rfl rfl (any_of HT_.out (by kernel_rfl)) (fun _ _ _ h => h) (Or.inl ⟨by rfl, ?_⟩) ?_ ?_
         rotate_left
         ·
          intro w'
          go_simp
          with_reducible rfl
         rotate_left
         ·
          exact Goto.ap
         refine pure_ (i := 8) (N := some 26) (v := ?_) (a' := ?_) (Goto.bs 14 325) rfl rfl (any_of HT_.out (by kernel_rfl)) (fun _ _ _ h => h) (Or.inl ⟨by rfl, ?_⟩) ?_ ?_
         rotate_left
         ·
          intro w'
          go_simp
          with_reducible rfl
         rotate_left
         ·
          exact Goto.ap
         refine take_ (i := 1) (N := some 19) (v := ?_) (a' := ?_) (Goto.bs 14 327) rfl rfl (take_ofW HT_.out HW_.out (by kernel_rfl)) (fun _ _ _ h => h) (Or.inl ⟨by rfl, ?_⟩) hHeld ?_ ?_
         rotate_left
         ·
          rintro w' ⟨s0, s1, s2, s3, s4, s5, s6, s7, s8, s9, s10, s11, s12, s13, s14, s15, s16, s17, s18, s19, s20, s21, s22, s23⟩
          go_simp
          with_reducible rfl
         rotate_left
         ·
          exact Goto.ap
         refine pure_ (i := 3) (N := some 21) (v := ?_) (a' := ?_) (Goto.bs 14 335) rfl rfl (any_of HT_.out (by kernel_rfl)) (fun _ _ _ h => h) (Or.inl ⟨by rfl, ?_⟩) ?_ ?_
         rotate_left
         ·
          intro w'
          go_simp
          with_reducible rfl
         rotate_left
         ·
          exact Goto.ap
         refine pure_ (i := 4) (N := some 22) (v := ?_) (a' := ?_) (Goto.bs 14 351) rfl rfl (any_of HT_.out (by kernel_rfl)) (fun _ _ _ h => h) (Or.inl ⟨by rfl, ?_⟩) ?_ ?_
         rotate_left
         ·
          intro w'
          go_simp
          with_reducible rfl
         rotate_left
         ·
          exact Goto.ap
         refine take_ (i := 5) (N := some 23) (v := ?_) (a' := ?_) (Goto.bs 14 383) rfl rfl (take_ofW HT_.out HW_.out (by kernel_rfl)) (fun _ _ _ h => h) (Or.inl ⟨by rfl, ?_⟩) hHeld ?_ ?_
         rotate_left
         ·
          rintro w' ⟨s0, s1, s2, s3, s4, s5, s6, s7, s8, s9, s10, s11, s12, s13, s14, s15, s16, s17, s18, s19, s20, s21, s22, s23⟩
          go_simp
          with_reducible rfl
         rotate_left
         ·
          exact Goto.ap
         refine take_ (i := 7) (N := some 25) (v := ?_) (a' := ?_) (Goto.bs 14 511) rfl rfl (take_ofW HT_.out HW_.out (by kernel_rfl)) (fun _ _ _ h => h) (Or.inl ⟨by rfl, ?_⟩) hHeld ?_ ?_
         rotate_left
         ·
          rintro w' ⟨s0, s1, s2, s3, s4, s5, s6, s7, s8, s9, s10, s11, s12, s13, s14, s15, s16, s17, s18, s19, s20, s21, s22, s23⟩
          go_simp
          with_reducible rfl
         rotate_left
         ·
          exact Goto.ap
         refine pure_ (i := 9) (N := some 27) (v := ?_) (a' := ?_) (Goto.bs 14 1023) rfl rfl (any_of HT_.out (by kernel_rfl)) (fun _ _ _ h => h) (Or.inl ⟨by rfl, ?_⟩) ?_ ?_
         rotate_left
         ·
          intro w'
          go_simp
          with_reducible rfl
         rotate_left
         ·
          exact Goto.ap
         refine pure_ (i := 10) (N := some 28) (v := ?_) (a' := ?_) (Goto.bs 14 2047) rfl rfl (any_of HT_.out (by kernel_rfl)) (fun _ _ _ h => h) (Or.inl ⟨by rfl, ?_⟩) ?_ ?_
         rotate_left
         ·
          intro w'
          go_simp
          with_reducible rfl
         rotate_left
         ·
          exact Goto.ap
         refine take_ (i := 11) (N := some 29) (v := ?_) (a' := ?_) (Goto.bs 14 4095) rfl rfl (take_ofW HT_.out HW_.out (by kernel_rfl)) (fun _ _ _ h => h) (Or.inl ⟨by rfl, ?_⟩) hHeld ?_ ?_
         rotate_left
         ·
          rintro w' ⟨s0, s1, s2, s3, s4, s5, s6, s7, s8, s9, s10, s11, s12, s13, s14, s15, s16, s17, s18, s19, s20, s21, s22, s23⟩
          go_simp
          with_reducible rfl
         rotate_left
         ·
          exact Goto.ap
         refine one_ (i := 12) (N := some 30) (Goto.bs 14 8191) rfl rfl (one_of HT_.out (by kernel_rfl)) (by decide) (fun K hK => ?_)
         refine goes_ Try.func52 (by kernel_rfl) rfl #[.agg #[.int .i64 ((rd_T44 l0_3 a1).f0.f0), .int .u64 ((rd_T44 l0_3 a1).f0.f1)], .agg #[.int .i64 ((rd_T44 l0_3 a2).f0.f0), .int .u64 ((rd_T44 l0_3 a2).f0.f1)]] (by rfl) rfl rfl (by (try simp only [List.map_toArray, List.map_cons, List.map_nil]); first | done | rfl | (simp only [List.length_drop, List.length_take]; rfl)) ?_
         with_reducible refine (label_Leq.calls ((rd_T44 l0_3 a1).f0.f0) ((rd_T44 l0_3 a1).f0.f1) ((rd_T44 l0_3 a2).f0.f0) ((rd_T44 l0_3 a2).f0.f1) true _ A20.out).mono ?_
         rintro e w23 ⟨rfl, hb⟩
         refine ⟨_, rfl, ?_⟩
         replace BK164 := Goto.bb BK164 hb; replace HB := Goto.hs HB hb
         (try clear hb)
         (try clear hb2)
         (try clear hk)
         (try clear hi)
         refine hK.out _ _ ⟨(blk_cell BK164.out 0).trans rfl, (blk_cell BK164.out 1).trans rfl, (blk_cell BK164.out 2).trans rfl, (blk_cell BK164.out 3).trans rfl, (Goto.kc HB.out hw167_0), (Goto.kc HB.out hw167_1), (Goto.kc HB.out hw167_2), (Goto.kc HB.out hw167_3), (Goto.kc HB.out hw167_4), (Goto.kc HB.out hw167_5), (Goto.kc HB.out hw167_6), (Goto.kc HB.out hw167_7), (Goto.kc HB.out hw167_8), (Goto.kc HB.out hw167_9), (Goto.kc HB.out hw168_0), (Goto.kc HB.out hw168_1), (Goto.kc HB.out hw168_2), (Goto.kc HB.out hw168_3), (Goto.kc HB.out hw168_4), (Goto.kc HB.out hw168_5), (Goto.kc HB.out hw168_6), (Goto.kc HB.out hw168_7), (Goto.kc HB.out hw168_8), (Goto.kc HB.out hw168_9)⟩ (fun hHeld => ?_)
         clear hK K
         refine norm_ (a' := ?_) ?_ ?_
         rotate_left
         ·
          show Act.put _ (some 30) _ = _
          exact Goto.ap
         refine pure_ (i := 13) (N := some 31) (v := ?_) (a' := ?_) (Goto.bs 14 16383) rfl rfl (any_of HT_.out (by kernel_rfl)) (fun _ _ _ h => h) (Or.inl ⟨by rfl, ?_⟩) ?_ ?_
         rotate_left
         ·
          intro w'
          go_simp
          with_reducible rfl
         rotate_left
         ·
          exact Goto.ap
         refine done_ (done_of HT_.out (by kernel_rfl)) ?_
         try go_wp2
         go_ret
         exact ⟨by first | rfl | (simp [errW_none, errW_some] <;> rfl) | (simp [*, errW_none, errW_some] <;> rfl), by repeat (first | (with_reducible first | exact HB.out | apply below_alloc | apply pw_below_drewN | apply below_drew1 | refine below_set ?_ GE164.out) | exact HB.out)⟩
        ·
         replace c21 := Bool.eq_false_iff.mpr c21
         subst c21
         rw [if_neg (show ¬ (false = true) by decide)] at H
         obtain rfl := Option.some.inj H
         try go_wp2
         replace BK164 := Goto.m0 (blk_drew BK164.out); replace HB := Goto.m0 (below_drew1 HB.out)
         have p167 : 0 ≤ (a1 : Int) := of_decide_eq_true (by first | (with_reducible assumption) | assumption)
         have q167 : a1 < (l0_3.length : Int) := of_decide_eq_true (by first | (with_reducible assumption) | assumption)
         obtain ⟨ad167, A167_2, c167_2, A167_3, c167_3, e167, hx167_0, hx167_1, hx167_2, hx167_3, hx167_4, hx167_5, hx167_6, hx167_7, hx167_8, hx167_9, hl167_2, hi167_2, hl167_3, hi167_3⟩ := at_T44 HR0_3.out a1 p167 q167
         have hw167_9 := hx167_9; have hw167_8 := hx167_8; have hw167_7 := hx167_7; have hw167_6 := hx167_6; have hw167_5 := hx167_5; have hw167_4 := hx167_4; have hw167_3 := hx167_3; have hw167_2 := hx167_2; have hw167_1 := hx167_1; have hw167_0 := hx167_0
         cases e167
         replace hx167_0 := Goto.kc HB.out hx167_0
         replace hx167_1 := Goto.kc HB.out hx167_1
         replace hx167_2 := Goto.kc HB.out hx167_2
         replace hx167_3 := Goto.kc HB.out hx167_3
         replace hx167_4 := Goto.kc HB.out hx167_4
         replace hx167_5 := Goto.kc HB.out hx167_5
         replace hx167_6 := Goto.kc HB.out hx167_6
         replace hx167_7 := Goto.kc HB.out hx167_7
         replace hx167_8 := Goto.kc HB.out hx167_8
         replace hx167_9 := Goto.kc HB.out hx167_9
         have HR167_2 := Goto.m0 hi167_2
         have HC167_2 := Goto.m0 hl167_2
         clear hi167_2 hl167_2
         have HR167_3 := Goto.m0 hi167_3
         have HC167_3 := Goto.m0 hl167_3
         clear hi167_3 hl167_3; replace p167 := eq_true p167; replace q167 := eq_true q167
         have p168 : 0 ≤ (a2 : Int) := of_decide_eq_true (by first | (with_reducible assumption) | assumption)
         have q168 : a2 < (l0_3.length : Int) := of_decide_eq_true (by first | (with_reducible assumption) | assumption)
         obtain ⟨ad168, A168_2, c168_2, A168_3, c168_3, e168, hx168_0, hx168_1, hx168_2, hx168_3, hx168_4, hx168_5, hx168_6, hx168_7, hx168_8, hx168_9, hl168_2, hi168_2, hl168_3, hi168_3⟩ := at_T44 HR0_3.out a2 p168 q168
         have hw168_9 := hx168_9; have hw168_8 := hx168_8; have hw168_7 := hx168_7; have hw168_6 := hx168_6; have hw168_5 := hx168_5; have hw168_4 := hx168_4; have hw168_3 := hx168_3; have hw168_2 := hx168_2; have hw168_1 := hx168_1; have hw168_0 := hx168_0
         obtain rfl : ad167 = ad168 := (by injection e168)
         replace hx168_0 := Goto.kc HB.out hx168_0
         replace hx168_1 := Goto.kc HB.out hx168_1
         replace hx168_2 := Goto.kc HB.out hx168_2
         replace hx168_3 := Goto.kc HB.out hx168_3
         replace hx168_4 := Goto.kc HB.out hx168_4
         replace hx168_5 := Goto.kc HB.out hx168_5
         replace hx168_6 := Goto.kc HB.out hx168_6
         replace hx168_7 := Goto.kc HB.out hx168_7
         replace hx168_8 := Goto.kc HB.out hx168_8
         replace hx168_9 := Goto.kc HB.out hx168_9
         have HR168_2 := Goto.m0 hi168_2
         have HC168_2 := Goto.m0 hl168_2
         clear hi168_2 hl168_2
         have HR168_3 := Goto.m0 hi168_3
         have HC168_3 := Goto.m0 hl168_3
         clear hi168_3 hl168_3; replace p168 := eq_true p168; replace q168 := eq_true q168
         refine start_ (n := 14) (S := fun w' => w'.cell? ⟨gb164, 0, none⟩ = some (.int .i64 a0_0) ∧ w'.cell? ⟨gb164, 1, none⟩ = some (.int .i64 a0_1) ∧ w'.cell? ⟨gb164, 2, none⟩ = some (.slice A0_2 l0_2.length c0_2) ∧ w'.cell? ⟨gb164, 3, none⟩ = some (.slice (some ad167) l0_3.length c0_3) ∧ w'.cell? (ad167.add ((a1).toNat * 10)) = some (.int .i64 ((rd_T44 l0_3 a1).f0.f0)) ∧ w'.cell? ⟨(ad167.add ((a1).toNat * 10)).block, (ad167.add ((a1).toNat * 10)).off + 1, none⟩ = some (.int .u64 ((rd_T44 l0_3 a1).f0.f1)) ∧ w'.cell? ⟨(ad167.add ((a1).toNat * 10)).block, (ad167.add ((a1).toNat * 10)).off + 2, none⟩ = some (.slice A167_2 ((rd_T44 l0_3 a1).f1).length c167_2) ∧ w'.cell? ⟨(ad167.add ((a1).toNat * 10)).block, (ad167.add ((a1).toNat * 10)).off + 3, none⟩ = some (.slice A167_3 ((rd_T44 l0_3 a1).f2).length c167_3) ∧ w'.cell? ⟨(ad167.add ((a1).toNat * 10)).block, (ad167.add ((a1).toNat * 10)).off + 4, none⟩ = some (.int .i64 ((rd_T44 l0_3 a1).f3)) ∧ w'.cell? ⟨(ad167.add ((a1).toNat * 10)).block, (ad167.add ((a1).toNat * 10)).off + 5, none⟩ = some (.int .i64 ((rd_T44 l0_3 a1).f4)) ∧ w'.cell? ⟨(ad167.add ((a1).toNat * 10)).block, (ad167.add ((a1).toNat * 10)).off + 6, none⟩ = some (.int .i64 ((rd_T44 l0_3 a1).f5)) ∧ w'.cell? ⟨(ad167.add ((a1).toNat * 10)).block, (ad167.add ((a1).toNat * 10)).off + 7, none⟩ = some (.int .i64 ((rd_T44 l0_3 a1).f6)) ∧ w'.cell? ⟨(ad167.add ((a1).toNat * 10)).block, (ad167.add ((a1).toNat * 10)).off + 8, none⟩ = some (.int .i64 ((rd_T44 l0_3 a1).f7)) ∧ w'.cell? ⟨(ad167.add ((a1).toNat * 10)).block, (ad167.add ((a1).toNat * 10)).off + 9, none⟩ = some (.int .i64 ((rd_T44 l0_3 a1).f8)) ∧ w'.cell? (ad167.add ((a2).toNat * 10)) = some (.int .i64 ((rd_T44 l0_3 a2).f0.f0)) ∧ w'.cell? ⟨(ad167.add ((a2).toNat * 10)).block, (ad167.add ((a2).toNat * 10)).off + 1, none⟩ = some (.int .u64 ((rd_T44 l0_3 a2).f0.f1)) ∧ w'.cell? ⟨(ad167.add ((a2).toNat * 10)).block, (ad167.add ((a2).toNat * 10)).off + 2, none⟩ = some (.slice A168_2 ((rd_T44 l0_3 a2).f1).length c168_2) ∧ w'.cell? ⟨(ad167.add ((a2).toNat * 10)).block, (ad167.add ((a2).toNat * 10)).off + 3, none⟩ = some (.slice A168_3 ((rd_T44 l0_3 a2).f2).length c168_3) ∧ w'.cell? ⟨(ad167.add ((a2).toNat * 10)).block, (ad167.add ((a2).toNat * 10)).off + 4, none⟩ = some (.int .i64 ((rd_T44 l0_3 a2).f3)) ∧ w'.cell? ⟨(ad167.add ((a2).toNat * 10)).block, (ad167.add ((a2).toNat * 10)).off + 5, none⟩ = some (.int .i64 ((rd_T44 l0_3 a2).f4)) ∧ w'.cell? ⟨(ad167.add ((a2).toNat * 10)).block, (ad167.add ((a2).toNat * 10)).off + 6, none⟩ = some (.int .i64 ((rd_T44 l0_3 a2).f5)) ∧ w'.cell? ⟨(ad167.add ((a2).toNat * 10)).block, (ad167.add ((a2).toNat * 10)).off + 7, none⟩ = some (.int .i64 ((rd_T44 l0_3 a2).f6)) ∧ w'.cell? ⟨(ad167.add ((a2).toNat * 10)).block, (ad167.add ((a2).toNat * 10)).off + 8, none⟩ = some (.int .i64 ((rd_T44 l0_3 a2).f7)) ∧ w'.cell? ⟨(ad167.add ((a2).toNat * 10)).block, (ad167.add ((a2).toNat * 10)).off + 9, none⟩ = some (.int .i64 ((rd_T44 l0_3 a2).f8))) (ds := []) (.replicate 14 false) (by kernel_rfl) rfl rfl ⟨(blk_cell BK164.out 0).trans rfl, (blk_cell BK164.out 1).trans rfl, (blk_cell BK164.out 2).trans rfl, (blk_cell BK164.out 3).trans rfl, (Goto.kc HB.out hw167_0), (Goto.kc HB.out hw167_1), (Goto.kc HB.out hw167_2), (Goto.kc HB.out hw167_3), (Goto.kc HB.out hw167_4), (Goto.kc HB.out hw167_5), (Goto.kc HB.out hw167_6), (Goto.kc HB.out hw167_7), (Goto.kc HB.out hw167_8), (Goto.kc HB.out hw167_9), (Goto.kc HB.out hw168_0), (Goto.kc HB.out hw168_1), (Goto.kc HB.out hw168_2), (Goto.kc HB.out hw168_3), (Goto.kc HB.out hw168_4), (Goto.kc HB.out hw168_5), (Goto.kc HB.out hw168_6), (Goto.kc HB.out hw168_7), (Goto.kc HB.out hw168_8), (Goto.kc HB.out hw168_9)⟩ (fun hHeld => ?_); refine with_tabW check_flows.tab3 check_flows.bits3 (fun HT_ HW_ => ?_)
         generalize wc.drew = w24 at BK164 HB HR167_2 HR167_3 HR168_2 HR168_3 hx167_0 hx167_1 hx167_2 hx167_3 hx167_4 hx167_5 hx167_6 hx167_7 hx167_8 hx167_9 hx168_0 hx168_1 hx168_2 hx168_3 hx168_4 hx168_5 hx168_6 hx168_7 hx168_8 hx168_9 hHeld ⊢
         refine pure_ (i := 0) (N := some 18) (v := ?_) (a' := ?_) (Goto.bs 14 1) rfl rfl (any_of HT_.out (by kernel_rfl)) (fun _ _ _ h => h) (Or.inl ⟨by rfl, ?_⟩) ?_ ?_
         rotate_left
         ·
          intro w'
          go_simp
          with_reducible rfl
         rotate_left
         ·
          exact Goto.ap
         refine pure_ (i := 2) (N := some 20) (v := ?_) (a' := ?_) (Goto.bs 14 5) rfl rfl (any_of HT_.out (by kernel_rfl)) (fun _ _ _ h => h) (Or.inl ⟨by rfl, ?_⟩) ?_ ?_
         rotate_left
         ·
          intro w'
          go_simp
          with_reducible rfl
         rotate_left
         ·
          exact Goto.ap
         refine pure_ (i := 6) (N := some 24) (v := ?_) (a' := ?_) (Goto.bs 14 69) rfl rfl (any_of HT_.out (by kernel_rfl)) (fun _ _ _ h => h) (Or.inl ⟨by rfl, ?_⟩) ?_ ?_
         rotate_left
         ·
          intro w'
          go_simp
          with_reducible rfl
         rotate_left
         ·
          exact Goto.ap
         refine pure_ (i := 8) (N := some 26) (v := ?_) (a' := ?_) (Goto.bs 14 325) rfl rfl (any_of HT_.out (by kernel_rfl)) (fun _ _ _ h => h) (Or.inl ⟨by rfl, ?_⟩) ?_ ?_
         rotate_left
         ·
          intro w'
          go_simp
          with_reducible rfl
         rotate_left
         ·
          exact Goto.ap
         refine take_ (i := 1) (N := some 19) (v := ?_) (a' := ?_) (Goto.bs 14 327) rfl rfl (take_ofW HT_.out HW_.out (by kernel_rfl)) (fun _ _ _ h => h) (Or.inl ⟨by rfl, ?_⟩) hHeld ?_ ?_
         rotate_left
         ·
          rintro w' ⟨s0, s1, s2, s3, s4, s5, s6, s7, s8, s9, s10, s11, s12, s13, s14, s15, s16, s17, s18, s19, s20, s21, s22, s23⟩
          go_simp
          with_reducible rfl
         rotate_left
         ·
          exact Goto.ap
         refine pure_ (i := 3) (N := some 21) (v := ?_) (a' := ?_) (Goto.bs 14 335) rfl rfl (any_of HT_.out (by kernel_rfl)) (fun _ _ _ h => h) (Or.inl ⟨by rfl, ?_⟩) ?_ ?_
         rotate_left
         ·
          intro w'
          go_simp
          with_reducible rfl
         rotate_left
         ·
          exact Goto.ap
         refine pure_ (i := 4) (N := some 22) (v := ?_) (a' := ?_) (Goto.bs 14 351) rfl rfl (any_of HT_.out (by kernel_rfl)) (fun _ _ _ h => h) (Or.inl ⟨by rfl, ?_⟩) ?_ ?_
         rotate_left
         ·
          intro w'
          go_simp
          with_reducible rfl
         rotate_left
         ·
          exact Goto.ap
         refine take_ (i := 5) (N := some 23) (v := ?_) (a' := ?_) (Goto.bs 14 383) rfl rfl (take_ofW HT_.out HW_.out (by kernel_rfl)) (fun _ _ _ h => h) (Or.inl ⟨by rfl, ?_⟩) hHeld ?_ ?_
         rotate_left
         ·
          rintro w' ⟨s0, s1, s2, s3, s4, s5, s6, s7, s8, s9, s10, s11, s12, s13, s14, s15, s16, s17, s18, s19, s20, s21, s22, s23⟩
          go_simp
          with_reducible rfl
         rotate_left
         ·
          exact Goto.ap
         refine take_ (i := 7) (N := some 25) (v := ?_) (a' := ?_) (Goto.bs 14 511) rfl rfl (take_ofW HT_.out HW_.out (by kernel_rfl)) (fun _ _ _ h => h) (Or.inl ⟨by rfl, ?_⟩) hHeld ?_ ?_
         rotate_left
         ·
          rintro w' ⟨s0, s1, s2, s3, s4, s5, s6, s7, s8, s9, s10, s11, s12, s13, s14, s15, s16, s17, s18, s19, s20, s21, s22, s23⟩
          go_simp
          with_reducible rfl
         rotate_left
         ·
          exact Goto.ap
         refine pure_ (i := 9) (N := some 27) (v := ?_) (a' := ?_) (Goto.bs 14 1023) rfl rfl (any_of HT_.out (by kernel_rfl)) (fun _ _ _ h => h) (Or.inl ⟨by rfl, ?_⟩) ?_ ?_
         rotate_left
         ·
          intro w'
          go_simp
          with_reducible rfl
         rotate_left
         ·
          exact Goto.ap
         refine pure_ (i := 10) (N := some 28) (v := ?_) (a' := ?_) (Goto.bs 14 2047) rfl rfl (any_of HT_.out (by kernel_rfl)) (fun _ _ _ h => h) (Or.inl ⟨by rfl, ?_⟩) ?_ ?_
         rotate_left
         ·
          intro w'
          go_simp
          with_reducible rfl
         rotate_left
         ·
          exact Goto.ap
         refine take_ (i := 11) (N := some 29) (v := ?_) (a' := ?_) (Goto.bs 14 4095) rfl rfl (take_ofW HT_.out HW_.out (by kernel_rfl)) (fun _ _ _ h => h) (Or.inl ⟨by rfl, ?_⟩) hHeld ?_ ?_
         rotate_left
         ·
          rintro w' ⟨s0, s1, s2, s3, s4, s5, s6, s7, s8, s9, s10, s11, s12, s13, s14, s15, s16, s17, s18, s19, s20, s21, s22, s23⟩
          go_simp
          with_reducible rfl
         rotate_left
         ·
          exact Goto.ap
         refine one_ (i := 12) (N := some 30) (Goto.bs 14 8191) rfl rfl (one_of HT_.out (by kernel_rfl)) (by decide) (fun K hK => ?_)
         refine goes_ Try.func52 (by kernel_rfl) rfl #[.agg #[.int .i64 ((rd_T44 l0_3 a1).f0.f0), .int .u64 ((rd_T44 l0_3 a1).f0.f1)], .agg #[.int .i64 ((rd_T44 l0_3 a2).f0.f0), .int .u64 ((rd_T44 l0_3 a2).f0.f1)]] (by rfl) rfl rfl (by (try simp only [List.map_toArray, List.map_cons, List.map_nil]); first | done | rfl | (simp only [List.length_drop, List.length_take]; rfl)) ?_
         with_reducible refine (label_Leq.calls ((rd_T44 l0_3 a1).f0.f0) ((rd_T44 l0_3 a1).f0.f1) ((rd_T44 l0_3 a2).f0.f0) ((rd_T44 l0_3 a2).f0.f1) false _ A20.out).mono ?_
         rintro e w25 ⟨rfl, hb⟩
         refine ⟨_, rfl, ?_⟩
         replace BK164 := Goto.bb BK164 hb; replace HB := Goto.hs HB hb
         (try clear hb)
         (try clear hb2)
         (try clear hk)
         (try clear hi)
         refine hK.out _ _ ⟨(blk_cell BK164.out 0).trans rfl, (blk_cell BK164.out 1).trans rfl, (blk_cell BK164.out 2).trans rfl, (blk_cell BK164.out 3).trans rfl, (Goto.kc HB.out hw167_0), (Goto.kc HB.out hw167_1), (Goto.kc HB.out hw167_2), (Goto.kc HB.out hw167_3), (Goto.kc HB.out hw167_4), (Goto.kc HB.out hw167_5), (Goto.kc HB.out hw167_6), (Goto.kc HB.out hw167_7), (Goto.kc HB.out hw167_8), (Goto.kc HB.out hw167_9), (Goto.kc HB.out hw168_0), (Goto.kc HB.out hw168_1), (Goto.kc HB.out hw168_2), (Goto.kc HB.out hw168_3), (Goto.kc HB.out hw168_4), (Goto.kc HB.out hw168_5), (Goto.kc HB.out hw168_6), (Goto.kc HB.out hw168_7), (Goto.kc HB.out hw168_8), (Goto.kc HB.out hw168_9)⟩ (fun hHeld => ?_)
         clear hK K
         refine norm_ (a' := ?_) ?_ ?_
         rotate_left
         ·
          show Act.put _ (some 30) _ = _
          exact Goto.ap
         refine pure_ (i := 13) (N := some 31) (v := ?_) (a' := ?_) (Goto.bs 14 16383) rfl rfl (any_of HT_.out (by kernel_rfl)) (fun _ _ _ h => h) (Or.inl ⟨by rfl, ?_⟩) ?_ ?_
         rotate_left
         ·
          intro w'
          go_simp
          with_reducible rfl
         rotate_left
         ·
          exact Goto.ap
         refine done_ (done_of HT_.out (by kernel_rfl)) ?_
         try go_wp2
         go_ret
         exact ⟨by first | rfl | (simp [errW_none, errW_some] <;> rfl) | (simp [*, errW_none, errW_some] <;> rfl), by repeat (first | (with_reducible first | exact HB.out | apply below_alloc | apply pw_below_drewN | apply below_drew1 | refine below_set ?_ GE164.out) | exact HB.out)⟩
       ·
        rw [if_neg c19] at H
        exact absurd H (by simp)
      ·
       rw [if_neg c18] at H
       exact absurd H (by simp)
     ·
      rw [if_neg c17] at H
      exact absurd H (by simp)
    ·
     rw [if_neg c16] at H
     exact absurd H (by simp)

end Go.Proofs.Ythlokoombomndaa.P
