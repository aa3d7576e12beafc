/- Printed by a program of this workplace (a turned copy of the kit's optional print), out of the translation; not trusted: Lean checks it. -/
import Derived.Test.YtbhfkhcedjgpdaaDoorPx0
import Derived.Test.YtbhfkhcedjgpdaaDoorPx2
namespace Go.Proofs.YtbhfkhcedjgpdaaDoor.P
open Go.RowKit Go.Proofs.YtbhfkhcedjgpdaaDoorW.PrintWords Go.Proofs.YtbhfkhcedjgpdaaDoorW.PrintLast Go.Proofs.YtbhfkhcedjgpdaaDoorW.PrintMore
attribute [local go_sem] max2_int min2_int max_two min_two max_three min_three max_four min_four   -- for this text's walks alone
set_option linter.unusedVariables false
set_option linter.unusedSimpArgs false

/-! ### check_flows: function 37 -/
def check_flows.j0 : Nat → Int → Int → Bool → Int → Int → List (List Int) → List (S60) → Option (Option Int)
  | 0, _, _, _, _, _, _, _ => none
  | k + 1, x1, x2, x16, x105000, x105001, x105002, x105003 => if x16 = true then (some (some 13)) else (if 0 ≤ x1 then (if x1 < (x105003.length : Int) then (if 0 ≤ x2 then (if x2 < (x105003.length : Int) then ((label_Leq.f ((rd_T60 x105003 x1).f0.f0) ((rd_T60 x105003 x1).f0.f1) ((rd_T60 x105003 x2).f0.f0) ((rd_T60 x105003 x2).f0.f1)).bind fun t109 => (if t109 = true then (some none) else (some (some 15)))) else (none)) else (none)) else (none)) else (none))
def check_flows.f (k : Nat) (a0_0 : Int) (a0_1 : Int) (l0_2 : List (List Int)) (l0_3 : List (S60)) (a1 : Int) (a2 : Int) : Option (Option Int) := (check_domain.f a0_0 a0_1 l0_2 l0_3 a1).bind fun t105 => (if t105 = true then ((check_domain.f a0_0 a0_1 l0_2 l0_3 a2).bind fun t106 => (check_flows.j0 k a1 a2 (!t106) a0_0 a0_1 l0_2 l0_3)) else (check_flows.j0 k a1 a2 true a0_0 a0_1 l0_2 l0_3))
theorem check_flows.mono_l : ∀ k, (∀ y0 y1 y2 y3 y4 y5 y6, LeO (check_flows.j0 k y0 y1 y2 y3 y4 y5 y6) (check_flows.j0 (k + 1) y0 y1 y2 y3 y4 y5 y6))
  | 0 => fun _ _ _ _ _ _ _ r h => by simp [check_flows.j0] at h
  | k + 1 => by
    have ih0 := check_flows.mono_l k
    · intro y0 y1 y2 y3 y4 y5 y6
      unfold check_flows.j0
      repeat' first
      | (with_reducible exact ih0 _ _ _ _ _ _ _)
      | (with_reducible exact LeO.refl _)
      | (with_reducible exact LeO.none _)
      | (with_reducible refine LeO.ite ?_ ?_)
      | (with_reducible refine LeO.bind ?_ (fun _ => ?_))
      | exact ih0 _ _ _ _ _ _ _
      | exact LeO.none _
      | refine LeO.ite ?_ ?_
      | refine LeO.bind ?_ (fun _ => ?_)
theorem check_flows.mono : ∀ a0 a1 a2 a3 a4 a5 k, LeO (check_flows.f k a0 a1 a2 a3 a4 a5) (check_flows.f (k + 1) a0 a1 a2 a3 a4 a5) := by
 intro a0 a1 a2 a3 a4 a5 k
 have ih0 := check_flows.mono_l k
 unfold check_flows.f
 repeat' first
   | (with_reducible exact ih0 _ _ _ _ _ _ _)
   | (with_reducible exact LeO.refl _)
   | (with_reducible exact LeO.none _)
   | (with_reducible refine LeO.ite ?_ ?_)
   | (with_reducible refine LeO.bind ?_ (fun _ => ?_))
   | exact ih0 _ _ _ _ _ _ _
   | exact LeO.none _
   | refine LeO.ite ?_ ?_
   | refine LeO.bind ?_ (fun _ => ?_)
def check_flows.T3 : Bool × List (List Nat × List Nat) := (true, [([], []), ([0], [0]), ([], []), ([1, 2], [1, 2]), ([3], [3]), ([4], [4]), ([], []), ([6], [6]), ([], []), ([7, 8], [7, 8]), ([9], [9]), ([10], [10]), ([5, 11], [5, 11]), ([12], [12])])
def check_flows.B3 : List Nat := [0, 1, 0, 7, 15, 31, 0, 64, 0, 448, 960, 1984, 4095, 8191]
theorem check_flows.tab3 : rtab .any (opsOf Tryd.f37 3) = check_flows.T3 := by kernel_rfl
theorem check_flows.bits3 : waitsOk check_flows.T3.2 check_flows.B3 = true := by kernel_rfl
set_option maxHeartbeats 8000000 in
set_option maxRecDepth 100000 in
theorem check_flows.calls (k : Nat) (a0_0 : Int) (a0_1 : Int) (A0_2 : Option Addr) (c0_2 : Nat) (l0_2 : List (List Int)) (A0_3 : Option Addr) (c0_3 : Nat) (l0_3 : List (S60)) (a1 : Int) (a2 : Int) (r : Option Int) (w : World) (hr0_2 : Kd.C (Kd.slice 3 (Kd.int .i64)) w A0_2 l0_2.length l0_2) (hc0_2 : l0_2.length ≤ c0_2) (hr0_3 : Kd.C k60 w A0_3 l0_3.length l0_3) (hc0_3 : l0_3.length ≤ c0_3) (h : check_flows.f k a0_0 a0_1 l0_2 l0_3 a1 a2 = some r) :
    Calls Tryd.prog 37 #[.agg #[.int .i64 a0_0, .int .i64 a0_1, .slice A0_2 l0_2.length c0_2, .slice A0_3 l0_3.length c0_3], .int .i64 a1, .int .i64 a2] w fun e w' => e = .returned (errW r) ∧ Below w.heap.size w w' := by
 have hu25 := Tryd.underlying25; have hu58 := Tryd.underlying58; have hu31 := Tryd.underlying31; have hu55 := Tryd.underlying55
 have HR0_2 := Goto.m0 hr0_2
 have HC0_2 := Goto.m0 hc0_2
 clear hr0_2 hc0_2
 have HR0_3 := Goto.m0 hr0_3
 have HC0_3 := Goto.m0 hc0_3
 clear hr0_3 hc0_3
 have HB := Goto.m0 (Below.refl w.heap.size w)
 have H : ((check_domain.f a0_0 a0_1 l0_2 l0_3 a1).bind fun t105 => (if t105 = true then ((check_domain.f a0_0 a0_1 l0_2 l0_3 a2).bind fun t106 => (check_flows.j0 k a1 a2 (!t106) a0_0 a0_1 l0_2 l0_3)) else (check_flows.j0 k a1 a2 true a0_0 a0_1 l0_2 l0_3))) = some r := h
 clear h
 have HC4 := Goto.m0 H
 clear H
 go_enter Tryd.func37, Tryd.ntmps37
 go_upto_region 1 with (first | ((with_reducible refine gate_dst (N := 3) rfl ?_); refine box_event ?hg (N := 3) ?hd (cs := #[.int .i64 a0_0, .int .i64 a0_1, .slice A0_2 l0_2.length c0_2, .slice A0_3 l0_3.length c0_3]) (t := 25) ?hr ?_; (case hd => rfl); (case hg => rfl); (case hr => first | (go_simp; done) | (go_simp; rfl)); intro gb104 hg w5 hbox hb; have BK104 := Goto.m0 (hbox); have GW104 := Goto.gs HB hg; have GE104 := Goto.gs HB hg; replace HB := Goto.hs HB hb; clear hb hbox hg))
 (try simp only [Act.put, List.setIfInBounds_toArray, List.set_cons_zero, List.set_cons_succ])
 go_cut [16] (fun v16 wc => ∃ (kq : Nat) (x16_3 : Bool), v16 = .bool x16_3 ∧ Aside0 (check_flows.j0 kq a1 a2 x16_3 a0_0 a0_1 l0_2 l0_3 = some r) ∧ Aside0 (kq ≤ k) ∧ Aside0 (wc.heap[gb104]? = some (.cells #[.int .i64 a0_0, .int .i64 a0_1, (.slice A0_2 l0_2.length c0_2), (.slice A0_3 l0_3.length c0_3)] 25 (0, 0))) ∧ Aside0 (Below w.heap.size w wc))
 case first =>
  have H := HC4.out; clear HC4
  replace H := Option.bind_eq_some_iff.mp H
  obtain ⟨t105, A60, H⟩ := H
  have A6 := Goto.m0 A60
  clear A60
  by_cases c7 : t105 = true
  ·
   subst c7
   rw [if_pos rfl] at H
   replace H := Option.bind_eq_some_iff.mp H
   obtain ⟨t106, A80, H⟩ := H
   have A8 := Goto.m0 A80
   clear A80
   have H' := Goto.m0 H
   clear H; have hcz9_0 := Goto.bc0 BK104; have hcz9_1 := Goto.bc1 BK104; have hcz9_2 := Goto.bc2 BK104; have hcz9_3 := Goto.bc3 BK104; have hfz9_0 := Goto.bf BK104 0; have hfz9_1 := Goto.bf BK104 1; have hfz9_2 := Goto.bf BK104 2; have hfz9_3 := Goto.bf BK104 3
   go_wp2_with (first | ((with_reducible refine gate_callee (f := 40) rfl ?_); refine goesL_ (some 9) rfl rfl Tryd.func40 (by kernel_rfl) rfl #[.agg #[.int .i64 a0_0, .int .i64 a0_1, .slice A0_2 l0_2.length c0_2, .slice A0_3 l0_3.length c0_3], .int .i64 a1] rfl (by (try simp only [List.map_toArray, List.map_cons, List.map_nil]); first | done | rfl | (simp only [List.length_drop, List.length_take]; rfl)) ?_; (with_reducible refine (check_domain.calls a0_0 a0_1 _ _ l0_2 _ _ l0_3 a1 true _ ?side1 ?side2 ?side3 ?side4 A6.out).mono ?_); (case side1 => repeat (first | exact (Kd.C_below HR0_2.out HB.out) | (with_reducible refine Kd.C_alloc ?_ _) | (with_reducible refine Kd.C_drewN ?_ _) | (with_reducible refine Kd.C_drew ?_))); (case side2 => exact HC0_2.out); (case side3 => repeat (first | exact (Kd.C_below HR0_3.out HB.out) | (with_reducible refine Kd.C_alloc ?_ _) | (with_reducible refine Kd.C_drewN ?_ _) | (with_reducible refine Kd.C_drew ?_))); (case side4 => exact HC0_3.out); rintro e w10 ⟨rfl, hb⟩; refine ⟨_, rfl, ?_⟩; replace BK104 := Goto.bb BK104 hb; replace HB := Goto.hs HB hb; (try clear hb); (try clear hb2); (try clear hk); (try clear hi); have hcz11_0 := Goto.bc0 BK104; have hcz11_1 := Goto.bc1 BK104; have hcz11_2 := Goto.bc2 BK104; have hcz11_3 := Goto.bc3 BK104; have hfz11_0 := Goto.bf BK104 0; have hfz11_1 := Goto.bf BK104 1; have hfz11_2 := Goto.bf BK104 2; have hfz11_3 := Goto.bf BK104 3) | (go_at_call 40; (with_reducible refine (check_domain.calls a0_0 a0_1 _ _ l0_2 _ _ l0_3 a2 t106 _ ?side1 ?side2 ?side3 ?side4 A8.out).mono ?_); (case side1 => repeat (first | exact (Kd.C_below HR0_2.out HB.out) | (with_reducible refine Kd.C_alloc ?_ _) | (with_reducible refine Kd.C_drewN ?_ _) | (with_reducible refine Kd.C_drew ?_))); (case side2 => exact HC0_2.out); (case side3 => repeat (first | exact (Kd.C_below HR0_3.out HB.out) | (with_reducible refine Kd.C_alloc ?_ _) | (with_reducible refine Kd.C_drewN ?_ _) | (with_reducible refine Kd.C_drew ?_))); (case side4 => exact HC0_3.out); rintro e w12 ⟨rfl, hb⟩; replace BK104 := Goto.bb BK104 hb; replace HB := Goto.hs HB hb; (try clear hb); (try clear hb2); (try clear hk); (try clear hi)))
   go_meet
   case rel => exact ⟨_, (!t106), (by first | rfl | (simp; done) | (simp [*]; done)), H', ⟨by first | omega | exact Nat.le_refl _⟩, ⟨Goto.bx BK104⟩, ⟨Goto.hx HB⟩⟩
  ·
   replace c7 := Bool.eq_false_iff.mpr c7
   subst c7
   rw [if_neg (show ¬ (false = true) by decide)] at H
   have H' := Goto.m0 H
   clear H; have hcz13_0 := Goto.bc0 BK104; have hcz13_1 := Goto.bc1 BK104; have hcz13_2 := Goto.bc2 BK104; have hcz13_3 := Goto.bc3 BK104; have hfz13_0 := Goto.bf BK104 0; have hfz13_1 := Goto.bf BK104 1; have hfz13_2 := Goto.bf BK104 2; have hfz13_3 := Goto.bf BK104 3
   go_wp2_with (first | ((with_reducible refine gate_callee (f := 40) rfl ?_); refine goesL_ (some 9) rfl rfl Tryd.func40 (by kernel_rfl) rfl #[.agg #[.int .i64 a0_0, .int .i64 a0_1, .slice A0_2 l0_2.length c0_2, .slice A0_3 l0_3.length c0_3], .int .i64 a1] rfl (by (try simp only [List.map_toArray, List.map_cons, List.map_nil]); first | done | rfl | (simp only [List.length_drop, List.length_take]; rfl)) ?_; (with_reducible refine (check_domain.calls a0_0 a0_1 _ _ l0_2 _ _ l0_3 a1 false _ ?side1 ?side2 ?side3 ?side4 A6.out).mono ?_); (case side1 => repeat (first | exact (Kd.C_below HR0_2.out HB.out) | (with_reducible refine Kd.C_alloc ?_ _) | (with_reducible refine Kd.C_drewN ?_ _) | (with_reducible refine Kd.C_drew ?_))); (case side2 => exact HC0_2.out); (case side3 => repeat (first | exact (Kd.C_below HR0_3.out HB.out) | (with_reducible refine Kd.C_alloc ?_ _) | (with_reducible refine Kd.C_drewN ?_ _) | (with_reducible refine Kd.C_drew ?_))); (case side4 => exact HC0_3.out); rintro e w14 ⟨rfl, hb⟩; refine ⟨_, rfl, ?_⟩; replace BK104 := Goto.bb BK104 hb; replace HB := Goto.hs HB hb; (try clear hb); (try clear hb2); (try clear hk); (try clear hi)))
   go_meet
   case rel => exact ⟨_, (true), (by first | rfl | (simp; done) | (simp [*]; done)), H', ⟨by first | omega | exact Nat.le_refl _⟩, ⟨Goto.bx BK104⟩, ⟨Goto.hx HB⟩⟩
 case rest =>
  clear HC4; try clear p2; try clear c3; try clear c4; try clear c7; try clear hcz11_0; try clear hcz11_1; try clear hcz11_2; try clear hcz11_3; try clear hcz13_0; try clear hcz13_1; try clear hcz13_2; try clear hcz13_3; try clear hcz9_0; try clear hcz9_1; try clear hcz9_2; try clear hcz9_3; try clear hfz11_0; try clear hfz11_1; try clear hfz11_2; try clear hfz11_3; try clear hfz13_0; try clear hfz13_1; try clear hfz13_2; try clear hfz13_3; try clear hfz9_0; try clear hfz9_1; try clear hfz9_2; try clear hfz9_3
  obtain ⟨kq, x16_3, rfl, HA, HJ3, BK104, HB⟩ := hcut
  cases kq with
  | zero => exact absurd HA.out (by simp [check_flows.j0])
  | succ kj3 =>
   have H := HA.out; clear HA
   simp only [check_flows.j0] at H
   by_cases c15 : x16_3 = true
   ·
    subst c15
    rw [if_pos rfl] at H
    obtain rfl := Option.some.inj H
    go_wp2
    go_ret
    exact ⟨Goto.er, by repeat (first | (with_reducible first | exact HB.out | apply below_alloc | apply pw_below_drewN | apply below_drew1 | refine below_set ?_ GE104.out) | exact HB.out)⟩
   ·
    replace c15 := Bool.eq_false_iff.mpr c15
    subst c15
    rw [if_neg (show ¬ (false = true) by decide)] at H
    by_cases c16 : 0 ≤ a1
    ·
     rw [if_pos c16] at H
     have c16b0 : decide (0 ≤ a1) = true := decide_eq_true c16
     clear c16
     by_cases c17 : a1 < (l0_3.length : Int)
     ·
      rw [if_pos c17] at H
      have c17b0 : decide (a1 < (l0_3.length : Int)) = true := decide_eq_true c17
      clear c17
      by_cases c18 : 0 ≤ a2
      ·
       rw [if_pos c18] at H
       have c18b0 : decide (0 ≤ a2) = true := decide_eq_true c18
       clear c18
       by_cases c19 : a2 < (l0_3.length : Int)
       ·
        rw [if_pos c19] at H
        have c19b0 : decide (a2 < (l0_3.length : Int)) = true := decide_eq_true c19
        clear c19
        replace H := Option.bind_eq_some_iff.mp H
        obtain ⟨t109, A200, H⟩ := H
        have A20 := Goto.m0 A200
        clear A200
        by_cases c21 : t109 = true
        ·
         subst c21
         rw [if_pos rfl] at H
         obtain rfl := Option.some.inj H
         try go_wp2
         replace BK104 := Goto.m0 (blk_drew BK104.out); replace HB := Goto.m0 (below_drew1 HB.out)
         have p107 : 0 ≤ (a1 : Int) := Goto.od
         have q107 : a1 < (l0_3.length : Int) := Goto.od
         obtain ⟨ad107, A107_2, c107_2, A107_3, c107_3, e107, hx107_0, hx107_1, hx107_2, hx107_3, hx107_4, hx107_5, hx107_6, hx107_7, hx107_8, hx107_9, hl107_2, hi107_2, hl107_3, hi107_3⟩ := at_T60 HR0_3.out a1 p107 q107
         have hw107_9 := hx107_9; have hw107_8 := hx107_8; have hw107_7 := hx107_7; have hw107_6 := hx107_6; have hw107_5 := hx107_5; have hw107_4 := hx107_4; have hw107_3 := hx107_3; have hw107_2 := hx107_2; have hw107_1 := hx107_1; have hw107_0 := hx107_0
         cases e107
         replace hx107_0 := Goto.kc HB.out hx107_0
         replace hx107_1 := Goto.kc HB.out hx107_1
         replace hx107_2 := Goto.kc HB.out hx107_2
         replace hx107_3 := Goto.kc HB.out hx107_3
         replace hx107_4 := Goto.kc HB.out hx107_4
         replace hx107_5 := Goto.kc HB.out hx107_5
         replace hx107_6 := Goto.kc HB.out hx107_6
         replace hx107_7 := Goto.kc HB.out hx107_7
         replace hx107_8 := Goto.kc HB.out hx107_8
         replace hx107_9 := Goto.kc HB.out hx107_9
         have HR107_2 := Goto.m0 hi107_2
         have HC107_2 := Goto.m0 hl107_2
         clear hi107_2 hl107_2
         have HR107_3 := Goto.m0 hi107_3
         have HC107_3 := Goto.m0 hl107_3
         clear hi107_3 hl107_3; replace p107 := eq_true p107; replace q107 := eq_true q107
         have p108 : 0 ≤ (a2 : Int) := Goto.od
         have q108 : a2 < (l0_3.length : Int) := Goto.od
         obtain ⟨ad108, A108_2, c108_2, A108_3, c108_3, e108, hx108_0, hx108_1, hx108_2, hx108_3, hx108_4, hx108_5, hx108_6, hx108_7, hx108_8, hx108_9, hl108_2, hi108_2, hl108_3, hi108_3⟩ := at_T60 HR0_3.out a2 p108 q108
         have hw108_9 := hx108_9; have hw108_8 := hx108_8; have hw108_7 := hx108_7; have hw108_6 := hx108_6; have hw108_5 := hx108_5; have hw108_4 := hx108_4; have hw108_3 := hx108_3; have hw108_2 := hx108_2; have hw108_1 := hx108_1; have hw108_0 := hx108_0
         obtain rfl : ad107 = ad108 := (by injection e108)
         replace hx108_0 := Goto.kc HB.out hx108_0
         replace hx108_1 := Goto.kc HB.out hx108_1
         replace hx108_2 := Goto.kc HB.out hx108_2
         replace hx108_3 := Goto.kc HB.out hx108_3
         replace hx108_4 := Goto.kc HB.out hx108_4
         replace hx108_5 := Goto.kc HB.out hx108_5
         replace hx108_6 := Goto.kc HB.out hx108_6
         replace hx108_7 := Goto.kc HB.out hx108_7
         replace hx108_8 := Goto.kc HB.out hx108_8
         replace hx108_9 := Goto.kc HB.out hx108_9
         have HR108_2 := Goto.m0 hi108_2
         have HC108_2 := Goto.m0 hl108_2
         clear hi108_2 hl108_2
         have HR108_3 := Goto.m0 hi108_3
         have HC108_3 := Goto.m0 hl108_3
         clear hi108_3 hl108_3; replace p108 := eq_true p108; replace q108 := eq_true q108
         refine start_ (n := 14) (S := fun w' => w'.cell? ⟨gb104, 0, none⟩ = some (.int .i64 a0_0) ∧ w'.cell? ⟨gb104, 1, none⟩ = some (.int .i64 a0_1) ∧ w'.cell? ⟨gb104, 2, none⟩ = some (.slice A0_2 l0_2.length c0_2) ∧ w'.cell? ⟨gb104, 3, none⟩ = some (.slice (some ad107) l0_3.length c0_3) ∧ w'.cell? (ad107.add ((a1).toNat * 10)) = some (.int .i64 ((rd_T60 l0_3 a1).f0.f0)) ∧ w'.cell? ⟨(ad107.add ((a1).toNat * 10)).block, (ad107.add ((a1).toNat * 10)).off + 1, none⟩ = some (.int .u64 ((rd_T60 l0_3 a1).f0.f1)) ∧ w'.cell? ⟨(ad107.add ((a1).toNat * 10)).block, (ad107.add ((a1).toNat * 10)).off + 2, none⟩ = some (.slice A107_2 ((rd_T60 l0_3 a1).f1).length c107_2) ∧ w'.cell? ⟨(ad107.add ((a1).toNat * 10)).block, (ad107.add ((a1).toNat * 10)).off + 3, none⟩ = some (.slice A107_3 ((rd_T60 l0_3 a1).f2).length c107_3) ∧ w'.cell? ⟨(ad107.add ((a1).toNat * 10)).block, (ad107.add ((a1).toNat * 10)).off + 4, none⟩ = some (.int .i64 ((rd_T60 l0_3 a1).f3)) ∧ w'.cell? ⟨(ad107.add ((a1).toNat * 10)).block, (ad107.add ((a1).toNat * 10)).off + 5, none⟩ = some (.int .i64 ((rd_T60 l0_3 a1).f4)) ∧ w'.cell? ⟨(ad107.add ((a1).toNat * 10)).block, (ad107.add ((a1).toNat * 10)).off + 6, none⟩ = some (.int .i64 ((rd_T60 l0_3 a1).f5)) ∧ w'.cell? ⟨(ad107.add ((a1).toNat * 10)).block, (ad107.add ((a1).toNat * 10)).off + 7, none⟩ = some (.int .i64 ((rd_T60 l0_3 a1).f6)) ∧ w'.cell? ⟨(ad107.add ((a1).toNat * 10)).block, (ad107.add ((a1).toNat * 10)).off + 8, none⟩ = some (.int .i64 ((rd_T60 l0_3 a1).f7)) ∧ w'.cell? ⟨(ad107.add ((a1).toNat * 10)).block, (ad107.add ((a1).toNat * 10)).off + 9, none⟩ = some (.int .i64 ((rd_T60 l0_3 a1).f8)) ∧ w'.cell? (ad107.add ((a2).toNat * 10)) = some (.int .i64 ((rd_T60 l0_3 a2).f0.f0)) ∧ w'.cell? ⟨(ad107.add ((a2).toNat * 10)).block, (ad107.add ((a2).toNat * 10)).off + 1, none⟩ = some (.int .u64 ((rd_T60 l0_3 a2).f0.f1)) ∧ w'.cell? ⟨(ad107.add ((a2).toNat * 10)).block, (ad107.add ((a2).toNat * 10)).off + 2, none⟩ = some (.slice A108_2 ((rd_T60 l0_3 a2).f1).length c108_2) ∧ w'.cell? ⟨(ad107.add ((a2).toNat * 10)).block, (ad107.add ((a2).toNat * 10)).off + 3, none⟩ = some (.slice A108_3 ((rd_T60 l0_3 a2).f2).length c108_3) ∧ w'.cell? ⟨(ad107.add ((a2).toNat * 10)).block, (ad107.add ((a2).toNat * 10)).off + 4, none⟩ = some (.int .i64 ((rd_T60 l0_3 a2).f3)) ∧ w'.cell? ⟨(ad107.add ((a2).toNat * 10)).block, (ad107.add ((a2).toNat * 10)).off + 5, none⟩ = some (.int .i64 ((rd_T60 l0_3 a2).f4)) ∧ w'.cell? ⟨(ad107.add ((a2).toNat * 10)).block, (ad107.add ((a2).toNat * 10)).off + 6, none⟩ = some (.int .i64 ((rd_T60 l0_3 a2).f5)) ∧ w'.cell? ⟨(ad107.add ((a2).toNat * 10)).block, (ad107.add ((a2).toNat * 10)).off + 7, none⟩ = some (.int .i64 ((rd_T60 l0_3 a2).f6)) ∧ w'.cell? ⟨(ad107.add ((a2).toNat * 10)).block, (ad107.add ((a2).toNat * 10)).off + 8, none⟩ = some (.int .i64 ((rd_T60 l0_3 a2).f7)) ∧ w'.cell? ⟨(ad107.add ((a2).toNat * 10)).block, (ad107.add ((a2).toNat * 10)).off + 9, none⟩ = some (.int .i64 ((rd_T60 l0_3 a2).f8))) (ds := []) (.replicate 14 false) (by kernel_rfl) rfl rfl ⟨(blk_cell BK104.out 0).trans rfl, (blk_cell BK104.out 1).trans rfl, (blk_cell BK104.out 2).trans rfl, (blk_cell BK104.out 3).trans rfl, (Goto.kc HB.out hw107_0), (Goto.kc HB.out hw107_1), (Goto.kc HB.out hw107_2), (Goto.kc HB.out hw107_3), (Goto.kc HB.out hw107_4), (Goto.kc HB.out hw107_5), (Goto.kc HB.out hw107_6), (Goto.kc HB.out hw107_7), (Goto.kc HB.out hw107_8), (Goto.kc HB.out hw107_9), (Goto.kc HB.out hw108_0), (Goto.kc HB.out hw108_1), (Goto.kc HB.out hw108_2), (Goto.kc HB.out hw108_3), (Goto.kc HB.out hw108_4), (Goto.kc HB.out hw108_5), (Goto.kc HB.out hw108_6), (Goto.kc HB.out hw108_7), (Goto.kc HB.out hw108_8), (Goto.kc HB.out hw108_9)⟩ (fun hHeld => ?_); refine with_tabW check_flows.tab3 check_flows.bits3 (fun HT_ HW_ => ?_)
         generalize wc.drew = w22 at BK104 HB HR107_2 HR107_3 HR108_2 HR108_3 hx107_0 hx107_1 hx107_2 hx107_3 hx107_4 hx107_5 hx107_6 hx107_7 hx107_8 hx107_9 hx108_0 hx108_1 hx108_2 hx108_3 hx108_4 hx108_5 hx108_6 hx108_7 hx108_8 hx108_9 hHeld ⊢
         refine Goto.pu 0 18 14 1 ?_
         refine Goto.pu 2 20 14 5 ?_
         refine Goto.pu 6 24 14 69 ?_
         refine Goto.pu 8 26 14 325 ?_
         refine take_ (i := 1) (N := some 19) (v := ?_) (a' := ?_) (Goto.bs 14 327) rfl rfl (take_ofW HT_.out HW_.out (by kernel_rfl)) (fun _ _ _ h => h) (Or.inl ⟨by rfl, ?_⟩) hHeld ?_ ?_
         rotate_left
         ·
          rintro w' ⟨s0, s1, s2, s3, s4, s5, s6, s7, s8, s9, s10, s11, s12, s13, s14, s15, s16, s17, s18, s19, s20, s21, s22, s23⟩
          go_simp
          with_reducible rfl
         rotate_left
         ·
          exact Goto.ap
         refine Goto.pu 3 21 14 335 ?_
         refine Goto.pu 4 22 14 351 ?_
         refine take_ (i := 5) (N := some 23) (v := ?_) (a' := ?_) (Goto.bs 14 383) rfl rfl (take_ofW HT_.out HW_.out (by kernel_rfl)) (fun _ _ _ h => h) (Or.inl ⟨by rfl, ?_⟩) hHeld ?_ ?_
         rotate_left
         ·
          rintro w' ⟨s0, s1, s2, s3, s4, s5, s6, s7, s8, s9, s10, s11, s12, s13, s14, s15, s16, s17, s18, s19, s20, s21, s22, s23⟩
          go_simp
          with_reducible rfl
         rotate_left
         ·
          exact Goto.ap
         refine take_ (i := 7) (N := some 25) (v := ?_) (a' := ?_) (Goto.bs 14 511) rfl rfl (take_ofW HT_.out HW_.out (by kernel_rfl)) (fun _ _ _ h => h) (Or.inl ⟨by rfl, ?_⟩) hHeld ?_ ?_
         rotate_left
         ·
          rintro w' ⟨s0, s1, s2, s3, s4, s5, s6, s7, s8, s9, s10, s11, s12, s13, s14, s15, s16, s17, s18, s19, s20, s21, s22, s23⟩
          go_simp
          with_reducible rfl
         rotate_left
         ·
          exact Goto.ap
         refine Goto.pu 9 27 14 1023 ?_
         refine Goto.pu 10 28 14 2047 ?_
         refine take_ (i := 11) (N := some 29) (v := ?_) (a' := ?_) (Goto.bs 14 4095) rfl rfl (take_ofW HT_.out HW_.out (by kernel_rfl)) (fun _ _ _ h => h) (Or.inl ⟨by rfl, ?_⟩) hHeld ?_ ?_
         rotate_left
         ·
          rintro w' ⟨s0, s1, s2, s3, s4, s5, s6, s7, s8, s9, s10, s11, s12, s13, s14, s15, s16, s17, s18, s19, s20, s21, s22, s23⟩
          go_simp
          with_reducible rfl
         rotate_left
         ·
          exact Goto.ap
         refine one_ (i := 12) (N := some 30) (Goto.bs 14 8191) rfl rfl (one_of HT_.out (by kernel_rfl)) (by decide) (fun K hK => ?_)
         refine goes_ Tryd.func49 (by kernel_rfl) rfl #[.agg #[.int .i64 ((rd_T60 l0_3 a1).f0.f0), .int .u64 ((rd_T60 l0_3 a1).f0.f1)], .agg #[.int .i64 ((rd_T60 l0_3 a2).f0.f0), .int .u64 ((rd_T60 l0_3 a2).f0.f1)]] (by rfl) rfl rfl (by (try simp only [List.map_toArray, List.map_cons, List.map_nil]); first | done | rfl | (simp only [List.length_drop, List.length_take]; rfl)) ?_
         with_reducible refine (label_Leq.calls ((rd_T60 l0_3 a1).f0.f0) ((rd_T60 l0_3 a1).f0.f1) ((rd_T60 l0_3 a2).f0.f0) ((rd_T60 l0_3 a2).f0.f1) true _ A20.out).mono ?_
         rintro e w23 ⟨rfl, hb⟩
         refine ⟨_, rfl, ?_⟩
         replace BK104 := Goto.bb BK104 hb; replace HB := Goto.hs HB hb
         (try clear hb)
         (try clear hb2)
         (try clear hk)
         (try clear hi)
         refine hK.out _ _ ⟨(blk_cell BK104.out 0).trans rfl, (blk_cell BK104.out 1).trans rfl, (blk_cell BK104.out 2).trans rfl, (blk_cell BK104.out 3).trans rfl, (Goto.kc HB.out hw107_0), (Goto.kc HB.out hw107_1), (Goto.kc HB.out hw107_2), (Goto.kc HB.out hw107_3), (Goto.kc HB.out hw107_4), (Goto.kc HB.out hw107_5), (Goto.kc HB.out hw107_6), (Goto.kc HB.out hw107_7), (Goto.kc HB.out hw107_8), (Goto.kc HB.out hw107_9), (Goto.kc HB.out hw108_0), (Goto.kc HB.out hw108_1), (Goto.kc HB.out hw108_2), (Goto.kc HB.out hw108_3), (Goto.kc HB.out hw108_4), (Goto.kc HB.out hw108_5), (Goto.kc HB.out hw108_6), (Goto.kc HB.out hw108_7), (Goto.kc HB.out hw108_8), (Goto.kc HB.out hw108_9)⟩ (fun hHeld => ?_)
         clear hK K
         refine norm_ (a' := ?_) ?_ ?_
         rotate_left
         ·
          show Act.put _ (some 30) _ = _
          exact Goto.ap
         refine Goto.pu 13 31 14 16383 ?_
         refine done_ (done_of HT_.out (by kernel_rfl)) ?_
         try go_wp2
         go_ret
         exact ⟨Goto.er, by repeat (first | (with_reducible first | exact HB.out | apply below_alloc | apply pw_below_drewN | apply below_drew1 | refine below_set ?_ GE104.out) | exact HB.out)⟩
        ·
         replace c21 := Bool.eq_false_iff.mpr c21
         subst c21
         rw [if_neg (show ¬ (false = true) by decide)] at H
         obtain rfl := Option.some.inj H
         try go_wp2
         replace BK104 := Goto.m0 (blk_drew BK104.out); replace HB := Goto.m0 (below_drew1 HB.out)
         have p107 : 0 ≤ (a1 : Int) := Goto.od
         have q107 : a1 < (l0_3.length : Int) := Goto.od
         obtain ⟨ad107, A107_2, c107_2, A107_3, c107_3, e107, hx107_0, hx107_1, hx107_2, hx107_3, hx107_4, hx107_5, hx107_6, hx107_7, hx107_8, hx107_9, hl107_2, hi107_2, hl107_3, hi107_3⟩ := at_T60 HR0_3.out a1 p107 q107
         have hw107_9 := hx107_9; have hw107_8 := hx107_8; have hw107_7 := hx107_7; have hw107_6 := hx107_6; have hw107_5 := hx107_5; have hw107_4 := hx107_4; have hw107_3 := hx107_3; have hw107_2 := hx107_2; have hw107_1 := hx107_1; have hw107_0 := hx107_0
         cases e107
         replace hx107_0 := Goto.kc HB.out hx107_0
         replace hx107_1 := Goto.kc HB.out hx107_1
         replace hx107_2 := Goto.kc HB.out hx107_2
         replace hx107_3 := Goto.kc HB.out hx107_3
         replace hx107_4 := Goto.kc HB.out hx107_4
         replace hx107_5 := Goto.kc HB.out hx107_5
         replace hx107_6 := Goto.kc HB.out hx107_6
         replace hx107_7 := Goto.kc HB.out hx107_7
         replace hx107_8 := Goto.kc HB.out hx107_8
         replace hx107_9 := Goto.kc HB.out hx107_9
         have HR107_2 := Goto.m0 hi107_2
         have HC107_2 := Goto.m0 hl107_2
         clear hi107_2 hl107_2
         have HR107_3 := Goto.m0 hi107_3
         have HC107_3 := Goto.m0 hl107_3
         clear hi107_3 hl107_3; replace p107 := eq_true p107; replace q107 := eq_true q107
         have p108 : 0 ≤ (a2 : Int) := Goto.od
         have q108 : a2 < (l0_3.length : Int) := Goto.od
         obtain ⟨ad108, A108_2, c108_2, A108_3, c108_3, e108, hx108_0, hx108_1, hx108_2, hx108_3, hx108_4, hx108_5, hx108_6, hx108_7, hx108_8, hx108_9, hl108_2, hi108_2, hl108_3, hi108_3⟩ := at_T60 HR0_3.out a2 p108 q108
         have hw108_9 := hx108_9; have hw108_8 := hx108_8; have hw108_7 := hx108_7; have hw108_6 := hx108_6; have hw108_5 := hx108_5; have hw108_4 := hx108_4; have hw108_3 := hx108_3; have hw108_2 := hx108_2; have hw108_1 := hx108_1; have hw108_0 := hx108_0
         obtain rfl : ad107 = ad108 := (by injection e108)
         replace hx108_0 := Goto.kc HB.out hx108_0
         replace hx108_1 := Goto.kc HB.out hx108_1
         replace hx108_2 := Goto.kc HB.out hx108_2
         replace hx108_3 := Goto.kc HB.out hx108_3
         replace hx108_4 := Goto.kc HB.out hx108_4
         replace hx108_5 := Goto.kc HB.out hx108_5
         replace hx108_6 := Goto.kc HB.out hx108_6
         replace hx108_7 := Goto.kc HB.out hx108_7
         replace hx108_8 := Goto.kc HB.out hx108_8
         replace hx108_9 := Goto.kc HB.out hx108_9
         have HR108_2 := Goto.m0 hi108_2
         have HC108_2 := Goto.m0 hl108_2
         clear hi108_2 hl108_2
         have HR108_3 := Goto.m0 hi108_3
         have HC108_3 := Goto.m0 hl108_3
         clear hi108_3 hl108_3; replace p108 := eq_true p108; replace q108 := eq_true q108
         refine start_ (n := 14) (S := fun w' => w'.cell? ⟨gb104, 0, none⟩ = some (.int .i64 a0_0) ∧ w'.cell? ⟨gb104, 1, none⟩ = some (.int .i64 a0_1) ∧ w'.cell? ⟨gb104, 2, none⟩ = some (.slice A0_2 l0_2.length c0_2) ∧ w'.cell? ⟨gb104, 3, none⟩ = some (.slice (some ad107) l0_3.length c0_3) ∧ w'.cell? (ad107.add ((a1).toNat * 10)) = some (.int .i64 ((rd_T60 l0_3 a1).f0.f0)) ∧ w'.cell? ⟨(ad107.add ((a1).toNat * 10)).block, (ad107.add ((a1).toNat * 10)).off + 1, none⟩ = some (.int .u64 ((rd_T60 l0_3 a1).f0.f1)) ∧ w'.cell? ⟨(ad107.add ((a1).toNat * 10)).block, (ad107.add ((a1).toNat * 10)).off + 2, none⟩ = some (.slice A107_2 ((rd_T60 l0_3 a1).f1).length c107_2) ∧ w'.cell? ⟨(ad107.add ((a1).toNat * 10)).block, (ad107.add ((a1).toNat * 10)).off + 3, none⟩ = some (.slice A107_3 ((rd_T60 l0_3 a1).f2).length c107_3) ∧ w'.cell? ⟨(ad107.add ((a1).toNat * 10)).block, (ad107.add ((a1).toNat * 10)).off + 4, none⟩ = some (.int .i64 ((rd_T60 l0_3 a1).f3)) ∧ w'.cell? ⟨(ad107.add ((a1).toNat * 10)).block, (ad107.add ((a1).toNat * 10)).off + 5, none⟩ = some (.int .i64 ((rd_T60 l0_3 a1).f4)) ∧ w'.cell? ⟨(ad107.add ((a1).toNat * 10)).block, (ad107.add ((a1).toNat * 10)).off + 6, none⟩ = some (.int .i64 ((rd_T60 l0_3 a1).f5)) ∧ w'.cell? ⟨(ad107.add ((a1).toNat * 10)).block, (ad107.add ((a1).toNat * 10)).off + 7, none⟩ = some (.int .i64 ((rd_T60 l0_3 a1).f6)) ∧ w'.cell? ⟨(ad107.add ((a1).toNat * 10)).block, (ad107.add ((a1).toNat * 10)).off + 8, none⟩ = some (.int .i64 ((rd_T60 l0_3 a1).f7)) ∧ w'.cell? ⟨(ad107.add ((a1).toNat * 10)).block, (ad107.add ((a1).toNat * 10)).off + 9, none⟩ = some (.int .i64 ((rd_T60 l0_3 a1).f8)) ∧ w'.cell? (ad107.add ((a2).toNat * 10)) = some (.int .i64 ((rd_T60 l0_3 a2).f0.f0)) ∧ w'.cell? ⟨(ad107.add ((a2).toNat * 10)).block, (ad107.add ((a2).toNat * 10)).off + 1, none⟩ = some (.int .u64 ((rd_T60 l0_3 a2).f0.f1)) ∧ w'.cell? ⟨(ad107.add ((a2).toNat * 10)).block, (ad107.add ((a2).toNat * 10)).off + 2, none⟩ = some (.slice A108_2 ((rd_T60 l0_3 a2).f1).length c108_2) ∧ w'.cell? ⟨(ad107.add ((a2).toNat * 10)).block, (ad107.add ((a2).toNat * 10)).off + 3, none⟩ = some (.slice A108_3 ((rd_T60 l0_3 a2).f2).length c108_3) ∧ w'.cell? ⟨(ad107.add ((a2).toNat * 10)).block, (ad107.add ((a2).toNat * 10)).off + 4, none⟩ = some (.int .i64 ((rd_T60 l0_3 a2).f3)) ∧ w'.cell? ⟨(ad107.add ((a2).toNat * 10)).block, (ad107.add ((a2).toNat * 10)).off + 5, none⟩ = some (.int .i64 ((rd_T60 l0_3 a2).f4)) ∧ w'.cell? ⟨(ad107.add ((a2).toNat * 10)).block, (ad107.add ((a2).toNat * 10)).off + 6, none⟩ = some (.int .i64 ((rd_T60 l0_3 a2).f5)) ∧ w'.cell? ⟨(ad107.add ((a2).toNat * 10)).block, (ad107.add ((a2).toNat * 10)).off + 7, none⟩ = some (.int .i64 ((rd_T60 l0_3 a2).f6)) ∧ w'.cell? ⟨(ad107.add ((a2).toNat * 10)).block, (ad107.add ((a2).toNat * 10)).off + 8, none⟩ = some (.int .i64 ((rd_T60 l0_3 a2).f7)) ∧ w'.cell? ⟨(ad107.add ((a2).toNat * 10)).block, (ad107.add ((a2).toNat * 10)).off + 9, none⟩ = some (.int .i64 ((rd_T60 l0_3 a2).f8))) (ds := []) (.replicate 14 false) (by kernel_rfl) rfl rfl ⟨(blk_cell BK104.out 0).trans rfl, (blk_cell BK104.out 1).trans rfl, (blk_cell BK104.out 2).trans rfl, (blk_cell BK104.out 3).trans rfl, (Goto.kc HB.out hw107_0), (Goto.kc HB.out hw107_1), (Goto.kc HB.out hw107_2), (Goto.kc HB.out hw107_3), (Goto.kc HB.out hw107_4), (Goto.kc HB.out hw107_5), (Goto.kc HB.out hw107_6), (Goto.kc HB.out hw107_7), (Goto.kc HB.out hw107_8), (Goto.kc HB.out hw107_9), (Goto.kc HB.out hw108_0), (Goto.kc HB.out hw108_1), (Goto.kc HB.out hw108_2), (Goto.kc HB.out hw108_3), (Goto.kc HB.out hw108_4), (Goto.kc HB.out hw108_5), (Goto.kc HB.out hw108_6), (Goto.kc HB.out hw108_7), (Goto.kc HB.out hw108_8), (Goto.kc HB.out hw108_9)⟩ (fun hHeld => ?_); refine with_tabW check_flows.tab3 check_flows.bits3 (fun HT_ HW_ => ?_)
         generalize wc.drew = w24 at BK104 HB HR107_2 HR107_3 HR108_2 HR108_3 hx107_0 hx107_1 hx107_2 hx107_3 hx107_4 hx107_5 hx107_6 hx107_7 hx107_8 hx107_9 hx108_0 hx108_1 hx108_2 hx108_3 hx108_4 hx108_5 hx108_6 hx108_7 hx108_8 hx108_9 hHeld ⊢
         refine Goto.pu 0 18 14 1 ?_
         refine Goto.pu 2 20 14 5 ?_
         refine Goto.pu 6 24 14 69 ?_
         refine Goto.pu 8 26 14 325 ?_
         refine take_ (i := 1) (N := some 19) (v := ?_) (a' := ?_) (Goto.bs 14 327) rfl rfl (take_ofW HT_.out HW_.out (by kernel_rfl)) (fun _ _ _ h => h) (Or.inl ⟨by rfl, ?_⟩) hHeld ?_ ?_
         rotate_left
         ·
          rintro w' ⟨s0, s1, s2, s3, s4, s5, s6, s7, s8, s9, s10, s11, s12, s13, s14, s15, s16, s17, s18, s19, s20, s21, s22, s23⟩
          go_simp
          with_reducible rfl
         rotate_left
         ·
          exact Goto.ap
         refine Goto.pu 3 21 14 335 ?_
         refine Goto.pu 4 22 14 351 ?_
         refine take_ (i := 5) (N := some 23) (v := ?_) (a' := ?_) (Goto.bs 14 383) rfl rfl (take_ofW HT_.out HW_.out (by kernel_rfl)) (fun _ _ _ h => h) (Or.inl ⟨by rfl, ?_⟩) hHeld ?_ ?_
         rotate_left
         ·
          rintro w' ⟨s0, s1, s2, s3, s4, s5, s6, s7, s8, s9, s10, s11, s12, s13, s14, s15, s16, s17, s18, s19, s20, s21, s22, s23⟩
          go_simp
          with_reducible rfl
         rotate_left
         ·
          exact Goto.ap
         refine take_ (i := 7) (N := some 25) (v := ?_) (a' := ?_) (Goto.bs 14 511) rfl rfl (take_ofW HT_.out HW_.out (by kernel_rfl)) (fun _ _ _ h => h) (Or.inl ⟨by rfl, ?_⟩) hHeld ?_ ?_
         rotate_left
         ·
          rintro w' ⟨s0, s1, s2, s3, s4, s5, s6, s7, s8, s9, s10, s11, s12, s13, s14, s15, s16, s17, s18, s19, s20, s21, s22, s23⟩
          go_simp
          with_reducible rfl
         rotate_left
         ·
          exact Goto.ap
         refine Goto.pu 9 27 14 1023 ?_
         refine Goto.pu 10 28 14 2047 ?_
         refine take_ (i := 11) (N := some 29) (v := ?_) (a' := ?_) (Goto.bs 14 4095) rfl rfl (take_ofW HT_.out HW_.out (by kernel_rfl)) (fun _ _ _ h => h) (Or.inl ⟨by rfl, ?_⟩) hHeld ?_ ?_
         rotate_left
         ·
          rintro w' ⟨s0, s1, s2, s3, s4, s5, s6, s7, s8, s9, s10, s11, s12, s13, s14, s15, s16, s17, s18, s19, s20, s21, s22, s23⟩
          go_simp
          with_reducible rfl
         rotate_left
         ·
          exact Goto.ap
         refine one_ (i := 12) (N := some 30) (Goto.bs 14 8191) rfl rfl (one_of HT_.out (by kernel_rfl)) (by decide) (fun K hK => ?_)
         refine goes_ Tryd.func49 (by kernel_rfl) rfl #[.agg #[.int .i64 ((rd_T60 l0_3 a1).f0.f0), .int .u64 ((rd_T60 l0_3 a1).f0.f1)], .agg #[.int .i64 ((rd_T60 l0_3 a2).f0.f0), .int .u64 ((rd_T60 l0_3 a2).f0.f1)]] (by rfl) rfl rfl (by (try simp only [List.map_toArray, List.map_cons, List.map_nil]); first | done | rfl | (simp only [List.length_drop, List.length_take]; rfl)) ?_
         with_reducible refine (label_Leq.calls ((rd_T60 l0_3 a1).f0.f0) ((rd_T60 l0_3 a1).f0.f1) ((rd_T60 l0_3 a2).f0.f0) ((rd_T60 l0_3 a2).f0.f1) false _ A20.out).mono ?_
         rintro e w25 ⟨rfl, hb⟩
         refine ⟨_, rfl, ?_⟩
         replace BK104 := Goto.bb BK104 hb; replace HB := Goto.hs HB hb
         (try clear hb)
         (try clear hb2)
         (try clear hk)
         (try clear hi)
         refine hK.out _ _ ⟨(blk_cell BK104.out 0).trans rfl, (blk_cell BK104.out 1).trans rfl, (blk_cell BK104.out 2).trans rfl, (blk_cell BK104.out 3).trans rfl, (Goto.kc HB.out hw107_0), (Goto.kc HB.out hw107_1), (Goto.kc HB.out hw107_2), (Goto.kc HB.out hw107_3), (Goto.kc HB.out hw107_4), (Goto.kc HB.out hw107_5), (Goto.kc HB.out hw107_6), (Goto.kc HB.out hw107_7), (Goto.kc HB.out hw107_8), (Goto.kc HB.out hw107_9), (Goto.kc HB.out hw108_0), (Goto.kc HB.out hw108_1), (Goto.kc HB.out hw108_2), (Goto.kc HB.out hw108_3), (Goto.kc HB.out hw108_4), (Goto.kc HB.out hw108_5), (Goto.kc HB.out hw108_6), (Goto.kc HB.out hw108_7), (Goto.kc HB.out hw108_8), (Goto.kc HB.out hw108_9)⟩ (fun hHeld => ?_)
         clear hK K
         refine norm_ (a' := ?_) ?_ ?_
         rotate_left
         ·
          show Act.put _ (some 30) _ = _
          exact Goto.ap
         refine Goto.pu 13 31 14 16383 ?_
         refine done_ (done_of HT_.out (by kernel_rfl)) ?_
         try go_wp2
         go_ret
         exact ⟨Goto.er, by repeat (first | (with_reducible first | exact HB.out | apply below_alloc | apply pw_below_drewN | apply below_drew1 | refine below_set ?_ GE104.out) | exact HB.out)⟩
       ·
        rw [if_neg c19] at H
        exact absurd H (by simp)
      ·
       rw [if_neg c18] at H
       exact absurd H (by simp)
     ·
      rw [if_neg c17] at H
      exact absurd H (by simp)
    ·
     rw [if_neg c16] at H
     exact absurd H (by simp)

end Go.Proofs.YtbhfkhcedjgpdaaDoor.P
