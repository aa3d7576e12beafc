/- Printed by a program of this workplace (a turned copy of the kit's optional print), out of the translation; not trusted: Lean checks it. -/
import Derived.Test.YtbhfkhcedjgpdaaDoorPx0
import Derived.Test.YtbhfkhcedjgpdaaDoorPx10
namespace Go.Proofs.YtbhfkhcedjgpdaaDoor.P
open Go.RowKit Go.Proofs.YtbhfkhcedjgpdaaDoorW.PrintWords Go.Proofs.YtbhfkhcedjgpdaaDoorW.PrintLast Go.Proofs.YtbhfkhcedjgpdaaDoorW.PrintMore
attribute [local go_sem] max2_int min2_int max_two min_two max_three min_three max_four min_four   -- for this text's walks alone
set_option linter.unusedVariables false
set_option linter.unusedSimpArgs false

/-! ### tontineref15_is: function 38 -/
def tontineref15_is.f (a0_0 : Int) (a0_1 : Int) (l0_2 : List (List Int)) (l0_3 : List (S60)) (a1 : Int) : Option (Bool) := if a1 ≥ 0 then (some (decide (a1 < (l0_3.length : Int)))) else (some false)
set_option maxHeartbeats 8000000 in
set_option maxRecDepth 100000 in
theorem tontineref15_is.calls (a0_0 : Int) (a0_1 : Int) (A0_2 : Option Addr) (c0_2 : Nat) (l0_2 : List (List Int)) (A0_3 : Option Addr) (c0_3 : Nat) (l0_3 : List (S60)) (a1 : Int) (r : Bool) (w : World) (hr0_2 : Kd.C (Kd.slice 3 (Kd.int .i64)) w A0_2 l0_2.length l0_2) (hc0_2 : l0_2.length ≤ c0_2) (hr0_3 : Kd.C k60 w A0_3 l0_3.length l0_3) (hc0_3 : l0_3.length ≤ c0_3) (h : tontineref15_is.f a0_0 a0_1 l0_2 l0_3 a1 = some r) :
    Calls Tryd.prog 38 #[.agg #[.int .i64 a0_0, .int .i64 a0_1, .slice A0_2 l0_2.length c0_2, .slice A0_3 l0_3.length c0_3], .int .i64 a1] w fun e w' => e = .returned (.bool r) ∧ Below w.heap.size w w' := by
 have hu25 := Tryd.underlying25
 have HR0_2 := Goto.m0 hr0_2
 have HC0_2 := Goto.m0 hc0_2
 clear hr0_2 hc0_2
 have HR0_3 := Goto.m0 hr0_3
 have HC0_3 := Goto.m0 hc0_3
 clear hr0_3 hc0_3
 have HB := Goto.m0 (Below.refl w.heap.size w)
 have H : (if a1 ≥ 0 then (some (decide (a1 < (l0_3.length : Int)))) else (some false)) = some r := h
 clear h
 by_cases c3 : a1 ≥ 0
 ·
  rw [if_pos c3] at H
  have c3b0 : decide (0 ≤ a1) = true := decide_eq_true c3
  clear c3
  obtain rfl := Option.some.inj H
  go_enter Tryd.func38, Tryd.ntmps38
  go_wp2_with (first | ((with_reducible refine gate_dst (N := 2) rfl ?_); (try (refine gate_guard (by rfl) ?_; dsimp only)); refine box_event ?hg (N := 2) ?hd (cs := #[.int .i64 a0_0, .int .i64 a0_1, .slice A0_2 l0_2.length c0_2, .slice A0_3 l0_3.length c0_3]) (t := 25) ?hr ?_; (case hd => rfl); (case hg => rfl); (case hr => first | (go_simp; done) | (go_simp; rfl)); intro gb249 hg w4 hbox hb; have BK249 := Goto.m0 (hbox); have GW249 := Goto.gs HB hg; have GE249 := Goto.gs HB hg; replace HB := Goto.hs HB hb; clear hb hbox hg; have hcz5_0 := Goto.bc0 BK249; have hcz5_1 := Goto.bc1 BK249; have hcz5_2 := Goto.bc2 BK249; have hcz5_3 := Goto.bc3 BK249; have hfz5_0 := Goto.bf BK249 0; have hfz5_1 := Goto.bf BK249 1; have hfz5_2 := Goto.bf BK249 2; have hfz5_3 := Goto.bf BK249 3))
  go_ret
  exact ⟨Goto.er, by repeat (first | (with_reducible first | exact HB.out | apply below_alloc | apply pw_below_drewN | apply below_drew1 | refine below_set ?_ GE249.out) | exact HB.out)⟩
 ·
  rw [if_neg c3] at H
  have c3b0 : decide (0 ≤ a1) = false := decide_eq_false c3
  clear c3
  obtain rfl := Option.some.inj H
  go_enter Tryd.func38, Tryd.ntmps38
  go_wp2_with (first | ((with_reducible refine gate_dst (N := 2) rfl ?_); (try (refine gate_guard (by rfl) ?_; dsimp only)); refine box_event ?hg (N := 2) ?hd (cs := #[.int .i64 a0_0, .int .i64 a0_1, .slice A0_2 l0_2.length c0_2, .slice A0_3 l0_3.length c0_3]) (t := 25) ?hr ?_; (case hd => rfl); (case hg => rfl); (case hr => first | (go_simp; done) | (go_simp; rfl)); intro gb249 hg w6 hbox hb; have BK249 := Goto.m0 (hbox); have GW249 := Goto.gs HB hg; have GE249 := Goto.gs HB hg; replace HB := Goto.hs HB hb; clear hb hbox hg))
  go_ret
  exact ⟨Goto.er, by repeat (first | (with_reducible first | exact HB.out | apply below_alloc | apply pw_below_drewN | apply below_drew1 | refine below_set ?_ GE249.out) | exact HB.out)⟩

/-! ### tontineref15_Read: function 10 -/
def tontineref15_Read.f (a0_0 : Int) (a0_1 : Int) (l0_2 : List (List Int)) (l0_3 : List (S60)) (a1 : Int) (a2 : Int) : Option (Int) := (tontineref15_is.f a0_0 a0_1 l0_2 l0_3 a2).bind fun t251 => (if t251 = true then (if 0 ≤ a2 then (if a2 < (l0_3.length : Int) then (if 0 ≤ a1 then (if a1 < (l0_3.length : Int) then ((tontineref1_Leq.f ((rd_T60 l0_3 a2).f0.f0) ((rd_T60 l0_3 a2).f0.f1) ((rd_T60 l0_3 a1).f0.f0) ((rd_T60 l0_3 a1).f0.f1)).bind fun t254 => (if t254 = true then (some 0) else (some 15))) else (none)) else (none)) else (none)) else (none)) else (some 13))
def tontineref15_Read.T3 : Bool × List (List Nat × List Nat) := (true, [([], []), ([0], [0]), ([], []), ([1, 2], [1, 2]), ([3], [3]), ([4], [4]), ([], []), ([6], [6]), ([], []), ([7, 8], [7, 8]), ([9], [9]), ([10], [10]), ([5, 11], [5, 11]), ([12], [12])])
def tontineref15_Read.B3 : List Nat := [0, 1, 0, 7, 15, 31, 0, 64, 0, 448, 960, 1984, 4095, 8191]
theorem tontineref15_Read.tab3 : rtab .any (opsOf Tryd.f10 3) = tontineref15_Read.T3 := by kernel_rfl
theorem tontineref15_Read.bits3 : waitsOk tontineref15_Read.T3.2 tontineref15_Read.B3 = true := by kernel_rfl
set_option maxHeartbeats 8000000 in
set_option maxRecDepth 100000 in
theorem tontineref15_Read.calls (a0_0 : Int) (a0_1 : Int) (A0_2 : Option Addr) (c0_2 : Nat) (l0_2 : List (List Int)) (A0_3 : Option Addr) (c0_3 : Nat) (l0_3 : List (S60)) (a1 : Int) (a2 : Int) (r : Int) (w : World) (hr0_2 : Kd.C (Kd.slice 3 (Kd.int .i64)) w A0_2 l0_2.length l0_2) (hc0_2 : l0_2.length ≤ c0_2) (hr0_3 : Kd.C k60 w A0_3 l0_3.length l0_3) (hc0_3 : l0_3.length ≤ c0_3) (h : tontineref15_Read.f a0_0 a0_1 l0_2 l0_3 a1 a2 = some r) :
    Calls Tryd.prog 10 #[.agg #[.int .i64 a0_0, .int .i64 a0_1, .slice A0_2 l0_2.length c0_2, .slice A0_3 l0_3.length c0_3], .int .i64 a1, .int .i64 a2] w fun e w' => e = .returned (.int .i64 r) ∧ Below w.heap.size w w' := by
 have hu25 := Tryd.underlying25; have hu58 := Tryd.underlying58
 have HR0_2 := Goto.m0 hr0_2
 have HC0_2 := Goto.m0 hc0_2
 clear hr0_2 hc0_2
 have HR0_3 := Goto.m0 hr0_3
 have HC0_3 := Goto.m0 hc0_3
 clear hr0_3 hc0_3
 have HB := Goto.m0 (Below.refl w.heap.size w)
 have H : ((tontineref15_is.f a0_0 a0_1 l0_2 l0_3 a2).bind fun t251 => (if t251 = true then (if 0 ≤ a2 then (if a2 < (l0_3.length : Int) then (if 0 ≤ a1 then (if a1 < (l0_3.length : Int) then ((tontineref1_Leq.f ((rd_T60 l0_3 a2).f0.f0) ((rd_T60 l0_3 a2).f0.f1) ((rd_T60 l0_3 a1).f0.f0) ((rd_T60 l0_3 a1).f0.f1)).bind fun t254 => (if t254 = true then (some 0) else (some 15))) else (none)) else (none)) else (none)) else (none)) else (some 13))) = some r := h
 clear h
 replace H := Option.bind_eq_some_iff.mp H
 obtain ⟨t251, A40, H⟩ := H
 have A4 := Goto.m0 A40
 clear A40
 by_cases c5 : t251 = true
 ·
  subst c5
  rw [if_pos rfl] at H
  by_cases c6 : 0 ≤ a2
  ·
   rw [if_pos c6] at H
   have c6b0 : decide (0 ≤ a2) = true := decide_eq_true c6
   clear c6
   by_cases c7 : a2 < (l0_3.length : Int)
   ·
    rw [if_pos c7] at H
    have c7b0 : decide (a2 < (l0_3.length : Int)) = true := decide_eq_true c7
    clear c7
    by_cases c8 : 0 ≤ a1
    ·
     rw [if_pos c8] at H
     have c8b0 : decide (0 ≤ a1) = true := decide_eq_true c8
     clear c8
     by_cases c9 : a1 < (l0_3.length : Int)
     ·
      rw [if_pos c9] at H
      have c9b0 : decide (a1 < (l0_3.length : Int)) = true := decide_eq_true c9
      clear c9
      replace H := Option.bind_eq_some_iff.mp H
      obtain ⟨t254, A100, H⟩ := H
      have A10 := Goto.m0 A100
      clear A100
      by_cases c11 : t254 = true
      ·
       subst c11
       rw [if_pos rfl] at H
       obtain rfl := Option.some.inj H
       go_enter Tryd.func10, Tryd.ntmps10
       try go_wp2_with (first | ((with_reducible refine gate_dst (N := 3) rfl ?_); refine box_event ?hg (N := 3) ?hd (cs := #[.int .i64 a0_0, .int .i64 a0_1, .slice A0_2 l0_2.length c0_2, .slice A0_3 l0_3.length c0_3]) (t := 25) ?hr ?_; (case hd => rfl); (case hg => rfl); (case hr => first | (go_simp; done) | (go_simp; rfl)); intro gb250 hg w12 hbox hb; have BK250 := Goto.m0 (hbox); have GW250 := Goto.gs HB hg; have GE250 := Goto.gs HB hg; replace HB := Goto.hs HB hb; clear hb hbox hg; have hcz13_0 := Goto.bc0 BK250; have hcz13_1 := Goto.bc1 BK250; have hcz13_2 := Goto.bc2 BK250; have hcz13_3 := Goto.bc3 BK250; have hfz13_0 := Goto.bf BK250 0; have hfz13_1 := Goto.bf BK250 1; have hfz13_2 := Goto.bf BK250 2; have hfz13_3 := Goto.bf BK250 3) | ((with_reducible refine gate_callee (f := 38) rfl ?_); refine goesL_ (some 9) rfl rfl Tryd.func38 (by kernel_rfl) rfl #[.agg #[.int .i64 a0_0, .int .i64 a0_1, .slice A0_2 l0_2.length c0_2, .slice A0_3 l0_3.length c0_3], .int .i64 a2] rfl (by (try simp only [List.map_toArray, List.map_cons, List.map_nil]); first | done | rfl | (simp only [List.length_drop, List.length_take]; rfl)) ?_; (with_reducible refine (tontineref15_is.calls a0_0 a0_1 _ _ l0_2 _ _ l0_3 a2 true _ ?side1 ?side2 ?side3 ?side4 A4.out).mono ?_); (case side1 => repeat (first | exact (Kd.C_below HR0_2.out HB.out) | (with_reducible refine Kd.C_alloc ?_ _) | (with_reducible refine Kd.C_drewN ?_ _) | (with_reducible refine Kd.C_drew ?_))); (case side2 => exact HC0_2.out); (case side3 => repeat (first | exact (Kd.C_below HR0_3.out HB.out) | (with_reducible refine Kd.C_alloc ?_ _) | (with_reducible refine Kd.C_drewN ?_ _) | (with_reducible refine Kd.C_drew ?_))); (case side4 => exact HC0_3.out); rintro e w14 ⟨rfl, hb⟩; refine ⟨_, rfl, ?_⟩; replace BK250 := Goto.bb BK250 hb; replace HB := Goto.hs HB hb; (try clear hb); (try clear hb2); (try clear hk); (try clear hi)))
       replace BK250 := Goto.m0 (blk_drew BK250.out); replace HB := Goto.m0 (below_drew1 HB.out)
       have p252 : 0 ≤ (a2 : Int) := Goto.od
       have q252 : a2 < (l0_3.length : Int) := Goto.od
       obtain ⟨ad252, A252_2, c252_2, A252_3, c252_3, e252, hx252_0, hx252_1, hx252_2, hx252_3, hx252_4, hx252_5, hx252_6, hx252_7, hx252_8, hx252_9, hl252_2, hi252_2, hl252_3, hi252_3⟩ := at_T60 HR0_3.out a2 p252 q252
       have hw252_9 := hx252_9; have hw252_8 := hx252_8; have hw252_7 := hx252_7; have hw252_6 := hx252_6; have hw252_5 := hx252_5; have hw252_4 := hx252_4; have hw252_3 := hx252_3; have hw252_2 := hx252_2; have hw252_1 := hx252_1; have hw252_0 := hx252_0
       cases e252
       replace hx252_0 := Goto.kc HB.out hx252_0
       replace hx252_1 := Goto.kc HB.out hx252_1
       replace hx252_2 := Goto.kc HB.out hx252_2
       replace hx252_3 := Goto.kc HB.out hx252_3
       replace hx252_4 := Goto.kc HB.out hx252_4
       replace hx252_5 := Goto.kc HB.out hx252_5
       replace hx252_6 := Goto.kc HB.out hx252_6
       replace hx252_7 := Goto.kc HB.out hx252_7
       replace hx252_8 := Goto.kc HB.out hx252_8
       replace hx252_9 := Goto.kc HB.out hx252_9
       have HR252_2 := Goto.m0 hi252_2
       have HC252_2 := Goto.m0 hl252_2
       clear hi252_2 hl252_2
       have HR252_3 := Goto.m0 hi252_3
       have HC252_3 := Goto.m0 hl252_3
       clear hi252_3 hl252_3; replace p252 := eq_true p252; replace q252 := eq_true q252
       have p253 : 0 ≤ (a1 : Int) := Goto.od
       have q253 : a1 < (l0_3.length : Int) := Goto.od
       obtain ⟨ad253, A253_2, c253_2, A253_3, c253_3, e253, hx253_0, hx253_1, hx253_2, hx253_3, hx253_4, hx253_5, hx253_6, hx253_7, hx253_8, hx253_9, hl253_2, hi253_2, hl253_3, hi253_3⟩ := at_T60 HR0_3.out a1 p253 q253
       have hw253_9 := hx253_9; have hw253_8 := hx253_8; have hw253_7 := hx253_7; have hw253_6 := hx253_6; have hw253_5 := hx253_5; have hw253_4 := hx253_4; have hw253_3 := hx253_3; have hw253_2 := hx253_2; have hw253_1 := hx253_1; have hw253_0 := hx253_0
       obtain rfl : ad252 = ad253 := (by injection e253)
       replace hx253_0 := Goto.kc HB.out hx253_0
       replace hx253_1 := Goto.kc HB.out hx253_1
       replace hx253_2 := Goto.kc HB.out hx253_2
       replace hx253_3 := Goto.kc HB.out hx253_3
       replace hx253_4 := Goto.kc HB.out hx253_4
       replace hx253_5 := Goto.kc HB.out hx253_5
       replace hx253_6 := Goto.kc HB.out hx253_6
       replace hx253_7 := Goto.kc HB.out hx253_7
       replace hx253_8 := Goto.kc HB.out hx253_8
       replace hx253_9 := Goto.kc HB.out hx253_9
       have HR253_2 := Goto.m0 hi253_2
       have HC253_2 := Goto.m0 hl253_2
       clear hi253_2 hl253_2
       have HR253_3 := Goto.m0 hi253_3
       have HC253_3 := Goto.m0 hl253_3
       clear hi253_3 hl253_3; replace p253 := eq_true p253; replace q253 := eq_true q253
       refine start_ (n := 14) (S := fun w' => w'.cell? ⟨gb250, 0, none⟩ = some (.int .i64 a0_0) ∧ w'.cell? ⟨gb250, 1, none⟩ = some (.int .i64 a0_1) ∧ w'.cell? ⟨gb250, 2, none⟩ = some (.slice A0_2 l0_2.length c0_2) ∧ w'.cell? ⟨gb250, 3, none⟩ = some (.slice (some ad252) l0_3.length c0_3) ∧ w'.cell? (ad252.add ((a2).toNat * 10)) = some (.int .i64 ((rd_T60 l0_3 a2).f0.f0)) ∧ w'.cell? ⟨(ad252.add ((a2).toNat * 10)).block, (ad252.add ((a2).toNat * 10)).off + 1, none⟩ = some (.int .u64 ((rd_T60 l0_3 a2).f0.f1)) ∧ w'.cell? ⟨(ad252.add ((a2).toNat * 10)).block, (ad252.add ((a2).toNat * 10)).off + 2, none⟩ = some (.slice A252_2 ((rd_T60 l0_3 a2).f1).length c252_2) ∧ w'.cell? ⟨(ad252.add ((a2).toNat * 10)).block, (ad252.add ((a2).toNat * 10)).off + 3, none⟩ = some (.slice A252_3 ((rd_T60 l0_3 a2).f2).length c252_3) ∧ w'.cell? ⟨(ad252.add ((a2).toNat * 10)).block, (ad252.add ((a2).toNat * 10)).off + 4, none⟩ = some (.int .i64 ((rd_T60 l0_3 a2).f3)) ∧ w'.cell? ⟨(ad252.add ((a2).toNat * 10)).block, (ad252.add ((a2).toNat * 10)).off + 5, none⟩ = some (.int .i64 ((rd_T60 l0_3 a2).f4)) ∧ w'.cell? ⟨(ad252.add ((a2).toNat * 10)).block, (ad252.add ((a2).toNat * 10)).off + 6, none⟩ = some (.int .i64 ((rd_T60 l0_3 a2).f5)) ∧ w'.cell? ⟨(ad252.add ((a2).toNat * 10)).block, (ad252.add ((a2).toNat * 10)).off + 7, none⟩ = some (.int .i64 ((rd_T60 l0_3 a2).f6)) ∧ w'.cell? ⟨(ad252.add ((a2).toNat * 10)).block, (ad252.add ((a2).toNat * 10)).off + 8, none⟩ = some (.int .i64 ((rd_T60 l0_3 a2).f7)) ∧ w'.cell? ⟨(ad252.add ((a2).toNat * 10)).block, (ad252.add ((a2).toNat * 10)).off + 9, none⟩ = some (.int .i64 ((rd_T60 l0_3 a2).f8)) ∧ w'.cell? (ad252.add ((a1).toNat * 10)) = some (.int .i64 ((rd_T60 l0_3 a1).f0.f0)) ∧ w'.cell? ⟨(ad252.add ((a1).toNat * 10)).block, (ad252.add ((a1).toNat * 10)).off + 1, none⟩ = some (.int .u64 ((rd_T60 l0_3 a1).f0.f1)) ∧ w'.cell? ⟨(ad252.add ((a1).toNat * 10)).block, (ad252.add ((a1).toNat * 10)).off + 2, none⟩ = some (.slice A253_2 ((rd_T60 l0_3 a1).f1).length c253_2) ∧ w'.cell? ⟨(ad252.add ((a1).toNat * 10)).block, (ad252.add ((a1).toNat * 10)).off + 3, none⟩ = some (.slice A253_3 ((rd_T60 l0_3 a1).f2).length c253_3) ∧ w'.cell? ⟨(ad252.add ((a1).toNat * 10)).block, (ad252.add ((a1).toNat * 10)).off + 4, none⟩ = some (.int .i64 ((rd_T60 l0_3 a1).f3)) ∧ w'.cell? ⟨(ad252.add ((a1).toNat * 10)).block, (ad252.add ((a1).toNat * 10)).off + 5, none⟩ = some (.int .i64 ((rd_T60 l0_3 a1).f4)) ∧ w'.cell? ⟨(ad252.add ((a1).toNat * 10)).block, (ad252.add ((a1).toNat * 10)).off + 6, none⟩ = some (.int .i64 ((rd_T60 l0_3 a1).f5)) ∧ w'.cell? ⟨(ad252.add ((a1).toNat * 10)).block, (ad252.add ((a1).toNat * 10)).off + 7, none⟩ = some (.int .i64 ((rd_T60 l0_3 a1).f6)) ∧ w'.cell? ⟨(ad252.add ((a1).toNat * 10)).block, (ad252.add ((a1).toNat * 10)).off + 8, none⟩ = some (.int .i64 ((rd_T60 l0_3 a1).f7)) ∧ w'.cell? ⟨(ad252.add ((a1).toNat * 10)).block, (ad252.add ((a1).toNat * 10)).off + 9, none⟩ = some (.int .i64 ((rd_T60 l0_3 a1).f8))) (ds := []) (.replicate 14 false) (by kernel_rfl) rfl rfl ⟨(blk_cell BK250.out 0).trans rfl, (blk_cell BK250.out 1).trans rfl, (blk_cell BK250.out 2).trans rfl, (blk_cell BK250.out 3).trans rfl, (Goto.kc HB.out hw252_0), (Goto.kc HB.out hw252_1), (Goto.kc HB.out hw252_2), (Goto.kc HB.out hw252_3), (Goto.kc HB.out hw252_4), (Goto.kc HB.out hw252_5), (Goto.kc HB.out hw252_6), (Goto.kc HB.out hw252_7), (Goto.kc HB.out hw252_8), (Goto.kc HB.out hw252_9), (Goto.kc HB.out hw253_0), (Goto.kc HB.out hw253_1), (Goto.kc HB.out hw253_2), (Goto.kc HB.out hw253_3), (Goto.kc HB.out hw253_4), (Goto.kc HB.out hw253_5), (Goto.kc HB.out hw253_6), (Goto.kc HB.out hw253_7), (Goto.kc HB.out hw253_8), (Goto.kc HB.out hw253_9)⟩ (fun hHeld => ?_); refine with_tabW tontineref15_Read.tab3 tontineref15_Read.bits3 (fun HT_ HW_ => ?_)
       generalize w14.drew = w15 at BK250 HB HR252_2 HR252_3 HR253_2 HR253_3 hx252_0 hx252_1 hx252_2 hx252_3 hx252_4 hx252_5 hx252_6 hx252_7 hx252_8 hx252_9 hx253_0 hx253_1 hx253_2 hx253_3 hx253_4 hx253_5 hx253_6 hx253_7 hx253_8 hx253_9 hHeld ⊢
       refine Goto.pu 0 11 14 1 ?_
       refine Goto.pu 2 13 14 5 ?_
       refine Goto.pu 6 17 14 69 ?_
       refine Goto.pu 8 19 14 325 ?_
       refine take_ (i := 1) (N := some 12) (v := ?_) (a' := ?_) (Goto.bs 14 327) rfl rfl (take_ofW HT_.out HW_.out (by kernel_rfl)) (fun _ _ _ h => h) (Or.inl ⟨by rfl, ?_⟩) hHeld ?_ ?_
       rotate_left
       ·
        rintro w' ⟨s0, s1, s2, s3, s4, s5, s6, s7, s8, s9, s10, s11, s12, s13, s14, s15, s16, s17, s18, s19, s20, s21, s22, s23⟩
        go_simp
        with_reducible rfl
       rotate_left
       ·
        exact Goto.ap
       refine Goto.pu 3 14 14 335 ?_
       refine Goto.pu 4 15 14 351 ?_
       refine take_ (i := 5) (N := some 16) (v := ?_) (a' := ?_) (Goto.bs 14 383) rfl rfl (take_ofW HT_.out HW_.out (by kernel_rfl)) (fun _ _ _ h => h) (Or.inl ⟨by rfl, ?_⟩) hHeld ?_ ?_
       rotate_left
       ·
        rintro w' ⟨s0, s1, s2, s3, s4, s5, s6, s7, s8, s9, s10, s11, s12, s13, s14, s15, s16, s17, s18, s19, s20, s21, s22, s23⟩
        go_simp
        with_reducible rfl
       rotate_left
       ·
        exact Goto.ap
       refine take_ (i := 7) (N := some 18) (v := ?_) (a' := ?_) (Goto.bs 14 511) rfl rfl (take_ofW HT_.out HW_.out (by kernel_rfl)) (fun _ _ _ h => h) (Or.inl ⟨by rfl, ?_⟩) hHeld ?_ ?_
       rotate_left
       ·
        rintro w' ⟨s0, s1, s2, s3, s4, s5, s6, s7, s8, s9, s10, s11, s12, s13, s14, s15, s16, s17, s18, s19, s20, s21, s22, s23⟩
        go_simp
        with_reducible rfl
       rotate_left
       ·
        exact Goto.ap
       refine Goto.pu 9 20 14 1023 ?_
       refine Goto.pu 10 21 14 2047 ?_
       refine take_ (i := 11) (N := some 22) (v := ?_) (a' := ?_) (Goto.bs 14 4095) rfl rfl (take_ofW HT_.out HW_.out (by kernel_rfl)) (fun _ _ _ h => h) (Or.inl ⟨by rfl, ?_⟩) hHeld ?_ ?_
       rotate_left
       ·
        rintro w' ⟨s0, s1, s2, s3, s4, s5, s6, s7, s8, s9, s10, s11, s12, s13, s14, s15, s16, s17, s18, s19, s20, s21, s22, s23⟩
        go_simp
        with_reducible rfl
       rotate_left
       ·
        exact Goto.ap
       refine one_ (i := 12) (N := some 23) (Goto.bs 14 8191) rfl rfl (one_of HT_.out (by kernel_rfl)) (by decide) (fun K hK => ?_)
       refine goes_ Tryd.func39 (by kernel_rfl) rfl #[.agg #[.int .i64 ((rd_T60 l0_3 a2).f0.f0), .int .u64 ((rd_T60 l0_3 a2).f0.f1)], .agg #[.int .i64 ((rd_T60 l0_3 a1).f0.f0), .int .u64 ((rd_T60 l0_3 a1).f0.f1)]] (by rfl) rfl rfl (by (try simp only [List.map_toArray, List.map_cons, List.map_nil]); first | done | rfl | (simp only [List.length_drop, List.length_take]; rfl)) ?_
       with_reducible refine (tontineref1_Leq.calls ((rd_T60 l0_3 a2).f0.f0) ((rd_T60 l0_3 a2).f0.f1) ((rd_T60 l0_3 a1).f0.f0) ((rd_T60 l0_3 a1).f0.f1) true _ A10.out).mono ?_
       rintro e w16 ⟨rfl, hb⟩
       refine ⟨_, rfl, ?_⟩
       replace BK250 := Goto.bb BK250 hb; replace HB := Goto.hs HB hb
       (try clear hb)
       (try clear hb2)
       (try clear hk)
       (try clear hi)
       refine hK.out _ _ ⟨(blk_cell BK250.out 0).trans rfl, (blk_cell BK250.out 1).trans rfl, (blk_cell BK250.out 2).trans rfl, (blk_cell BK250.out 3).trans rfl, (Goto.kc HB.out hw252_0), (Goto.kc HB.out hw252_1), (Goto.kc HB.out hw252_2), (Goto.kc HB.out hw252_3), (Goto.kc HB.out hw252_4), (Goto.kc HB.out hw252_5), (Goto.kc HB.out hw252_6), (Goto.kc HB.out hw252_7), (Goto.kc HB.out hw252_8), (Goto.kc HB.out hw252_9), (Goto.kc HB.out hw253_0), (Goto.kc HB.out hw253_1), (Goto.kc HB.out hw253_2), (Goto.kc HB.out hw253_3), (Goto.kc HB.out hw253_4), (Goto.kc HB.out hw253_5), (Goto.kc HB.out hw253_6), (Goto.kc HB.out hw253_7), (Goto.kc HB.out hw253_8), (Goto.kc HB.out hw253_9)⟩ (fun hHeld => ?_)
       clear hK K
       refine norm_ (a' := ?_) ?_ ?_
       rotate_left
       ·
        show Act.put _ (some 23) _ = _
        exact Goto.ap
       refine Goto.pu 13 24 14 16383 ?_
       refine done_ (done_of HT_.out (by kernel_rfl)) ?_
       try go_wp2
       go_ret
       exact ⟨Goto.er, by repeat (first | (with_reducible first | exact HB.out | apply below_alloc | apply pw_below_drewN | apply below_drew1 | refine below_set ?_ GE250.out) | exact HB.out)⟩
      ·
       replace c11 := Bool.eq_false_iff.mpr c11
       subst c11
       rw [if_neg (show ¬ (false = true) by decide)] at H
       obtain rfl := Option.some.inj H
       go_enter Tryd.func10, Tryd.ntmps10
       try go_wp2_with (first | ((with_reducible refine gate_dst (N := 3) rfl ?_); refine box_event ?hg (N := 3) ?hd (cs := #[.int .i64 a0_0, .int .i64 a0_1, .slice A0_2 l0_2.length c0_2, .slice A0_3 l0_3.length c0_3]) (t := 25) ?hr ?_; (case hd => rfl); (case hg => rfl); (case hr => first | (go_simp; done) | (go_simp; rfl)); intro gb250 hg w17 hbox hb; have BK250 := Goto.m0 (hbox); have GW250 := Goto.gs HB hg; have GE250 := Goto.gs HB hg; replace HB := Goto.hs HB hb; clear hb hbox hg; have hcz18_0 := Goto.bc0 BK250; have hcz18_1 := Goto.bc1 BK250; have hcz18_2 := Goto.bc2 BK250; have hcz18_3 := Goto.bc3 BK250; have hfz18_0 := Goto.bf BK250 0; have hfz18_1 := Goto.bf BK250 1; have hfz18_2 := Goto.bf BK250 2; have hfz18_3 := Goto.bf BK250 3) | ((with_reducible refine gate_callee (f := 38) rfl ?_); refine goesL_ (some 9) rfl rfl Tryd.func38 (by kernel_rfl) rfl #[.agg #[.int .i64 a0_0, .int .i64 a0_1, .slice A0_2 l0_2.length c0_2, .slice A0_3 l0_3.length c0_3], .int .i64 a2] rfl (by (try simp only [List.map_toArray, List.map_cons, List.map_nil]); first | done | rfl | (simp only [List.length_drop, List.length_take]; rfl)) ?_; (with_reducible refine (tontineref15_is.calls a0_0 a0_1 _ _ l0_2 _ _ l0_3 a2 true _ ?side1 ?side2 ?side3 ?side4 A4.out).mono ?_); (case side1 => repeat (first | exact (Kd.C_below HR0_2.out HB.out) | (with_reducible refine Kd.C_alloc ?_ _) | (with_reducible refine Kd.C_drewN ?_ _) | (with_reducible refine Kd.C_drew ?_))); (case side2 => exact HC0_2.out); (case side3 => repeat (first | exact (Kd.C_below HR0_3.out HB.out) | (with_reducible refine Kd.C_alloc ?_ _) | (with_reducible refine Kd.C_drewN ?_ _) | (with_reducible refine Kd.C_drew ?_))); (case side4 => exact HC0_3.out); rintro e w19 ⟨rfl, hb⟩; refine ⟨_, rfl, ?_⟩; replace BK250 := Goto.bb BK250 hb; replace HB := Goto.hs HB hb; (try clear hb); (try clear hb2); (try clear hk); (try clear hi)))
       replace BK250 := Goto.m0 (blk_drew BK250.out); replace HB := Goto.m0 (below_drew1 HB.out)
       have p252 : 0 ≤ (a2 : Int) := Goto.od
       have q252 : a2 < (l0_3.length : Int) := Goto.od
       obtain ⟨ad252, A252_2, c252_2, A252_3, c252_3, e252, hx252_0, hx252_1, hx252_2, hx252_3, hx252_4, hx252_5, hx252_6, hx252_7, hx252_8, hx252_9, hl252_2, hi252_2, hl252_3, hi252_3⟩ := at_T60 HR0_3.out a2 p252 q252
       have hw252_9 := hx252_9; have hw252_8 := hx252_8; have hw252_7 := hx252_7; have hw252_6 := hx252_6; have hw252_5 := hx252_5; have hw252_4 := hx252_4; have hw252_3 := hx252_3; have hw252_2 := hx252_2; have hw252_1 := hx252_1; have hw252_0 := hx252_0
       cases e252
       replace hx252_0 := Goto.kc HB.out hx252_0
       replace hx252_1 := Goto.kc HB.out hx252_1
       replace hx252_2 := Goto.kc HB.out hx252_2
       replace hx252_3 := Goto.kc HB.out hx252_3
       replace hx252_4 := Goto.kc HB.out hx252_4
       replace hx252_5 := Goto.kc HB.out hx252_5
       replace hx252_6 := Goto.kc HB.out hx252_6
       replace hx252_7 := Goto.kc HB.out hx252_7
       replace hx252_8 := Goto.kc HB.out hx252_8
       replace hx252_9 := Goto.kc HB.out hx252_9
       have HR252_2 := Goto.m0 hi252_2
       have HC252_2 := Goto.m0 hl252_2
       clear hi252_2 hl252_2
       have HR252_3 := Goto.m0 hi252_3
       have HC252_3 := Goto.m0 hl252_3
       clear hi252_3 hl252_3; replace p252 := eq_true p252; replace q252 := eq_true q252
       have p253 : 0 ≤ (a1 : Int) := Goto.od
       have q253 : a1 < (l0_3.length : Int) := Goto.od
       obtain ⟨ad253, A253_2, c253_2, A253_3, c253_3, e253, hx253_0, hx253_1, hx253_2, hx253_3, hx253_4, hx253_5, hx253_6, hx253_7, hx253_8, hx253_9, hl253_2, hi253_2, hl253_3, hi253_3⟩ := at_T60 HR0_3.out a1 p253 q253
       have hw253_9 := hx253_9; have hw253_8 := hx253_8; have hw253_7 := hx253_7; have hw253_6 := hx253_6; have hw253_5 := hx253_5; have hw253_4 := hx253_4; have hw253_3 := hx253_3; have hw253_2 := hx253_2; have hw253_1 := hx253_1; have hw253_0 := hx253_0
       obtain rfl : ad252 = ad253 := (by injection e253)
       replace hx253_0 := Goto.kc HB.out hx253_0
       replace hx253_1 := Goto.kc HB.out hx253_1
       replace hx253_2 := Goto.kc HB.out hx253_2
       replace hx253_3 := Goto.kc HB.out hx253_3
       replace hx253_4 := Goto.kc HB.out hx253_4
       replace hx253_5 := Goto.kc HB.out hx253_5
       replace hx253_6 := Goto.kc HB.out hx253_6
       replace hx253_7 := Goto.kc HB.out hx253_7
       replace hx253_8 := Goto.kc HB.out hx253_8
       replace hx253_9 := Goto.kc HB.out hx253_9
       have HR253_2 := Goto.m0 hi253_2
       have HC253_2 := Goto.m0 hl253_2
       clear hi253_2 hl253_2
       have HR253_3 := Goto.m0 hi253_3
       have HC253_3 := Goto.m0 hl253_3
       clear hi253_3 hl253_3; replace p253 := eq_true p253; replace q253 := eq_true q253
       refine start_ (n := 14) (S := fun w' => w'.cell? ⟨gb250, 0, none⟩ = some (.int .i64 a0_0) ∧ w'.cell? ⟨gb250, 1, none⟩ = some (.int .i64 a0_1) ∧ w'.cell? ⟨gb250, 2, none⟩ = some (.slice A0_2 l0_2.length c0_2) ∧ w'.cell? ⟨gb250, 3, none⟩ = some (.slice (some ad252) l0_3.length c0_3) ∧ w'.cell? (ad252.add ((a2).toNat * 10)) = some (.int .i64 ((rd_T60 l0_3 a2).f0.f0)) ∧ w'.cell? ⟨(ad252.add ((a2).toNat * 10)).block, (ad252.add ((a2).toNat * 10)).off + 1, none⟩ = some (.int .u64 ((rd_T60 l0_3 a2).f0.f1)) ∧ w'.cell? ⟨(ad252.add ((a2).toNat * 10)).block, (ad252.add ((a2).toNat * 10)).off + 2, none⟩ = some (.slice A252_2 ((rd_T60 l0_3 a2).f1).length c252_2) ∧ w'.cell? ⟨(ad252.add ((a2).toNat * 10)).block, (ad252.add ((a2).toNat * 10)).off + 3, none⟩ = some (.slice A252_3 ((rd_T60 l0_3 a2).f2).length c252_3) ∧ w'.cell? ⟨(ad252.add ((a2).toNat * 10)).block, (ad252.add ((a2).toNat * 10)).off + 4, none⟩ = some (.int .i64 ((rd_T60 l0_3 a2).f3)) ∧ w'.cell? ⟨(ad252.add ((a2).toNat * 10)).block, (ad252.add ((a2).toNat * 10)).off + 5, none⟩ = some (.int .i64 ((rd_T60 l0_3 a2).f4)) ∧ w'.cell? ⟨(ad252.add ((a2).toNat * 10)).block, (ad252.add ((a2).toNat * 10)).off + 6, none⟩ = some (.int .i64 ((rd_T60 l0_3 a2).f5)) ∧ w'.cell? ⟨(ad252.add ((a2).toNat * 10)).block, (ad252.add ((a2).toNat * 10)).off + 7, none⟩ = some (.int .i64 ((rd_T60 l0_3 a2).f6)) ∧ w'.cell? ⟨(ad252.add ((a2).toNat * 10)).block, (ad252.add ((a2).toNat * 10)).off + 8, none⟩ = some (.int .i64 ((rd_T60 l0_3 a2).f7)) ∧ w'.cell? ⟨(ad252.add ((a2).toNat * 10)).block, (ad252.add ((a2).toNat * 10)).off + 9, none⟩ = some (.int .i64 ((rd_T60 l0_3 a2).f8)) ∧ w'.cell? (ad252.add ((a1).toNat * 10)) = some (.int .i64 ((rd_T60 l0_3 a1).f0.f0)) ∧ w'.cell? ⟨(ad252.add ((a1).toNat * 10)).block, (ad252.add ((a1).toNat * 10)).off + 1, none⟩ = some (.int .u64 ((rd_T60 l0_3 a1).f0.f1)) ∧ w'.cell? ⟨(ad252.add ((a1).toNat * 10)).block, (ad252.add ((a1).toNat * 10)).off + 2, none⟩ = some (.slice A253_2 ((rd_T60 l0_3 a1).f1).length c253_2) ∧ w'.cell? ⟨(ad252.add ((a1).toNat * 10)).block, (ad252.add ((a1).toNat * 10)).off + 3, none⟩ = some (.slice A253_3 ((rd_T60 l0_3 a1).f2).length c253_3) ∧ w'.cell? ⟨(ad252.add ((a1).toNat * 10)).block, (ad252.add ((a1).toNat * 10)).off + 4, none⟩ = some (.int .i64 ((rd_T60 l0_3 a1).f3)) ∧ w'.cell? ⟨(ad252.add ((a1).toNat * 10)).block, (ad252.add ((a1).toNat * 10)).off + 5, none⟩ = some (.int .i64 ((rd_T60 l0_3 a1).f4)) ∧ w'.cell? ⟨(ad252.add ((a1).toNat * 10)).block, (ad252.add ((a1).toNat * 10)).off + 6, none⟩ = some (.int .i64 ((rd_T60 l0_3 a1).f5)) ∧ w'.cell? ⟨(ad252.add ((a1).toNat * 10)).block, (ad252.add ((a1).toNat * 10)).off + 7, none⟩ = some (.int .i64 ((rd_T60 l0_3 a1).f6)) ∧ w'.cell? ⟨(ad252.add ((a1).toNat * 10)).block, (ad252.add ((a1).toNat * 10)).off + 8, none⟩ = some (.int .i64 ((rd_T60 l0_3 a1).f7)) ∧ w'.cell? ⟨(ad252.add ((a1).toNat * 10)).block, (ad252.add ((a1).toNat * 10)).off + 9, none⟩ = some (.int .i64 ((rd_T60 l0_3 a1).f8))) (ds := []) (.replicate 14 false) (by kernel_rfl) rfl rfl ⟨(blk_cell BK250.out 0).trans rfl, (blk_cell BK250.out 1).trans rfl, (blk_cell BK250.out 2).trans rfl, (blk_cell BK250.out 3).trans rfl, (Goto.kc HB.out hw252_0), (Goto.kc HB.out hw252_1), (Goto.kc HB.out hw252_2), (Goto.kc HB.out hw252_3), (Goto.kc HB.out hw252_4), (Goto.kc HB.out hw252_5), (Goto.kc HB.out hw252_6), (Goto.kc HB.out hw252_7), (Goto.kc HB.out hw252_8), (Goto.kc HB.out hw252_9), (Goto.kc HB.out hw253_0), (Goto.kc HB.out hw253_1), (Goto.kc HB.out hw253_2), (Goto.kc HB.out hw253_3), (Goto.kc HB.out hw253_4), (Goto.kc HB.out hw253_5), (Goto.kc HB.out hw253_6), (Goto.kc HB.out hw253_7), (Goto.kc HB.out hw253_8), (Goto.kc HB.out hw253_9)⟩ (fun hHeld => ?_); refine with_tabW tontineref15_Read.tab3 tontineref15_Read.bits3 (fun HT_ HW_ => ?_)
       generalize w19.drew = w20 at BK250 HB HR252_2 HR252_3 HR253_2 HR253_3 hx252_0 hx252_1 hx252_2 hx252_3 hx252_4 hx252_5 hx252_6 hx252_7 hx252_8 hx252_9 hx253_0 hx253_1 hx253_2 hx253_3 hx253_4 hx253_5 hx253_6 hx253_7 hx253_8 hx253_9 hHeld ⊢
       refine Goto.pu 0 11 14 1 ?_
       refine Goto.pu 2 13 14 5 ?_
       refine Goto.pu 6 17 14 69 ?_
       refine Goto.pu 8 19 14 325 ?_
       refine take_ (i := 1) (N := some 12) (v := ?_) (a' := ?_) (Goto.bs 14 327) rfl rfl (take_ofW HT_.out HW_.out (by kernel_rfl)) (fun _ _ _ h => h) (Or.inl ⟨by rfl, ?_⟩) hHeld ?_ ?_
       rotate_left
       ·
        rintro w' ⟨s0, s1, s2, s3, s4, s5, s6, s7, s8, s9, s10, s11, s12, s13, s14, s15, s16, s17, s18, s19, s20, s21, s22, s23⟩
        go_simp
        with_reducible rfl
       rotate_left
       ·
        exact Goto.ap
       refine Goto.pu 3 14 14 335 ?_
       refine Goto.pu 4 15 14 351 ?_
       refine take_ (i := 5) (N := some 16) (v := ?_) (a' := ?_) (Goto.bs 14 383) rfl rfl (take_ofW HT_.out HW_.out (by kernel_rfl)) (fun _ _ _ h => h) (Or.inl ⟨by rfl, ?_⟩) hHeld ?_ ?_
       rotate_left
       ·
        rintro w' ⟨s0, s1, s2, s3, s4, s5, s6, s7, s8, s9, s10, s11, s12, s13, s14, s15, s16, s17, s18, s19, s20, s21, s22, s23⟩
        go_simp
        with_reducible rfl
       rotate_left
       ·
        exact Goto.ap
       refine take_ (i := 7) (N := some 18) (v := ?_) (a' := ?_) (Goto.bs 14 511) rfl rfl (take_ofW HT_.out HW_.out (by kernel_rfl)) (fun _ _ _ h => h) (Or.inl ⟨by rfl, ?_⟩) hHeld ?_ ?_
       rotate_left
       ·
        rintro w' ⟨s0, s1, s2, s3, s4, s5, s6, s7, s8, s9, s10, s11, s12, s13, s14, s15, s16, s17, s18, s19, s20, s21, s22, s23⟩
        go_simp
        with_reducible rfl
       rotate_left
       ·
        exact Goto.ap
       refine Goto.pu 9 20 14 1023 ?_
       refine Goto.pu 10 21 14 2047 ?_
       refine take_ (i := 11) (N := some 22) (v := ?_) (a' := ?_) (Goto.bs 14 4095) rfl rfl (take_ofW HT_.out HW_.out (by kernel_rfl)) (fun _ _ _ h => h) (Or.inl ⟨by rfl, ?_⟩) hHeld ?_ ?_
       rotate_left
       ·
        rintro w' ⟨s0, s1, s2, s3, s4, s5, s6, s7, s8, s9, s10, s11, s12, s13, s14, s15, s16, s17, s18, s19, s20, s21, s22, s23⟩
        go_simp
        with_reducible rfl
       rotate_left
       ·
        exact Goto.ap
       refine one_ (i := 12) (N := some 23) (Goto.bs 14 8191) rfl rfl (one_of HT_.out (by kernel_rfl)) (by decide) (fun K hK => ?_)
       refine goes_ Tryd.func39 (by kernel_rfl) rfl #[.agg #[.int .i64 ((rd_T60 l0_3 a2).f0.f0), .int .u64 ((rd_T60 l0_3 a2).f0.f1)], .agg #[.int .i64 ((rd_T60 l0_3 a1).f0.f0), .int .u64 ((rd_T60 l0_3 a1).f0.f1)]] (by rfl) rfl rfl (by (try simp only [List.map_toArray, List.map_cons, List.map_nil]); first | done | rfl | (simp only [List.length_drop, List.length_take]; rfl)) ?_
       with_reducible refine (tontineref1_Leq.calls ((rd_T60 l0_3 a2).f0.f0) ((rd_T60 l0_3 a2).f0.f1) ((rd_T60 l0_3 a1).f0.f0) ((rd_T60 l0_3 a1).f0.f1) false _ A10.out).mono ?_
       rintro e w21 ⟨rfl, hb⟩
       refine ⟨_, rfl, ?_⟩
       replace BK250 := Goto.bb BK250 hb; replace HB := Goto.hs HB hb
       (try clear hb)
       (try clear hb2)
       (try clear hk)
       (try clear hi)
       refine hK.out _ _ ⟨(blk_cell BK250.out 0).trans rfl, (blk_cell BK250.out 1).trans rfl, (blk_cell BK250.out 2).trans rfl, (blk_cell BK250.out 3).trans rfl, (Goto.kc HB.out hw252_0), (Goto.kc HB.out hw252_1), (Goto.kc HB.out hw252_2), (Goto.kc HB.out hw252_3), (Goto.kc HB.out hw252_4), (Goto.kc HB.out hw252_5), (Goto.kc HB.out hw252_6), (Goto.kc HB.out hw252_7), (Goto.kc HB.out hw252_8), (Goto.kc HB.out hw252_9), (Goto.kc HB.out hw253_0), (Goto.kc HB.out hw253_1), (Goto.kc HB.out hw253_2), (Goto.kc HB.out hw253_3), (Goto.kc HB.out hw253_4), (Goto.kc HB.out hw253_5), (Goto.kc HB.out hw253_6), (Goto.kc HB.out hw253_7), (Goto.kc HB.out hw253_8), (Goto.kc HB.out hw253_9)⟩ (fun hHeld => ?_)
       clear hK K
       refine norm_ (a' := ?_) ?_ ?_
       rotate_left
       ·
        show Act.put _ (some 23) _ = _
        exact Goto.ap
       refine Goto.pu 13 24 14 16383 ?_
       refine done_ (done_of HT_.out (by kernel_rfl)) ?_
       try go_wp2
       go_ret
       exact ⟨Goto.er, by repeat (first | (with_reducible first | exact HB.out | apply below_alloc | apply pw_below_drewN | apply below_drew1 | refine below_set ?_ GE250.out) | exact HB.out)⟩
     ·
      rw [if_neg c9] at H
      exact absurd H (by simp)
    ·
     rw [if_neg c8] at H
     exact absurd H (by simp)
   ·
    rw [if_neg c7] at H
    exact absurd H (by simp)
  ·
   rw [if_neg c6] at H
   exact absurd H (by simp)
 ·
  replace c5 := Bool.eq_false_iff.mpr c5
  subst c5
  rw [if_neg (show ¬ (false = true) by decide)] at H
  obtain rfl := Option.some.inj H
  go_enter Tryd.func10, Tryd.ntmps10
  go_wp2_with (first | ((with_reducible refine gate_dst (N := 3) rfl ?_); refine box_event ?hg (N := 3) ?hd (cs := #[.int .i64 a0_0, .int .i64 a0_1, .slice A0_2 l0_2.length c0_2, .slice A0_3 l0_3.length c0_3]) (t := 25) ?hr ?_; (case hd => rfl); (case hg => rfl); (case hr => first | (go_simp; done) | (go_simp; rfl)); intro gb250 hg w22 hbox hb; have BK250 := Goto.m0 (hbox); have GW250 := Goto.gs HB hg; have GE250 := Goto.gs HB hg; replace HB := Goto.hs HB hb; clear hb hbox hg; have hcz23_0 := Goto.bc0 BK250; have hcz23_1 := Goto.bc1 BK250; have hcz23_2 := Goto.bc2 BK250; have hcz23_3 := Goto.bc3 BK250; have hfz23_0 := Goto.bf BK250 0; have hfz23_1 := Goto.bf BK250 1; have hfz23_2 := Goto.bf BK250 2; have hfz23_3 := Goto.bf BK250 3) | ((with_reducible refine gate_callee (f := 38) rfl ?_); refine goesL_ (some 9) rfl rfl Tryd.func38 (by kernel_rfl) rfl #[.agg #[.int .i64 a0_0, .int .i64 a0_1, .slice A0_2 l0_2.length c0_2, .slice A0_3 l0_3.length c0_3], .int .i64 a2] rfl (by (try simp only [List.map_toArray, List.map_cons, List.map_nil]); first | done | rfl | (simp only [List.length_drop, List.length_take]; rfl)) ?_; (with_reducible refine (tontineref15_is.calls a0_0 a0_1 _ _ l0_2 _ _ l0_3 a2 false _ ?side1 ?side2 ?side3 ?side4 A4.out).mono ?_); (case side1 => repeat (first | exact (Kd.C_below HR0_2.out HB.out) | (with_reducible refine Kd.C_alloc ?_ _) | (with_reducible refine Kd.C_drewN ?_ _) | (with_reducible refine Kd.C_drew ?_))); (case side2 => exact HC0_2.out); (case side3 => repeat (first | exact (Kd.C_below HR0_3.out HB.out) | (with_reducible refine Kd.C_alloc ?_ _) | (with_reducible refine Kd.C_drewN ?_ _) | (with_reducible refine Kd.C_drew ?_))); (case side4 => exact HC0_3.out); rintro e w24 ⟨rfl, hb⟩; refine ⟨_, rfl, ?_⟩; replace BK250 := Goto.bb BK250 hb; replace HB := Goto.hs HB hb; (try clear hb); (try clear hb2); (try clear hk); (try clear hi)))
  go_ret
  exact ⟨Goto.er, by repeat (first | (with_reducible first | exact HB.out | apply below_alloc | apply pw_below_drewN | apply below_drew1 | refine below_set ?_ GE250.out) | exact HB.out)⟩

end Go.Proofs.YtbhfkhcedjgpdaaDoor.P
