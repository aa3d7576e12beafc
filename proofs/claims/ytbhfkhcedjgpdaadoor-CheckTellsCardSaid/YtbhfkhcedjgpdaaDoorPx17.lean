/- Printed by a program of this workplace (a turned copy of the kit's optional print), out of the translation; not trusted: Lean checks it. -/
import Derived.Test.YtbhfkhcedjgpdaaDoorPx0
import Derived.Test.YtbhfkhcedjgpdaaDoorPx10
namespace Go.Proofs.YtbhfkhcedjgpdaaDoor.P
open Go.RowKit Go.Proofs.YtbhfkhcedjgpdaaDoorW.PrintWords Go.Proofs.YtbhfkhcedjgpdaaDoorW.PrintLast Go.Proofs.YtbhfkhcedjgpdaaDoorW.PrintMore
attribute [local go_sem] max2_int min2_int max_two min_two max_three min_three max_four min_four   -- for this text's walks alone
set_option linter.unusedVariables false
set_option linter.unusedSimpArgs false

/-! ### tontineref15_Plan: function 14 -/
def tontineref15_Plan.l0 : Nat → Int → Int → Int → Int → Int → List (List Int) → List (S60) → Option (Int)
  | 0, _, _, _, _, _, _, _ => none
  | k + 1, x1, x2, x7, x261000, x261001, x261002, x261003 => if x7 < (x261003.length : Int) then (if 0 ≤ x1 then (if x1 < (x261003.length : Int) then (if 0 ≤ x7 then ((tontineref1_Leq.f ((rd_T60 x261003 x1).f0.f0) ((rd_T60 x261003 x1).f0.f1) ((rd_T60 x261003 x7).f0.f0) ((rd_T60 x261003 x7).f0.f1)).bind fun t263 => (if t263 = true then (tontineref15_Plan.l0 k x1 x2 (wrap64 (x7 + 1)) x261000 x261001 x261002 x261003) else (some 15))) else (none)) else (none)) else (none)) else (if x2 < 0 then (some 10) else (if x2 ≥ (x261002.length : Int) then (some 10) else (some 0)))
def tontineref15_Plan.f (k : Nat) (a0_0 : Int) (a0_1 : Int) (l0_2 : List (List Int)) (l0_3 : List (S60)) (a1 : Int) (a2 : Int) : Option (Int) := tontineref15_Plan.l0 k a1 a2 0 a0_0 a0_1 l0_2 l0_3
theorem tontineref15_Plan.mono_l : ∀ k, (∀ y0 y1 y2 y3 y4 y5 y6, LeO (tontineref15_Plan.l0 k y0 y1 y2 y3 y4 y5 y6) (tontineref15_Plan.l0 (k + 1) y0 y1 y2 y3 y4 y5 y6))
  | 0 => fun _ _ _ _ _ _ _ r h => by simp [tontineref15_Plan.l0] at h
  | k + 1 => by
    have ih0 := tontineref15_Plan.mono_l k
    · intro y0 y1 y2 y3 y4 y5 y6
      unfold tontineref15_Plan.l0
      repeat' first
      | (with_reducible exact ih0 _ _ _ _ _ _ _)
      | (with_reducible exact LeO.refl _)
      | (with_reducible exact LeO.none _)
      | (with_reducible refine LeO.ite ?_ ?_)
      | (with_reducible refine LeO.bind ?_ (fun _ => ?_))
      | exact ih0 _ _ _ _ _ _ _
      | exact LeO.none _
      | refine LeO.ite ?_ ?_
      | refine LeO.bind ?_ (fun _ => ?_)
theorem tontineref15_Plan.mono : ∀ a0 a1 a2 a3 a4 a5 k, LeO (tontineref15_Plan.f k a0 a1 a2 a3 a4 a5) (tontineref15_Plan.f (k + 1) a0 a1 a2 a3 a4 a5) := by
 intro a0 a1 a2 a3 a4 a5 k
 have ih0 := tontineref15_Plan.mono_l k
 unfold tontineref15_Plan.f
 repeat' first
   | (with_reducible exact ih0 _ _ _ _ _ _ _)
   | (with_reducible exact LeO.refl _)
   | (with_reducible exact LeO.none _)
   | (with_reducible refine LeO.ite ?_ ?_)
   | (with_reducible refine LeO.bind ?_ (fun _ => ?_))
   | exact ih0 _ _ _ _ _ _ _
   | exact LeO.none _
   | refine LeO.ite ?_ ?_
   | refine LeO.bind ?_ (fun _ => ?_)
def tontineref15_Plan.T4 : Bool × List (List Nat × List Nat) := (true, [([], []), ([0], [0]), ([], []), ([1, 2], [1, 2]), ([3], [3]), ([4], [4]), ([], []), ([6], [6]), ([], []), ([7, 8], [7, 8]), ([9], [9]), ([10], [10]), ([5, 11], [5, 11]), ([12], [12])])
def tontineref15_Plan.B4 : List Nat := [0, 1, 0, 7, 15, 31, 0, 64, 0, 448, 960, 1984, 4095, 8191]
theorem tontineref15_Plan.tab4 : rtab .any (opsOf Tryd.f14 4) = tontineref15_Plan.T4 := by kernel_rfl
theorem tontineref15_Plan.bits4 : waitsOk tontineref15_Plan.T4.2 tontineref15_Plan.B4 = true := by kernel_rfl
set_option maxHeartbeats 8000000 in
set_option maxRecDepth 100000 in
theorem tontineref15_Plan.calls (k : Nat) (a0_0 : Int) (a0_1 : Int) (A0_2 : Option Addr) (c0_2 : Nat) (l0_2 : List (List Int)) (A0_3 : Option Addr) (c0_3 : Nat) (l0_3 : List (S60)) (a1 : Int) (a2 : Int) (r : Int) (w : World) (hr0_2 : Kd.C (Kd.slice 3 (Kd.int .i64)) w A0_2 l0_2.length l0_2) (hc0_2 : l0_2.length ≤ c0_2) (hr0_3 : Kd.C k60 w A0_3 l0_3.length l0_3) (hc0_3 : l0_3.length ≤ c0_3) (h : tontineref15_Plan.f k a0_0 a0_1 l0_2 l0_3 a1 a2 = some r) :
    Calls Tryd.prog 14 #[.agg #[.int .i64 a0_0, .int .i64 a0_1, .slice A0_2 l0_2.length c0_2, .slice A0_3 l0_3.length c0_3], .int .i64 a1, .int .i64 a2] w fun e w' => e = .returned (.int .i64 r) ∧ Below w.heap.size w w' := by
 have hu25 := Tryd.underlying25; have hu58 := Tryd.underlying58
 have HR0_2 := Goto.m0 hr0_2
 have HC0_2 := Goto.m0 hc0_2
 clear hr0_2 hc0_2
 have HR0_3 := Goto.m0 hr0_3
 have HC0_3 := Goto.m0 hc0_3
 clear hr0_3 hc0_3
 have HB := Goto.m0 (Below.refl w.heap.size w)
 have H : (tontineref15_Plan.l0 k a1 a2 0 a0_0 a0_1 l0_2 l0_3) = some r := h
 clear h
 have H' := Goto.m0 H
 clear H
 go_enter Tryd.func14, Tryd.ntmps14
 go_wp2_with (first | ((with_reducible refine gate_dst (N := 3) rfl ?_); (try (refine gate_guard (by rfl) ?_; dsimp only)); refine box_event ?hg (N := 3) ?hd (cs := #[.int .i64 a0_0, .int .i64 a0_1, .slice A0_2 l0_2.length c0_2, .slice A0_3 l0_3.length c0_3]) (t := 25) ?hr ?_; (case hd => rfl); (case hg => rfl); (case hr => first | (go_simp; done) | (go_simp; rfl)); intro gb260 hg w4 hbox hb; have BK260 := Goto.m0 (hbox); have GW260 := Goto.gs HB hg; have GE260 := Goto.gs HB hg; replace HB := Goto.hs HB hb; clear hb hbox hg))
 go_loopg [7] k (fun kq v7 w' => ∃ (x7_1 : Int), v7 = .int .i64 x7_1 ∧ Aside0 (tontineref15_Plan.l0 kq a1 a2 x7_1 a0_0 a0_1 l0_2 l0_3 = some r) ∧ Aside0 (kq ≤ k) ∧ Aside0 (w'.heap[gb260]? = some (.cells #[.int .i64 a0_0, .int .i64 a0_1, (.slice A0_2 l0_2.length c0_2), (.slice A0_3 l0_3.length c0_3)] 25 (0, 0))) ∧ Aside0 (Below w.heap.size w w'))
 case atStart => exact ⟨(0), (by first | rfl | (simp; done) | (simp [*]; done)), H', ⟨Nat.le_refl _⟩, ⟨Goto.bx BK260⟩, ⟨Goto.hx HB⟩⟩
 case round =>
  clear H'
  try clear c1; try clear p2
  obtain ⟨x7_1, rfl, HA, HK1, BK260, HB⟩ := hrel
  cases gk with
  | zero => exact absurd HA.out (by simp [tontineref15_Plan.l0])
  | succ k1 =>
   have H := HA.out; clear HA
   simp only [tontineref15_Plan.l0] at H
   by_cases c5 : x7_1 < (l0_3.length : Int)
   ·
    rw [if_pos c5] at H
    have c5b0 : decide (x7_1 < (l0_3.length : Int)) = true := decide_eq_true c5
    clear c5
    by_cases c6 : 0 ≤ a1
    ·
     rw [if_pos c6] at H
     have c6b0 : decide (0 ≤ a1) = true := decide_eq_true c6
     clear c6
     by_cases c7 : a1 < (l0_3.length : Int)
     ·
      rw [if_pos c7] at H
      have c7b0 : decide (a1 < (l0_3.length : Int)) = true := decide_eq_true c7
      clear c7
      by_cases c8 : 0 ≤ x7_1
      ·
       rw [if_pos c8] at H
       have c8b0 : decide (0 ≤ x7_1) = true := decide_eq_true c8
       clear c8
       replace H := Option.bind_eq_some_iff.mp H
       obtain ⟨t263, A90, H⟩ := H
       have A9 := Goto.m0 A90
       clear A90
       by_cases c10 : t263 = true
       ·
        subst c10
        rw [if_pos rfl] at H
        have H' := Goto.m0 H
        clear H; have hcz11_0 := Goto.bc0 BK260; have hcz11_1 := Goto.bc1 BK260; have hcz11_2 := Goto.bc2 BK260; have hcz11_3 := Goto.bc3 BK260; have hfz11_0 := Goto.bf BK260 0; have hfz11_1 := Goto.bf BK260 1; have hfz11_2 := Goto.bf BK260 2; have hfz11_3 := Goto.bf BK260 3
        try go_wp2
        replace BK260 := Goto.m0 (blk_drew BK260.out); replace HB := Goto.m0 (below_drew1 HB.out)
        have p261 : 0 ≤ (a1 : Int) := Goto.od
        have q261 : a1 < (l0_3.length : Int) := Goto.od
        obtain ⟨ad261, A261_2, c261_2, A261_3, c261_3, e261, hx261_0, hx261_1, hx261_2, hx261_3, hx261_4, hx261_5, hx261_6, hx261_7, hx261_8, hx261_9, hl261_2, hi261_2, hl261_3, hi261_3⟩ := at_T60 HR0_3.out a1 p261 q261
        have hw261_9 := hx261_9; have hw261_8 := hx261_8; have hw261_7 := hx261_7; have hw261_6 := hx261_6; have hw261_5 := hx261_5; have hw261_4 := hx261_4; have hw261_3 := hx261_3; have hw261_2 := hx261_2; have hw261_1 := hx261_1; have hw261_0 := hx261_0
        cases e261
        replace hx261_0 := Goto.kc HB.out hx261_0
        replace hx261_1 := Goto.kc HB.out hx261_1
        replace hx261_2 := Goto.kc HB.out hx261_2
        replace hx261_3 := Goto.kc HB.out hx261_3
        replace hx261_4 := Goto.kc HB.out hx261_4
        replace hx261_5 := Goto.kc HB.out hx261_5
        replace hx261_6 := Goto.kc HB.out hx261_6
        replace hx261_7 := Goto.kc HB.out hx261_7
        replace hx261_8 := Goto.kc HB.out hx261_8
        replace hx261_9 := Goto.kc HB.out hx261_9
        have HR261_2 := Goto.m0 hi261_2
        have HC261_2 := Goto.m0 hl261_2
        clear hi261_2 hl261_2
        have HR261_3 := Goto.m0 hi261_3
        have HC261_3 := Goto.m0 hl261_3
        clear hi261_3 hl261_3; replace p261 := eq_true p261; replace q261 := eq_true q261
        have p262 : 0 ≤ (x7_1 : Int) := Goto.od
        have q262 : x7_1 < (l0_3.length : Int) := Goto.od
        obtain ⟨ad262, A262_2, c262_2, A262_3, c262_3, e262, hx262_0, hx262_1, hx262_2, hx262_3, hx262_4, hx262_5, hx262_6, hx262_7, hx262_8, hx262_9, hl262_2, hi262_2, hl262_3, hi262_3⟩ := at_T60 HR0_3.out x7_1 p262 q262
        have hw262_9 := hx262_9; have hw262_8 := hx262_8; have hw262_7 := hx262_7; have hw262_6 := hx262_6; have hw262_5 := hx262_5; have hw262_4 := hx262_4; have hw262_3 := hx262_3; have hw262_2 := hx262_2; have hw262_1 := hx262_1; have hw262_0 := hx262_0
        obtain rfl : ad261 = ad262 := (by injection e262)
        replace hx262_0 := Goto.kc HB.out hx262_0
        replace hx262_1 := Goto.kc HB.out hx262_1
        replace hx262_2 := Goto.kc HB.out hx262_2
        replace hx262_3 := Goto.kc HB.out hx262_3
        replace hx262_4 := Goto.kc HB.out hx262_4
        replace hx262_5 := Goto.kc HB.out hx262_5
        replace hx262_6 := Goto.kc HB.out hx262_6
        replace hx262_7 := Goto.kc HB.out hx262_7
        replace hx262_8 := Goto.kc HB.out hx262_8
        replace hx262_9 := Goto.kc HB.out hx262_9
        have HR262_2 := Goto.m0 hi262_2
        have HC262_2 := Goto.m0 hl262_2
        clear hi262_2 hl262_2
        have HR262_3 := Goto.m0 hi262_3
        have HC262_3 := Goto.m0 hl262_3
        clear hi262_3 hl262_3; replace p262 := eq_true p262; replace q262 := eq_true q262
        refine start_ (n := 14) (S := fun w' => w'.cell? ⟨gb260, 0, none⟩ = some (.int .i64 a0_0) ∧ w'.cell? ⟨gb260, 1, none⟩ = some (.int .i64 a0_1) ∧ w'.cell? ⟨gb260, 2, none⟩ = some (.slice A0_2 l0_2.length c0_2) ∧ w'.cell? ⟨gb260, 3, none⟩ = some (.slice (some ad261) l0_3.length c0_3) ∧ w'.cell? (ad261.add ((a1).toNat * 10)) = some (.int .i64 ((rd_T60 l0_3 a1).f0.f0)) ∧ w'.cell? ⟨(ad261.add ((a1).toNat * 10)).block, (ad261.add ((a1).toNat * 10)).off + 1, none⟩ = some (.int .u64 ((rd_T60 l0_3 a1).f0.f1)) ∧ w'.cell? ⟨(ad261.add ((a1).toNat * 10)).block, (ad261.add ((a1).toNat * 10)).off + 2, none⟩ = some (.slice A261_2 ((rd_T60 l0_3 a1).f1).length c261_2) ∧ w'.cell? ⟨(ad261.add ((a1).toNat * 10)).block, (ad261.add ((a1).toNat * 10)).off + 3, none⟩ = some (.slice A261_3 ((rd_T60 l0_3 a1).f2).length c261_3) ∧ w'.cell? ⟨(ad261.add ((a1).toNat * 10)).block, (ad261.add ((a1).toNat * 10)).off + 4, none⟩ = some (.int .i64 ((rd_T60 l0_3 a1).f3)) ∧ w'.cell? ⟨(ad261.add ((a1).toNat * 10)).block, (ad261.add ((a1).toNat * 10)).off + 5, none⟩ = some (.int .i64 ((rd_T60 l0_3 a1).f4)) ∧ w'.cell? ⟨(ad261.add ((a1).toNat * 10)).block, (ad261.add ((a1).toNat * 10)).off + 6, none⟩ = some (.int .i64 ((rd_T60 l0_3 a1).f5)) ∧ w'.cell? ⟨(ad261.add ((a1).toNat * 10)).block, (ad261.add ((a1).toNat * 10)).off + 7, none⟩ = some (.int .i64 ((rd_T60 l0_3 a1).f6)) ∧ w'.cell? ⟨(ad261.add ((a1).toNat * 10)).block, (ad261.add ((a1).toNat * 10)).off + 8, none⟩ = some (.int .i64 ((rd_T60 l0_3 a1).f7)) ∧ w'.cell? ⟨(ad261.add ((a1).toNat * 10)).block, (ad261.add ((a1).toNat * 10)).off + 9, none⟩ = some (.int .i64 ((rd_T60 l0_3 a1).f8)) ∧ w'.cell? (ad261.add ((x7_1).toNat * 10)) = some (.int .i64 ((rd_T60 l0_3 x7_1).f0.f0)) ∧ w'.cell? ⟨(ad261.add ((x7_1).toNat * 10)).block, (ad261.add ((x7_1).toNat * 10)).off + 1, none⟩ = some (.int .u64 ((rd_T60 l0_3 x7_1).f0.f1)) ∧ w'.cell? ⟨(ad261.add ((x7_1).toNat * 10)).block, (ad261.add ((x7_1).toNat * 10)).off + 2, none⟩ = some (.slice A262_2 ((rd_T60 l0_3 x7_1).f1).length c262_2) ∧ w'.cell? ⟨(ad261.add ((x7_1).toNat * 10)).block, (ad261.add ((x7_1).toNat * 10)).off + 3, none⟩ = some (.slice A262_3 ((rd_T60 l0_3 x7_1).f2).length c262_3) ∧ w'.cell? ⟨(ad261.add ((x7_1).toNat * 10)).block, (ad261.add ((x7_1).toNat * 10)).off + 4, none⟩ = some (.int .i64 ((rd_T60 l0_3 x7_1).f3)) ∧ w'.cell? ⟨(ad261.add ((x7_1).toNat * 10)).block, (ad261.add ((x7_1).toNat * 10)).off + 5, none⟩ = some (.int .i64 ((rd_T60 l0_3 x7_1).f4)) ∧ w'.cell? ⟨(ad261.add ((x7_1).toNat * 10)).block, (ad261.add ((x7_1).toNat * 10)).off + 6, none⟩ = some (.int .i64 ((rd_T60 l0_3 x7_1).f5)) ∧ w'.cell? ⟨(ad261.add ((x7_1).toNat * 10)).block, (ad261.add ((x7_1).toNat * 10)).off + 7, none⟩ = some (.int .i64 ((rd_T60 l0_3 x7_1).f6)) ∧ w'.cell? ⟨(ad261.add ((x7_1).toNat * 10)).block, (ad261.add ((x7_1).toNat * 10)).off + 8, none⟩ = some (.int .i64 ((rd_T60 l0_3 x7_1).f7)) ∧ w'.cell? ⟨(ad261.add ((x7_1).toNat * 10)).block, (ad261.add ((x7_1).toNat * 10)).off + 9, none⟩ = some (.int .i64 ((rd_T60 l0_3 x7_1).f8))) (ds := []) (.replicate 14 false) (by kernel_rfl) rfl rfl ⟨(blk_cell BK260.out 0).trans rfl, (blk_cell BK260.out 1).trans rfl, (blk_cell BK260.out 2).trans rfl, (blk_cell BK260.out 3).trans rfl, (Goto.kc HB.out hw261_0), (Goto.kc HB.out hw261_1), (Goto.kc HB.out hw261_2), (Goto.kc HB.out hw261_3), (Goto.kc HB.out hw261_4), (Goto.kc HB.out hw261_5), (Goto.kc HB.out hw261_6), (Goto.kc HB.out hw261_7), (Goto.kc HB.out hw261_8), (Goto.kc HB.out hw261_9), (Goto.kc HB.out hw262_0), (Goto.kc HB.out hw262_1), (Goto.kc HB.out hw262_2), (Goto.kc HB.out hw262_3), (Goto.kc HB.out hw262_4), (Goto.kc HB.out hw262_5), (Goto.kc HB.out hw262_6), (Goto.kc HB.out hw262_7), (Goto.kc HB.out hw262_8), (Goto.kc HB.out hw262_9)⟩ (fun hHeld => ?_); refine with_tabW tontineref15_Plan.tab4 tontineref15_Plan.bits4 (fun HT_ HW_ => ?_)
        generalize wr.drew = w12 at BK260 HB HR261_2 HR261_3 HR262_2 HR262_3 hx261_0 hx261_1 hx261_2 hx261_3 hx261_4 hx261_5 hx261_6 hx261_7 hx261_8 hx261_9 hx262_0 hx262_1 hx262_2 hx262_3 hx262_4 hx262_5 hx262_6 hx262_7 hx262_8 hx262_9 hHeld ⊢
        refine Goto.pu 0 15 14 1 ?_
        refine Goto.pu 2 17 14 5 ?_
        refine Goto.pu 6 21 14 69 ?_
        refine Goto.pu 8 23 14 325 ?_
        refine take_ (i := 1) (N := some 16) (v := ?_) (a' := ?_) (Goto.bs 14 327) rfl rfl (take_ofW HT_.out HW_.out (by kernel_rfl)) (fun _ _ _ h => h) (Or.inl ⟨by rfl, ?_⟩) hHeld ?_ ?_
        rotate_left
        ·
         rintro w' ⟨s0, s1, s2, s3, s4, s5, s6, s7, s8, s9, s10, s11, s12, s13, s14, s15, s16, s17, s18, s19, s20, s21, s22, s23⟩
         go_simp
         with_reducible rfl
        rotate_left
        ·
         exact Goto.ap
        refine Goto.pu 3 18 14 335 ?_
        refine Goto.pu 4 19 14 351 ?_
        refine take_ (i := 5) (N := some 20) (v := ?_) (a' := ?_) (Goto.bs 14 383) rfl rfl (take_ofW HT_.out HW_.out (by kernel_rfl)) (fun _ _ _ h => h) (Or.inl ⟨by rfl, ?_⟩) hHeld ?_ ?_
        rotate_left
        ·
         rintro w' ⟨s0, s1, s2, s3, s4, s5, s6, s7, s8, s9, s10, s11, s12, s13, s14, s15, s16, s17, s18, s19, s20, s21, s22, s23⟩
         go_simp
         with_reducible rfl
        rotate_left
        ·
         exact Goto.ap
        refine take_ (i := 7) (N := some 22) (v := ?_) (a' := ?_) (Goto.bs 14 511) rfl rfl (take_ofW HT_.out HW_.out (by kernel_rfl)) (fun _ _ _ h => h) (Or.inl ⟨by rfl, ?_⟩) hHeld ?_ ?_
        rotate_left
        ·
         rintro w' ⟨s0, s1, s2, s3, s4, s5, s6, s7, s8, s9, s10, s11, s12, s13, s14, s15, s16, s17, s18, s19, s20, s21, s22, s23⟩
         go_simp
         with_reducible rfl
        rotate_left
        ·
         exact Goto.ap
        refine Goto.pu 9 24 14 1023 ?_
        refine Goto.pu 10 25 14 2047 ?_
        refine take_ (i := 11) (N := some 26) (v := ?_) (a' := ?_) (Goto.bs 14 4095) rfl rfl (take_ofW HT_.out HW_.out (by kernel_rfl)) (fun _ _ _ h => h) (Or.inl ⟨by rfl, ?_⟩) hHeld ?_ ?_
        rotate_left
        ·
         rintro w' ⟨s0, s1, s2, s3, s4, s5, s6, s7, s8, s9, s10, s11, s12, s13, s14, s15, s16, s17, s18, s19, s20, s21, s22, s23⟩
         go_simp
         with_reducible rfl
        rotate_left
        ·
         exact Goto.ap
        refine one_ (i := 12) (N := some 27) (Goto.bs 14 8191) rfl rfl (one_of HT_.out (by kernel_rfl)) (by decide) (fun K hK => ?_)
        refine goes_ Tryd.func39 (by kernel_rfl) rfl #[.agg #[.int .i64 ((rd_T60 l0_3 a1).f0.f0), .int .u64 ((rd_T60 l0_3 a1).f0.f1)], .agg #[.int .i64 ((rd_T60 l0_3 x7_1).f0.f0), .int .u64 ((rd_T60 l0_3 x7_1).f0.f1)]] (by rfl) rfl rfl (by (try simp only [List.map_toArray, List.map_cons, List.map_nil]); first | done | rfl | (simp only [List.length_drop, List.length_take]; rfl)) ?_
        with_reducible refine (tontineref1_Leq.calls ((rd_T60 l0_3 a1).f0.f0) ((rd_T60 l0_3 a1).f0.f1) ((rd_T60 l0_3 x7_1).f0.f0) ((rd_T60 l0_3 x7_1).f0.f1) true _ A9.out).mono ?_
        rintro e w13 ⟨rfl, hb⟩
        refine ⟨_, rfl, ?_⟩
        replace BK260 := Goto.bb BK260 hb; replace HB := Goto.hs HB hb
        (try clear hb)
        (try clear hb2)
        (try clear hk)
        (try clear hi)
        refine hK.out _ _ ⟨(blk_cell BK260.out 0).trans rfl, (blk_cell BK260.out 1).trans rfl, (blk_cell BK260.out 2).trans rfl, (blk_cell BK260.out 3).trans rfl, (Goto.kc HB.out hw261_0), (Goto.kc HB.out hw261_1), (Goto.kc HB.out hw261_2), (Goto.kc HB.out hw261_3), (Goto.kc HB.out hw261_4), (Goto.kc HB.out hw261_5), (Goto.kc HB.out hw261_6), (Goto.kc HB.out hw261_7), (Goto.kc HB.out hw261_8), (Goto.kc HB.out hw261_9), (Goto.kc HB.out hw262_0), (Goto.kc HB.out hw262_1), (Goto.kc HB.out hw262_2), (Goto.kc HB.out hw262_3), (Goto.kc HB.out hw262_4), (Goto.kc HB.out hw262_5), (Goto.kc HB.out hw262_6), (Goto.kc HB.out hw262_7), (Goto.kc HB.out hw262_8), (Goto.kc HB.out hw262_9)⟩ (fun hHeld => ?_)
        clear hK K
        refine norm_ (a' := ?_) ?_ ?_
        rotate_left
        ·
         show Act.put _ (some 27) _ = _
         exact Goto.ap
        refine Goto.pu 13 28 14 16383 ?_
        refine done_ (done_of HT_.out (by kernel_rfl)) ?_
        try go_wp2
        go_roundg k1
        case measure => have := HK1.out; omega
        case rel => exact ⟨(wrap64 (x7_1 + 1)), (by first | rfl | (simp; done) | (simp [*]; done)), H', ⟨by have := HK1.out; omega⟩, ⟨Goto.bx BK260⟩, ⟨Goto.hx HB⟩⟩
       ·
        replace c10 := Bool.eq_false_iff.mpr c10
        subst c10
        rw [if_neg (show ¬ (false = true) by decide)] at H
        obtain rfl := Option.some.inj H
        have hcz14_0 := Goto.bc0 BK260; have hcz14_1 := Goto.bc1 BK260; have hcz14_2 := Goto.bc2 BK260; have hcz14_3 := Goto.bc3 BK260; have hfz14_0 := Goto.bf BK260 0; have hfz14_1 := Goto.bf BK260 1; have hfz14_2 := Goto.bf BK260 2; have hfz14_3 := Goto.bf BK260 3
        try go_wp2
        replace BK260 := Goto.m0 (blk_drew BK260.out); replace HB := Goto.m0 (below_drew1 HB.out)
        have p261 : 0 ≤ (a1 : Int) := Goto.od
        have q261 : a1 < (l0_3.length : Int) := Goto.od
        obtain ⟨ad261, A261_2, c261_2, A261_3, c261_3, e261, hx261_0, hx261_1, hx261_2, hx261_3, hx261_4, hx261_5, hx261_6, hx261_7, hx261_8, hx261_9, hl261_2, hi261_2, hl261_3, hi261_3⟩ := at_T60 HR0_3.out a1 p261 q261
        have hw261_9 := hx261_9; have hw261_8 := hx261_8; have hw261_7 := hx261_7; have hw261_6 := hx261_6; have hw261_5 := hx261_5; have hw261_4 := hx261_4; have hw261_3 := hx261_3; have hw261_2 := hx261_2; have hw261_1 := hx261_1; have hw261_0 := hx261_0
        cases e261
        replace hx261_0 := Goto.kc HB.out hx261_0
        replace hx261_1 := Goto.kc HB.out hx261_1
        replace hx261_2 := Goto.kc HB.out hx261_2
        replace hx261_3 := Goto.kc HB.out hx261_3
        replace hx261_4 := Goto.kc HB.out hx261_4
        replace hx261_5 := Goto.kc HB.out hx261_5
        replace hx261_6 := Goto.kc HB.out hx261_6
        replace hx261_7 := Goto.kc HB.out hx261_7
        replace hx261_8 := Goto.kc HB.out hx261_8
        replace hx261_9 := Goto.kc HB.out hx261_9
        have HR261_2 := Goto.m0 hi261_2
        have HC261_2 := Goto.m0 hl261_2
        clear hi261_2 hl261_2
        have HR261_3 := Goto.m0 hi261_3
        have HC261_3 := Goto.m0 hl261_3
        clear hi261_3 hl261_3; replace p261 := eq_true p261; replace q261 := eq_true q261
        have p262 : 0 ≤ (x7_1 : Int) := Goto.od
        have q262 : x7_1 < (l0_3.length : Int) := Goto.od
        obtain ⟨ad262, A262_2, c262_2, A262_3, c262_3, e262, hx262_0, hx262_1, hx262_2, hx262_3, hx262_4, hx262_5, hx262_6, hx262_7, hx262_8, hx262_9, hl262_2, hi262_2, hl262_3, hi262_3⟩ := at_T60 HR0_3.out x7_1 p262 q262
        have hw262_9 := hx262_9; have hw262_8 := hx262_8; have hw262_7 := hx262_7; have hw262_6 := hx262_6; have hw262_5 := hx262_5; have hw262_4 := hx262_4; have hw262_3 := hx262_3; have hw262_2 := hx262_2; have hw262_1 := hx262_1; have hw262_0 := hx262_0
        obtain rfl : ad261 = ad262 := (by injection e262)
        replace hx262_0 := Goto.kc HB.out hx262_0
        replace hx262_1 := Goto.kc HB.out hx262_1
        replace hx262_2 := Goto.kc HB.out hx262_2
        replace hx262_3 := Goto.kc HB.out hx262_3
        replace hx262_4 := Goto.kc HB.out hx262_4
        replace hx262_5 := Goto.kc HB.out hx262_5
        replace hx262_6 := Goto.kc HB.out hx262_6
        replace hx262_7 := Goto.kc HB.out hx262_7
        replace hx262_8 := Goto.kc HB.out hx262_8
        replace hx262_9 := Goto.kc HB.out hx262_9
        have HR262_2 := Goto.m0 hi262_2
        have HC262_2 := Goto.m0 hl262_2
        clear hi262_2 hl262_2
        have HR262_3 := Goto.m0 hi262_3
        have HC262_3 := Goto.m0 hl262_3
        clear hi262_3 hl262_3; replace p262 := eq_true p262; replace q262 := eq_true q262
        refine start_ (n := 14) (S := fun w' => w'.cell? ⟨gb260, 0, none⟩ = some (.int .i64 a0_0) ∧ w'.cell? ⟨gb260, 1, none⟩ = some (.int .i64 a0_1) ∧ w'.cell? ⟨gb260, 2, none⟩ = some (.slice A0_2 l0_2.length c0_2) ∧ w'.cell? ⟨gb260, 3, none⟩ = some (.slice (some ad261) l0_3.length c0_3) ∧ w'.cell? (ad261.add ((a1).toNat * 10)) = some (.int .i64 ((rd_T60 l0_3 a1).f0.f0)) ∧ w'.cell? ⟨(ad261.add ((a1).toNat * 10)).block, (ad261.add ((a1).toNat * 10)).off + 1, none⟩ = some (.int .u64 ((rd_T60 l0_3 a1).f0.f1)) ∧ w'.cell? ⟨(ad261.add ((a1).toNat * 10)).block, (ad261.add ((a1).toNat * 10)).off + 2, none⟩ = some (.slice A261_2 ((rd_T60 l0_3 a1).f1).length c261_2) ∧ w'.cell? ⟨(ad261.add ((a1).toNat * 10)).block, (ad261.add ((a1).toNat * 10)).off + 3, none⟩ = some (.slice A261_3 ((rd_T60 l0_3 a1).f2).length c261_3) ∧ w'.cell? ⟨(ad261.add ((a1).toNat * 10)).block, (ad261.add ((a1).toNat * 10)).off + 4, none⟩ = some (.int .i64 ((rd_T60 l0_3 a1).f3)) ∧ w'.cell? ⟨(ad261.add ((a1).toNat * 10)).block, (ad261.add ((a1).toNat * 10)).off + 5, none⟩ = some (.int .i64 ((rd_T60 l0_3 a1).f4)) ∧ w'.cell? ⟨(ad261.add ((a1).toNat * 10)).block, (ad261.add ((a1).toNat * 10)).off + 6, none⟩ = some (.int .i64 ((rd_T60 l0_3 a1).f5)) ∧ w'.cell? ⟨(ad261.add ((a1).toNat * 10)).block, (ad261.add ((a1).toNat * 10)).off + 7, none⟩ = some (.int .i64 ((rd_T60 l0_3 a1).f6)) ∧ w'.cell? ⟨(ad261.add ((a1).toNat * 10)).block, (ad261.add ((a1).toNat * 10)).off + 8, none⟩ = some (.int .i64 ((rd_T60 l0_3 a1).f7)) ∧ w'.cell? ⟨(ad261.add ((a1).toNat * 10)).block, (ad261.add ((a1).toNat * 10)).off + 9, none⟩ = some (.int .i64 ((rd_T60 l0_3 a1).f8)) ∧ w'.cell? (ad261.add ((x7_1).toNat * 10)) = some (.int .i64 ((rd_T60 l0_3 x7_1).f0.f0)) ∧ w'.cell? ⟨(ad261.add ((x7_1).toNat * 10)).block, (ad261.add ((x7_1).toNat * 10)).off + 1, none⟩ = some (.int .u64 ((rd_T60 l0_3 x7_1).f0.f1)) ∧ w'.cell? ⟨(ad261.add ((x7_1).toNat * 10)).block, (ad261.add ((x7_1).toNat * 10)).off + 2, none⟩ = some (.slice A262_2 ((rd_T60 l0_3 x7_1).f1).length c262_2) ∧ w'.cell? ⟨(ad261.add ((x7_1).toNat * 10)).block, (ad261.add ((x7_1).toNat * 10)).off + 3, none⟩ = some (.slice A262_3 ((rd_T60 l0_3 x7_1).f2).length c262_3) ∧ w'.cell? ⟨(ad261.add ((x7_1).toNat * 10)).block, (ad261.add ((x7_1).toNat * 10)).off + 4, none⟩ = some (.int .i64 ((rd_T60 l0_3 x7_1).f3)) ∧ w'.cell? ⟨(ad261.add ((x7_1).toNat * 10)).block, (ad261.add ((x7_1).toNat * 10)).off + 5, none⟩ = some (.int .i64 ((rd_T60 l0_3 x7_1).f4)) ∧ w'.cell? ⟨(ad261.add ((x7_1).toNat * 10)).block, (ad261.add ((x7_1).toNat * 10)).off + 6, none⟩ = some (.int .i64 ((rd_T60 l0_3 x7_1).f5)) ∧ w'.cell? ⟨(ad261.add ((x7_1).toNat * 10)).block, (ad261.add ((x7_1).toNat * 10)).off + 7, none⟩ = some (.int .i64 ((rd_T60 l0_3 x7_1).f6)) ∧ w'.cell? ⟨(ad261.add ((x7_1).toNat * 10)).block, (ad261.add ((x7_1).toNat * 10)).off + 8, none⟩ = some (.int .i64 ((rd_T60 l0_3 x7_1).f7)) ∧ w'.cell? ⟨(ad261.add ((x7_1).toNat * 10)).block, (ad261.add ((x7_1).toNat * 10)).off + 9, none⟩ = some (.int .i64 ((rd_T60 l0_3 x7_1).f8))) (ds := []) (.replicate 14 false) (by kernel_rfl) rfl rfl ⟨(blk_cell BK260.out 0).trans rfl, (blk_cell BK260.out 1).trans rfl, (blk_cell BK260.out 2).trans rfl, (blk_cell BK260.out 3).trans rfl, (Goto.kc HB.out hw261_0), (Goto.kc HB.out hw261_1), (Goto.kc HB.out hw261_2), (Goto.kc HB.out hw261_3), (Goto.kc HB.out hw261_4), (Goto.kc HB.out hw261_5), (Goto.kc HB.out hw261_6), (Goto.kc HB.out hw261_7), (Goto.kc HB.out hw261_8), (Goto.kc HB.out hw261_9), (Goto.kc HB.out hw262_0), (Goto.kc HB.out hw262_1), (Goto.kc HB.out hw262_2), (Goto.kc HB.out hw262_3), (Goto.kc HB.out hw262_4), (Goto.kc HB.out hw262_5), (Goto.kc HB.out hw262_6), (Goto.kc HB.out hw262_7), (Goto.kc HB.out hw262_8), (Goto.kc HB.out hw262_9)⟩ (fun hHeld => ?_); refine with_tabW tontineref15_Plan.tab4 tontineref15_Plan.bits4 (fun HT_ HW_ => ?_)
        generalize wr.drew = w15 at BK260 HB HR261_2 HR261_3 HR262_2 HR262_3 hx261_0 hx261_1 hx261_2 hx261_3 hx261_4 hx261_5 hx261_6 hx261_7 hx261_8 hx261_9 hx262_0 hx262_1 hx262_2 hx262_3 hx262_4 hx262_5 hx262_6 hx262_7 hx262_8 hx262_9 hHeld ⊢
        refine Goto.pu 0 15 14 1 ?_
        refine Goto.pu 2 17 14 5 ?_
        refine Goto.pu 6 21 14 69 ?_
        refine Goto.pu 8 23 14 325 ?_
        refine take_ (i := 1) (N := some 16) (v := ?_) (a' := ?_) (Goto.bs 14 327) rfl rfl (take_ofW HT_.out HW_.out (by kernel_rfl)) (fun _ _ _ h => h) (Or.inl ⟨by rfl, ?_⟩) hHeld ?_ ?_
        rotate_left
        ·
         rintro w' ⟨s0, s1, s2, s3, s4, s5, s6, s7, s8, s9, s10, s11, s12, s13, s14, s15, s16, s17, s18, s19, s20, s21, s22, s23⟩
         go_simp
         with_reducible rfl
        rotate_left
        ·
         exact Goto.ap
        refine Goto.pu 3 18 14 335 ?_
        refine Goto.pu 4 19 14 351 ?_
        refine take_ (i := 5) (N := some 20) (v := ?_) (a' := ?_) (Goto.bs 14 383) rfl rfl (take_ofW HT_.out HW_.out (by kernel_rfl)) (fun _ _ _ h => h) (Or.inl ⟨by rfl, ?_⟩) hHeld ?_ ?_
        rotate_left
        ·
         rintro w' ⟨s0, s1, s2, s3, s4, s5, s6, s7, s8, s9, s10, s11, s12, s13, s14, s15, s16, s17, s18, s19, s20, s21, s22, s23⟩
         go_simp
         with_reducible rfl
        rotate_left
        ·
         exact Goto.ap
        refine take_ (i := 7) (N := some 22) (v := ?_) (a' := ?_) (Goto.bs 14 511) rfl rfl (take_ofW HT_.out HW_.out (by kernel_rfl)) (fun _ _ _ h => h) (Or.inl ⟨by rfl, ?_⟩) hHeld ?_ ?_
        rotate_left
        ·
         rintro w' ⟨s0, s1, s2, s3, s4, s5, s6, s7, s8, s9, s10, s11, s12, s13, s14, s15, s16, s17, s18, s19, s20, s21, s22, s23⟩
         go_simp
         with_reducible rfl
        rotate_left
        ·
         exact Goto.ap
        refine Goto.pu 9 24 14 1023 ?_
        refine Goto.pu 10 25 14 2047 ?_
        refine take_ (i := 11) (N := some 26) (v := ?_) (a' := ?_) (Goto.bs 14 4095) rfl rfl (take_ofW HT_.out HW_.out (by kernel_rfl)) (fun _ _ _ h => h) (Or.inl ⟨by rfl, ?_⟩) hHeld ?_ ?_
        rotate_left
        ·
         rintro w' ⟨s0, s1, s2, s3, s4, s5, s6, s7, s8, s9, s10, s11, s12, s13, s14, s15, s16, s17, s18, s19, s20, s21, s22, s23⟩
         go_simp
         with_reducible rfl
        rotate_left
        ·
         exact Goto.ap
        refine one_ (i := 12) (N := some 27) (Goto.bs 14 8191) rfl rfl (one_of HT_.out (by kernel_rfl)) (by decide) (fun K hK => ?_)
        refine goes_ Tryd.func39 (by kernel_rfl) rfl #[.agg #[.int .i64 ((rd_T60 l0_3 a1).f0.f0), .int .u64 ((rd_T60 l0_3 a1).f0.f1)], .agg #[.int .i64 ((rd_T60 l0_3 x7_1).f0.f0), .int .u64 ((rd_T60 l0_3 x7_1).f0.f1)]] (by rfl) rfl rfl (by (try simp only [List.map_toArray, List.map_cons, List.map_nil]); first | done | rfl | (simp only [List.length_drop, List.length_take]; rfl)) ?_
        with_reducible refine (tontineref1_Leq.calls ((rd_T60 l0_3 a1).f0.f0) ((rd_T60 l0_3 a1).f0.f1) ((rd_T60 l0_3 x7_1).f0.f0) ((rd_T60 l0_3 x7_1).f0.f1) false _ A9.out).mono ?_
        rintro e w16 ⟨rfl, hb⟩
        refine ⟨_, rfl, ?_⟩
        replace BK260 := Goto.bb BK260 hb; replace HB := Goto.hs HB hb
        (try clear hb)
        (try clear hb2)
        (try clear hk)
        (try clear hi)
        refine hK.out _ _ ⟨(blk_cell BK260.out 0).trans rfl, (blk_cell BK260.out 1).trans rfl, (blk_cell BK260.out 2).trans rfl, (blk_cell BK260.out 3).trans rfl, (Goto.kc HB.out hw261_0), (Goto.kc HB.out hw261_1), (Goto.kc HB.out hw261_2), (Goto.kc HB.out hw261_3), (Goto.kc HB.out hw261_4), (Goto.kc HB.out hw261_5), (Goto.kc HB.out hw261_6), (Goto.kc HB.out hw261_7), (Goto.kc HB.out hw261_8), (Goto.kc HB.out hw261_9), (Goto.kc HB.out hw262_0), (Goto.kc HB.out hw262_1), (Goto.kc HB.out hw262_2), (Goto.kc HB.out hw262_3), (Goto.kc HB.out hw262_4), (Goto.kc HB.out hw262_5), (Goto.kc HB.out hw262_6), (Goto.kc HB.out hw262_7), (Goto.kc HB.out hw262_8), (Goto.kc HB.out hw262_9)⟩ (fun hHeld => ?_)
        clear hK K
        refine norm_ (a' := ?_) ?_ ?_
        rotate_left
        ·
         show Act.put _ (some 27) _ = _
         exact Goto.ap
        refine Goto.pu 13 28 14 16383 ?_
        refine done_ (done_of HT_.out (by kernel_rfl)) ?_
        try go_wp2
        go_ret
        exact ⟨Goto.er, by repeat (first | (with_reducible first | exact HB.out | apply below_alloc | apply pw_below_drewN | apply below_drew1 | refine below_set ?_ GE260.out) | exact HB.out)⟩
      ·
       rw [if_neg c8] at H
       exact absurd H (by simp)
     ·
      rw [if_neg c7] at H
      exact absurd H (by simp)
    ·
     rw [if_neg c6] at H
     exact absurd H (by simp)
   ·
    rw [if_neg c5] at H
    have c5b0 : decide (x7_1 < (l0_3.length : Int)) = false := decide_eq_false c5
    clear c5
    by_cases c17 : a2 < 0
    ·
     rw [if_pos c17] at H
     have c17b0 : decide (a2 < 0) = true := decide_eq_true c17
     clear c17
     obtain rfl := Option.some.inj H
     have hcz18_0 := Goto.bc0 BK260; have hcz18_1 := Goto.bc1 BK260; have hcz18_2 := Goto.bc2 BK260; have hcz18_3 := Goto.bc3 BK260; have hfz18_0 := Goto.bf BK260 0; have hfz18_1 := Goto.bf BK260 1; have hfz18_2 := Goto.bf BK260 2; have hfz18_3 := Goto.bf BK260 3
     go_wp2
     go_ret
     exact ⟨Goto.er, by repeat (first | (with_reducible first | exact HB.out | apply below_alloc | apply pw_below_drewN | apply below_drew1 | refine below_set ?_ GE260.out) | exact HB.out)⟩
    ·
     rw [if_neg c17] at H
     have c17b0 : decide (a2 < 0) = false := decide_eq_false c17
     clear c17
     by_cases c19 : a2 ≥ (l0_2.length : Int)
     ·
      rw [if_pos c19] at H
      have c19b0 : decide ((l0_2.length : Int) ≤ a2) = true := decide_eq_true c19
      clear c19
      obtain rfl := Option.some.inj H
      have hcz20_0 := Goto.bc0 BK260; have hcz20_1 := Goto.bc1 BK260; have hcz20_2 := Goto.bc2 BK260; have hcz20_3 := Goto.bc3 BK260; have hfz20_0 := Goto.bf BK260 0; have hfz20_1 := Goto.bf BK260 1; have hfz20_2 := Goto.bf BK260 2; have hfz20_3 := Goto.bf BK260 3
      go_wp2
      go_ret
      exact ⟨Goto.er, by repeat (first | (with_reducible first | exact HB.out | apply below_alloc | apply pw_below_drewN | apply below_drew1 | refine below_set ?_ GE260.out) | exact HB.out)⟩
     ·
      rw [if_neg c19] at H
      have c19b0 : decide ((l0_2.length : Int) ≤ a2) = false := decide_eq_false c19
      clear c19
      obtain rfl := Option.some.inj H
      have hcz21_0 := Goto.bc0 BK260; have hcz21_1 := Goto.bc1 BK260; have hcz21_2 := Goto.bc2 BK260; have hcz21_3 := Goto.bc3 BK260; have hfz21_0 := Goto.bf BK260 0; have hfz21_1 := Goto.bf BK260 1; have hfz21_2 := Goto.bf BK260 2; have hfz21_3 := Goto.bf BK260 3
      go_wp2
      go_ret
      exact ⟨Goto.er, by repeat (first | (with_reducible first | exact HB.out | apply below_alloc | apply pw_below_drewN | apply below_drew1 | refine below_set ?_ GE260.out) | exact HB.out)⟩

end Go.Proofs.YtbhfkhcedjgpdaaDoor.P
