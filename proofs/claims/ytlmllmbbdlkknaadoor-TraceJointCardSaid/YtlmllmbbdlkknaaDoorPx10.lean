/- Printed by a program of this workplace (a turned copy of the kit's optional print), out of the translation; not trusted: Lean checks it. -/
import Derived.Test.YtlmllmbbdlkknaaDoorPx0
import Derived.Test.YtlmllmbbdlkknaaDoorPx9
import Derived.Test.YtlmllmbbdlkknaaDoorDec
namespace Go.Proofs.YtlmllmbbdlkknaaDoor.P
open Go.RowKit Go.Proofs.YtlmllmbbdlkknaaDoorW.PrintWords Go.Proofs.YtlmllmbbdlkknaaDoorW.PrintLast Go.Proofs.YtlmllmbbdlkknaaDoorW.PrintMore
attribute [local go_sem] max2_int min2_int max_two min_two max_three min_three max_four min_four   -- for this text's walks alone
set_option linter.unusedVariables false
set_option linter.unusedSimpArgs false

/-! ### tontineref24_Below: function 17 -/
mutual
def tontineref24_Below.l0 : Nat → List (List (S35)) → List Int → Int → Int → Int → List (List Int) → List (S46) → Int → Int → Option (List Int)
  | 0, _, _, _, _, _, _, _, _, _ => none
  | k + 1, x1, x7, x8, x242000, x242001, x242002, x242003, x243000, x243001 => if x8 < (x242003.length : Int) then (tontineref24_Below.j1 k x1 x7 x8 (decide (x8 < (x1.length : Int))) x242000 x242001 x242002 x242003 x243000 x243001) else (tontineref24_Below.j1 k x1 x7 x8 false x242000 x242001 x242002 x242003 x243000 x243001)
def tontineref24_Below.j1 : Nat → List (List (S35)) → List Int → Int → Bool → Int → Int → List (List Int) → List (S46) → Int → Int → Option (List Int)
  | 0, _, _, _, _, _, _, _, _, _, _ => none
  | k + 1, x1, x7, x8, x19, x242000, x242001, x242002, x242003, x243000, x243001 => if x19 = true then (if 0 ≤ x8 then (if x8 < (x242003.length : Int) then ((tontineref1_Leq.f ((rd_T46 x242003 x8).f0.f0) ((rd_T46 x242003 x8).f0.f1) x243000 x243001).bind fun t244 => (if t244 = true then (if x7.length < 17592186044416 then (tontineref24_Below.l0 k x1 (x7 ++ [x8]) (wrap64 (x8 + 1)) x242000 x242001 x242002 x242003 x243000 x243001) else (none)) else (tontineref24_Below.l0 k x1 x7 (wrap64 (x8 + 1)) x242000 x242001 x242002 x242003 x243000 x243001))) else (none)) else (none)) else (some x7)
end
def tontineref24_Below.f (k : Nat) (a0_0 : Int) (a0_1 : Int) (l0_2 : List (List Int)) (l0_3 : List (S46)) (l1 : List (List (S35))) (a2_0 : Int) (a2_1 : Int) : Option (List Int) := tontineref24_Below.l0 k l1 ([] : List Int) 0 a0_0 a0_1 l0_2 l0_3 a2_0 a2_1
theorem tontineref24_Below.mono_l : ∀ k, (∀ y0 y1 y2 y3 y4 y5 y6 y7 y8, LeO (tontineref24_Below.l0 k y0 y1 y2 y3 y4 y5 y6 y7 y8) (tontineref24_Below.l0 (k + 1) y0 y1 y2 y3 y4 y5 y6 y7 y8)) ∧ (∀ y0 y1 y2 y3 y4 y5 y6 y7 y8 y9, LeO (tontineref24_Below.j1 k y0 y1 y2 y3 y4 y5 y6 y7 y8 y9) (tontineref24_Below.j1 (k + 1) y0 y1 y2 y3 y4 y5 y6 y7 y8 y9))
  | 0 => ⟨fun _ _ _ _ _ _ _ _ _ r h => by simp [tontineref24_Below.l0] at h, fun _ _ _ _ _ _ _ _ _ _ r h => by simp [tontineref24_Below.j1] at h⟩
  | k + 1 => by
    obtain ⟨ih0, ih1⟩ := tontineref24_Below.mono_l k
    refine ⟨?_, ?_⟩
    · intro y0 y1 y2 y3 y4 y5 y6 y7 y8
      unfold tontineref24_Below.l0
      repeat' first
      | (with_reducible exact ih0 _ _ _ _ _ _ _ _ _)
      | (with_reducible exact ih1 _ _ _ _ _ _ _ _ _ _)
      | (with_reducible exact LeO.refl _)
      | (with_reducible exact LeO.none _)
      | (with_reducible refine LeO.ite ?_ ?_)
      | (with_reducible refine LeO.bind ?_ (fun _ => ?_))
      | exact ih0 _ _ _ _ _ _ _ _ _
      | exact ih1 _ _ _ _ _ _ _ _ _ _
      | exact LeO.none _
      | refine LeO.ite ?_ ?_
      | refine LeO.bind ?_ (fun _ => ?_)
    · intro y0 y1 y2 y3 y4 y5 y6 y7 y8 y9
      unfold tontineref24_Below.j1
      repeat' first
      | (with_reducible exact ih0 _ _ _ _ _ _ _ _ _)
      | (with_reducible exact ih1 _ _ _ _ _ _ _ _ _ _)
      | (with_reducible exact LeO.refl _)
      | (with_reducible exact LeO.none _)
      | (with_reducible refine LeO.ite ?_ ?_)
      | (with_reducible refine LeO.bind ?_ (fun _ => ?_))
      | exact ih0 _ _ _ _ _ _ _ _ _
      | exact ih1 _ _ _ _ _ _ _ _ _ _
      | exact LeO.none _
      | refine LeO.ite ?_ ?_
      | refine LeO.bind ?_ (fun _ => ?_)
theorem tontineref24_Below.mono : ∀ a0 a1 a2 a3 a4 a5 a6 k, LeO (tontineref24_Below.f k a0 a1 a2 a3 a4 a5 a6) (tontineref24_Below.f (k + 1) a0 a1 a2 a3 a4 a5 a6) := by
 intro a0 a1 a2 a3 a4 a5 a6 k
 obtain ⟨ih0, ih1⟩ := tontineref24_Below.mono_l k
 unfold tontineref24_Below.f
 repeat' first
   | (with_reducible exact ih0 _ _ _ _ _ _ _ _ _)
   | (with_reducible exact ih1 _ _ _ _ _ _ _ _ _ _)
   | (with_reducible exact LeO.refl _)
   | (with_reducible exact LeO.none _)
   | (with_reducible refine LeO.ite ?_ ?_)
   | (with_reducible refine LeO.bind ?_ (fun _ => ?_))
   | exact ih0 _ _ _ _ _ _ _ _ _
   | exact ih1 _ _ _ _ _ _ _ _ _ _
   | exact LeO.none _
   | refine LeO.ite ?_ ?_
   | refine LeO.bind ?_ (fun _ => ?_)
def tontineref24_Below.T5 : Bool × List (List Nat × List Nat) := (true, [([], []), ([0], [0]), ([], []), ([1, 2], [1, 2]), ([3], [3]), ([4], [4]), ([], []), ([5, 6], [5, 6])])
def tontineref24_Below.B5 : List Nat := [0, 1, 0, 7, 15, 31, 0, 127]
theorem tontineref24_Below.tab5 : rtab .any (opsOf Tryd.f17 5) = tontineref24_Below.T5 := by kernel_rfl
theorem tontineref24_Below.bits5 : waitsOk tontineref24_Below.T5.2 tontineref24_Below.B5 = true := by kernel_rfl
set_option maxHeartbeats 8000000 in
set_option maxRecDepth 100000 in
theorem tontineref24_Below.calls (k : Nat) (a0_0 : Int) (a0_1 : Int) (A0_2 : Option Addr) (c0_2 : Nat) (l0_2 : List (List Int)) (A0_3 : Option Addr) (c0_3 : Nat) (l0_3 : List (S46)) (A1 : Option Addr) (c1 : Nat) (l1 : List (List (S35))) (a2_0 : Int) (a2_1 : Int) (r : List Int) (w : World) (hr0_2 : Kd.C (Kd.slice 3 (Kd.int .i64)) w A0_2 l0_2.length l0_2) (hc0_2 : l0_2.length ≤ c0_2) (hr0_3 : Kd.C k46 w A0_3 l0_3.length l0_3) (hc0_3 : l0_3.length ≤ c0_3) (hr1 : Kd.C (Kd.slice 35 k35) w A1 l1.length l1) (hc1 : l1.length ≤ c1) (h : tontineref24_Below.f k a0_0 a0_1 l0_2 l0_3 l1 a2_0 a2_1 = some r) :
    Calls Tryd.prog 17 #[.agg #[.int .i64 a0_0, .int .i64 a0_1, .slice A0_2 l0_2.length c0_2, .slice A0_3 l0_3.length c0_3], .slice A1 l1.length c1, .agg #[.int .i64 a2_0, .int .u64 a2_1]] w fun e w' => ∃ v0_ : Value, e = .returned (v0_) ∧ Kd.R (Kd.int .i64) 3 w' w.heap.size (fun _ => True) v0_ r ∧ Below w.heap.size w w' := by
 have hu25 := Tryd.underlying25; have hu30 := Tryd.underlying30
 have HR0_2 := Goto.m0 hr0_2
 have HC0_2 := Goto.m0 hc0_2
 clear hr0_2 hc0_2
 have HR0_3 := Goto.m0 hr0_3
 have HC0_3 := Goto.m0 hc0_3
 clear hr0_3 hc0_3
 have HR1 := Goto.m0 hr1
 have HC1 := Goto.m0 hc1
 clear hr1 hc1
 have HB := Goto.m0 (Below.refl w.heap.size w)
 have H : (tontineref24_Below.l0 k l1 ([] : List Int) 0 a0_0 a0_1 l0_2 l0_3 a2_0 a2_1) = some r := h
 clear h
 have H' := Goto.m0 H
 clear H
 go_enter Tryd.func17, Tryd.ntmps17
 go_wp2_with (first | ((with_reducible refine gate_dst (N := 3) rfl ?_); (try (refine gate_guard (by rfl) ?_; dsimp only)); refine box_event ?hg (N := 3) ?hd (cs := #[.int .i64 a0_0, .int .i64 a0_1, .slice A0_2 l0_2.length c0_2, .slice A0_3 l0_3.length c0_3]) (t := 25) ?hr ?_; (case hd => rfl); (case hg => rfl); (case hr => first | (go_simp; done) | (go_simp; rfl)); intro gb241 hg w4 hbox hb; have BK241 := Goto.m0 (hbox); have GW241 := Goto.gs HB hg; have GE241 := Goto.gs HB hg; replace HB := Goto.hs HB hb; clear hb hbox hg) | ((with_reducible refine gate_dst (N := 5) rfl ?_); (try (refine gate_guard (by rfl) ?_; dsimp only)); refine box_event ?hg (N := 5) ?hd (cs := #[.int .i64 a2_0, .int .u64 a2_1]) (t := 30) ?hr ?_; (case hd => rfl); (case hg => rfl); (case hr => first | (go_simp; done) | (go_simp; rfl)); intro gb242 hg w5 hbox hb; have BK242 := Goto.m0 (hbox); have GW242 := Goto.gs HB hg; have GE242 := Goto.gs HB hg; have NB241_242 := Goto.nl BK241 hg; have NB242_241 := Goto.nr BK241 hg; replace BK241 := Goto.bb BK241 hb; replace HB := Goto.hs HB hb; clear hb hbox hg))
 go_loopg [7, 8] k (fun kq v7 v8 w' => ∃ (x7_1 : List Int) (x8_1 : Int), v8 = .int .i64 x8_1 ∧ Aside0 (tontineref24_Below.l0 kq l1 x7_1 x8_1 a0_0 a0_1 l0_2 l0_3 a2_0 a2_1 = some r) ∧ Aside0 (kq ≤ k) ∧ Aside0 (Kd.R (Kd.int .i64) 3 w' w.heap.size (fun _ => True) v7 x7_1) ∧ Aside0 (w'.heap[gb241]? = some (.cells #[.int .i64 a0_0, .int .i64 a0_1, (.slice A0_2 l0_2.length c0_2), (.slice A0_3 l0_3.length c0_3)] 25 (0, 0))) ∧ Aside0 (w'.heap[gb242]? = some (.cells #[.int .i64 a2_0, .int .u64 a2_1] 30 (0, 0))) ∧ Aside0 (Below w.heap.size w w'))
 case atStart => exact ⟨(([] : List Int)), (0), (by first | rfl | (simp; done) | (simp [*]; done)), H', ⟨Nat.le_refl _⟩, ⟨by first | exact Kd.R_nil _ _ _ _ _ | exact Kd.N_nil _ _ _ _ _ | exact Kd.V_nil _ _ _ _ _ | exact Kd.Q_nil _ _ _ _ _ | exact Kd.S_nil _ _ _ _ _⟩, ⟨Goto.bx BK241⟩, ⟨Goto.bx BK242⟩, ⟨Goto.hx HB⟩⟩
 case round =>
  clear H'
  try clear c1; try clear p2
  obtain ⟨x7_1, x8_1, rfl, HA, HK1, HO_7, BK241, BK242, HB⟩ := hrel
  cases gk with
  | zero => exact absurd HA.out (by simp [tontineref24_Below.l0])
  | succ k1 =>
   have H := HA.out; clear HA
   simp only [tontineref24_Below.l0] at H
   have HC6 := Goto.m0 H
   clear H
   go_upto_region 3 with (fail)
   go_cut [19] (fun v19 wc => ∃ (kq : Nat) (x19_5 : Bool), v19 = .bool x19_5 ∧ Aside0 (tontineref24_Below.j1 kq l1 x7_1 x8_1 x19_5 a0_0 a0_1 l0_2 l0_3 a2_0 a2_1 = some r) ∧ Aside0 (kq ≤ k1) ∧ Aside0 (Kd.R (Kd.int .i64) 3 wc w.heap.size (fun _ => True) u7 x7_1) ∧ Aside0 (wc.heap[gb241]? = some (.cells #[.int .i64 a0_0, .int .i64 a0_1, (.slice A0_2 l0_2.length c0_2), (.slice A0_3 l0_3.length c0_3)] 25 (0, 0))) ∧ Aside0 (wc.heap[gb242]? = some (.cells #[.int .i64 a2_0, .int .u64 a2_1] 30 (0, 0))) ∧ Aside0 (Below w.heap.size w wc))
   case first =>
    have H := HC6.out; clear HC6
    by_cases c7 : x8_1 < (l0_3.length : Int)
    ·
     rw [if_pos c7] at H
     have c7b0 : decide (x8_1 < (l0_3.length : Int)) = true := decide_eq_true c7
     clear c7
     (first | rw [c7b0] | (simp only [i64_w, i32_w]; rw [c7b0]) | skip)
     have H' := Goto.m0 H
     clear H; have hnb8 := NB241_242.out; have hnc8 := NB242_241.out; have hcz9_0 := Goto.bc0 BK241; have hcz9_1 := Goto.bc1 BK241; have hcz9_2 := Goto.bc2 BK241; have hcz9_3 := Goto.bc3 BK241; have hfz9_0 := Goto.bf BK241 0; have hfz9_1 := Goto.bf BK241 1; have hfz9_2 := Goto.bf BK241 2; have hfz9_3 := Goto.bf BK241 3
     go_wp2
     go_meet
     case rel => exact ⟨_, (decide (x8_1 < (l1.length : Int))), (by first | rfl | (simp; done) | (simp [*]; done)), H', ⟨by have := HK1.out; first | omega | exact Nat.le_refl _⟩, ⟨Goto.rk HO_7⟩, ⟨Goto.bx BK241⟩, ⟨Goto.bx BK242⟩, ⟨Goto.hx HB⟩⟩
    ·
     rw [if_neg c7] at H
     have c7b0 : decide (x8_1 < (l0_3.length : Int)) = false := decide_eq_false c7
     clear c7
     (first | rw [c7b0] | (simp only [i64_w, i32_w]; rw [c7b0]) | skip)
     have H' := Goto.m0 H
     clear H; have hnb10 := NB241_242.out; have hnc10 := NB242_241.out; have hcz11_0 := Goto.bc0 BK241; have hcz11_1 := Goto.bc1 BK241; have hcz11_2 := Goto.bc2 BK241; have hcz11_3 := Goto.bc3 BK241; have hfz11_0 := Goto.bf BK241 0; have hfz11_1 := Goto.bf BK241 1; have hfz11_2 := Goto.bf BK241 2; have hfz11_3 := Goto.bf BK241 3
     go_wp2
     go_meet
     case rel => exact ⟨_, (false), (by first | rfl | (simp; done) | (simp [*]; done)), H', ⟨by have := HK1.out; first | omega | exact Nat.le_refl _⟩, ⟨Goto.rk HO_7⟩, ⟨Goto.bx BK241⟩, ⟨Goto.bx BK242⟩, ⟨Goto.hx HB⟩⟩
   case rest =>
    clear HC6; try clear c1; try clear p2; try clear c7; try clear c7b0; try clear c8; try clear c10; try clear hcz11_0; try clear hcz11_1; try clear hcz11_2; try clear hcz11_3; try clear hcz9_0; try clear hcz9_1; try clear hcz9_2; try clear hcz9_3; try clear hfz11_0; try clear hfz11_1; try clear hfz11_2; try clear hfz11_3; try clear hfz9_0; try clear hfz9_1; try clear hfz9_2; try clear hfz9_3; try clear p2
    obtain ⟨kq, x19_5, rfl, HA, HJ5, HO_7, BK241, BK242, HB⟩ := hcut
    cases kq with
    | zero => exact absurd HA.out (by simp [tontineref24_Below.j1])
    | succ kj5 =>
     have H := HA.out; clear HA
     simp only [tontineref24_Below.j1] at H
     by_cases c12 : x19_5 = true
     ·
      subst c12
      rw [if_pos rfl] at H
      by_cases c13 : 0 ≤ x8_1
      ·
       rw [if_pos c13] at H
       have c13b0 : decide (0 ≤ x8_1) = true := decide_eq_true c13
       clear c13
       by_cases c14 : x8_1 < (l0_3.length : Int)
       ·
        rw [if_pos c14] at H
        have c14b0 : decide (x8_1 < (l0_3.length : Int)) = true := decide_eq_true c14
        clear c14
        replace H := Option.bind_eq_some_iff.mp H
        obtain ⟨t244, A150, H⟩ := H
        have A15 := Goto.m0 A150
        clear A150
        by_cases c16 : t244 = true
        ·
         subst c16
         rw [if_pos rfl] at H
         by_cases c17 : x7_1.length < 17592186044416
         ·
          rw [if_pos c17] at H
          have LMc17 := Goto.m0 c17
          clear c17
          obtain ⟨y245, hy245⟩ : ∃ y_ : List Int, y_ = (x7_1 ++ [x8_1]) := ⟨_, rfl⟩
          replace H : (tontineref24_Below.l0 kj5 l1 y245 (wrap64 (x8_1 + 1)) a0_0 a0_1 l0_2 l0_3 a2_0 a2_1) = some r := by first | (rw [hy245]; with_reducible exact H) | (have H2_ := (Option.bind_some _ _).symm.trans H; rw [hy245]; with_reducible exact H2_) | (have H2_ := (Option.bind_some _ _).symm.trans H; with_reducible exact H2_) | with_reducible exact H | (rw [hy245]; exact H) | exact H
          have Ny245 := Goto.m0 hy245
          clear hy245
          have H' := Goto.m0 H
          clear H
          try go_wp2
          replace HO_7 := Goto.m0 (Kd.R_drew HO_7.out); replace BK241 := Goto.m0 (blk_drew BK241.out); replace BK242 := Goto.m0 (blk_drew BK242.out); replace HB := Goto.m0 (below_drew1 HB.out)
          have p243 : 0 ≤ (x8_1 : Int) := Goto.od
          have q243 : x8_1 < (l0_3.length : Int) := Goto.od
          obtain ⟨ad243, A243_2, c243_2, A243_3, c243_3, e243, hx243_0, hx243_1, hx243_2, hx243_3, hx243_4, hx243_5, hx243_6, hx243_7, hx243_8, hx243_9, hl243_2, hi243_2, hl243_3, hi243_3⟩ := at_T46 HR0_3.out x8_1 p243 q243
          have hw243_9 := hx243_9; have hw243_8 := hx243_8; have hw243_7 := hx243_7; have hw243_6 := hx243_6; have hw243_5 := hx243_5; have hw243_4 := hx243_4; have hw243_3 := hx243_3; have hw243_2 := hx243_2; have hw243_1 := hx243_1; have hw243_0 := hx243_0
          cases e243
          replace hx243_0 := Goto.kc HB.out hx243_0
          replace hx243_1 := Goto.kc HB.out hx243_1
          replace hx243_2 := Goto.kc HB.out hx243_2
          replace hx243_3 := Goto.kc HB.out hx243_3
          replace hx243_4 := Goto.kc HB.out hx243_4
          replace hx243_5 := Goto.kc HB.out hx243_5
          replace hx243_6 := Goto.kc HB.out hx243_6
          replace hx243_7 := Goto.kc HB.out hx243_7
          replace hx243_8 := Goto.kc HB.out hx243_8
          replace hx243_9 := Goto.kc HB.out hx243_9
          have HR243_2 := Goto.m0 hi243_2
          have HC243_2 := Goto.m0 hl243_2
          clear hi243_2 hl243_2
          have HR243_3 := Goto.m0 hi243_3
          have HC243_3 := Goto.m0 hl243_3
          clear hi243_3 hl243_3; replace p243 := eq_true p243; replace q243 := eq_true q243
          refine start_ (n := 8) (S := fun w' => w'.cell? ⟨gb241, 0, none⟩ = some (.int .i64 a0_0) ∧ w'.cell? ⟨gb241, 1, none⟩ = some (.int .i64 a0_1) ∧ w'.cell? ⟨gb241, 2, none⟩ = some (.slice A0_2 l0_2.length c0_2) ∧ w'.cell? ⟨gb241, 3, none⟩ = some (.slice (some ad243) l0_3.length c0_3) ∧ w'.cell? ⟨gb242, 0, none⟩ = some (.int .i64 a2_0) ∧ w'.cell? ⟨gb242, 1, none⟩ = some (.int .u64 a2_1) ∧ w'.cell? (ad243.add ((x8_1).toNat * 10)) = some (.int .i64 ((rd_T46 l0_3 x8_1).f0.f0)) ∧ w'.cell? ⟨(ad243.add ((x8_1).toNat * 10)).block, (ad243.add ((x8_1).toNat * 10)).off + 1, none⟩ = some (.int .u64 ((rd_T46 l0_3 x8_1).f0.f1)) ∧ w'.cell? ⟨(ad243.add ((x8_1).toNat * 10)).block, (ad243.add ((x8_1).toNat * 10)).off + 2, none⟩ = some (.slice A243_2 ((rd_T46 l0_3 x8_1).f1).length c243_2) ∧ w'.cell? ⟨(ad243.add ((x8_1).toNat * 10)).block, (ad243.add ((x8_1).toNat * 10)).off + 3, none⟩ = some (.slice A243_3 ((rd_T46 l0_3 x8_1).f2).length c243_3) ∧ w'.cell? ⟨(ad243.add ((x8_1).toNat * 10)).block, (ad243.add ((x8_1).toNat * 10)).off + 4, none⟩ = some (.int .i64 ((rd_T46 l0_3 x8_1).f3)) ∧ w'.cell? ⟨(ad243.add ((x8_1).toNat * 10)).block, (ad243.add ((x8_1).toNat * 10)).off + 5, none⟩ = some (.int .i64 ((rd_T46 l0_3 x8_1).f4)) ∧ w'.cell? ⟨(ad243.add ((x8_1).toNat * 10)).block, (ad243.add ((x8_1).toNat * 10)).off + 6, none⟩ = some (.int .i64 ((rd_T46 l0_3 x8_1).f5)) ∧ w'.cell? ⟨(ad243.add ((x8_1).toNat * 10)).block, (ad243.add ((x8_1).toNat * 10)).off + 7, none⟩ = some (.int .i64 ((rd_T46 l0_3 x8_1).f6)) ∧ w'.cell? ⟨(ad243.add ((x8_1).toNat * 10)).block, (ad243.add ((x8_1).toNat * 10)).off + 8, none⟩ = some (.int .i64 ((rd_T46 l0_3 x8_1).f7)) ∧ w'.cell? ⟨(ad243.add ((x8_1).toNat * 10)).block, (ad243.add ((x8_1).toNat * 10)).off + 9, none⟩ = some (.int .i64 ((rd_T46 l0_3 x8_1).f8))) (ds := []) (.replicate 8 false) (by kernel_rfl) rfl rfl ⟨(blk_cell BK241.out 0).trans rfl, (blk_cell BK241.out 1).trans rfl, (blk_cell BK241.out 2).trans rfl, (blk_cell BK241.out 3).trans rfl, (blk_cell BK242.out 0).trans rfl, (blk_cell BK242.out 1).trans rfl, (Goto.kc HB.out hw243_0), (Goto.kc HB.out hw243_1), (Goto.kc HB.out hw243_2), (Goto.kc HB.out hw243_3), (Goto.kc HB.out hw243_4), (Goto.kc HB.out hw243_5), (Goto.kc HB.out hw243_6), (Goto.kc HB.out hw243_7), (Goto.kc HB.out hw243_8), (Goto.kc HB.out hw243_9)⟩ (fun hHeld => ?_); refine with_tabW tontineref24_Below.tab5 tontineref24_Below.bits5 (fun HT_ HW_ => ?_)
          generalize wc.drew = w18 at HO_7 BK241 BK242 HB HR243_2 HR243_3 hx243_0 hx243_1 hx243_2 hx243_3 hx243_4 hx243_5 hx243_6 hx243_7 hx243_8 hx243_9 hHeld ⊢
          refine Goto.pu 0 22 8 1 ?_
          refine Goto.pu 2 24 8 5 ?_
          refine take_ (i := 1) (N := some 23) (v := ?_) (a' := ?_) (Goto.bs 8 7) rfl rfl (take_ofW HT_.out HW_.out (by kernel_rfl)) (fun _ _ _ h => h) (Or.inl ⟨by rfl, ?_⟩) hHeld ?_ ?_
          rotate_left
          ·
           rintro w' ⟨s0, s1, s2, s3, s4, s5, s6, s7, s8, s9, s10, s11, s12, s13, s14, s15⟩
           go_simp
           with_reducible rfl
          rotate_left
          ·
           exact Goto.ap
          refine Goto.pu 3 25 8 15 ?_
          refine Goto.pu 4 26 8 31 ?_
          refine take_ (i := 5) (N := some 27) (v := ?_) (a' := ?_) (Goto.bs 8 63) rfl rfl (take_ofW HT_.out HW_.out (by kernel_rfl)) (fun _ _ _ h => h) (Or.inl ⟨by rfl, ?_⟩) hHeld ?_ ?_
          rotate_left
          ·
           rintro w' ⟨s0, s1, s2, s3, s4, s5, s6, s7, s8, s9, s10, s11, s12, s13, s14, s15⟩
           go_simp
           with_reducible rfl
          rotate_left
          ·
           exact Goto.ap
          refine take_ (i := 6) (N := some 28) (v := ?_) (a' := ?_) (Goto.bs 8 127) rfl rfl (take_ofW HT_.out HW_.out (by kernel_rfl)) (fun _ _ _ h => h) (Or.inl ⟨by rfl, ?_⟩) hHeld ?_ ?_
          rotate_left
          ·
           rintro w' ⟨s0, s1, s2, s3, s4, s5, s6, s7, s8, s9, s10, s11, s12, s13, s14, s15⟩
           go_simp
           with_reducible rfl
          rotate_left
          ·
           exact Goto.ap
          refine one_ (i := 7) (N := some 29) (Goto.bs 8 255) rfl rfl (one_of HT_.out (by kernel_rfl)) (by decide) (fun K hK => ?_)
          refine goes_ Tryd.func21 (by kernel_rfl) rfl #[.agg #[.int .i64 ((rd_T46 l0_3 x8_1).f0.f0), .int .u64 ((rd_T46 l0_3 x8_1).f0.f1)], .agg #[.int .i64 a2_0, .int .u64 a2_1]] (by rfl) rfl rfl (by (try simp only [List.map_toArray, List.map_cons, List.map_nil]); first | done | rfl | (simp only [List.length_drop, List.length_take]; rfl)) ?_
          with_reducible refine (tontineref1_Leq.calls ((rd_T46 l0_3 x8_1).f0.f0) ((rd_T46 l0_3 x8_1).f0.f1) a2_0 a2_1 true _ A15.out).mono ?_
          rintro e w19 ⟨rfl, hb⟩
          refine ⟨_, rfl, ?_⟩
          replace HO_7 := Goto.m0 (Kd.R_below (Goto.rk HO_7) hb); replace BK241 := Goto.bb BK241 hb; replace BK242 := Goto.bb BK242 hb; replace HB := Goto.hs HB hb
          (try clear hb)
          (try clear hb2)
          (try clear hk)
          (try clear hi)
          refine hK.out _ _ ⟨(blk_cell BK241.out 0).trans rfl, (blk_cell BK241.out 1).trans rfl, (blk_cell BK241.out 2).trans rfl, (blk_cell BK241.out 3).trans rfl, (blk_cell BK242.out 0).trans rfl, (blk_cell BK242.out 1).trans rfl, (Goto.kc HB.out hw243_0), (Goto.kc HB.out hw243_1), (Goto.kc HB.out hw243_2), (Goto.kc HB.out hw243_3), (Goto.kc HB.out hw243_4), (Goto.kc HB.out hw243_5), (Goto.kc HB.out hw243_6), (Goto.kc HB.out hw243_7), (Goto.kc HB.out hw243_8), (Goto.kc HB.out hw243_9)⟩ (fun hHeld => ?_)
          clear hK K
          refine norm_ (a' := ?_) ?_ ?_
          rotate_left
          ·
           show Act.put _ (some 29) _ = _
           exact Goto.ap
          refine done_ (done_of HT_.out (by kernel_rfl)) ?_
          try go_wp2_with (first | ((with_reducible refine gate_builtin (b := .append) (xs := #[.tmp 30, .tmp 32]) rfl ?_); (try (refine gate_guard (by rfl) ?_; dsimp only)); at_builtin; refine Kd.R_append (Kd.int .i64) (w0 := w) w.heap.size rfl (.tmp 30) (.tmp 32) 39 3 (.int .i64 0) 8 rfl Tryd.underlying39 info3 rfl (by decide) (by omega) u7 x7_1 x8_1 [.int .i64 x8_1] (fun _ => True) (fun _ => False) rfl rfl ?aP (fun _ hk => hk.elim) ?aF ?aO ?aB ?aS ?aL ?_; (case aP => exact rfl); (case aB => exact (Goto.hx HB)); (case aF => exact (fun _ _ => trivial)); (case aO => exact (Goto.rk HO_7)); (case aS => exact (below_size (Goto.hx HB))); (case aL => have := LMc17.out; omega); intro v246 w20 ho hb hg hat; rw [← Ny245.out] at ho; have n0_ := Goto.m0 (blk_grown (g := gb241) (o := .cells #[.int .i64 a0_0, .int .i64 a0_1, .slice A0_2 l0_2.length c0_2, .slice (some ad243) l0_3.length c0_3] 25 (0, 0)) (Goto.bx BK241) hg (Kd.R_ne HO_7.out BK241.out (by decide))); have n1_ := Goto.m0 (blk_grown (g := gb242) (o := .cells #[.int .i64 a2_0, .int .u64 a2_1] 30 (0, 0)) (Goto.bx BK242) hg (Kd.R_ne HO_7.out BK242.out (by decide))); have n2_ := Goto.m0 (hb); have n3_ := Goto.m0 (ho); clear BK241; clear BK242; clear HB; clear HO_7; have BK241 := n0_; have BK242 := n1_; have HB := n2_; have HO247 := n3_; clear n0_ n1_ n2_ n3_; clear ho hb hg hat))
          go_roundg kj5
          case measure => have := HK1.out; have := HJ5.out; omega
          case rel => exact ⟨(y245), (wrap64 (x8_1 + 1)), (by first | rfl | (simp; done) | (simp [*]; done)), H', ⟨by have := HK1.out; have := HJ5.out; omega⟩, ⟨Goto.rk HO247⟩, ⟨Goto.bx BK241⟩, ⟨Goto.bx BK242⟩, ⟨Goto.hx HB⟩⟩
         ·
          rw [if_neg c17] at H
          exact absurd H (by simp)
        ·
         replace c16 := Bool.eq_false_iff.mpr c16
         subst c16
         rw [if_neg (show ¬ (false = true) by decide)] at H
         have H' := Goto.m0 H
         clear H
         try go_wp2
         replace HO_7 := Goto.m0 (Kd.R_drew HO_7.out); replace BK241 := Goto.m0 (blk_drew BK241.out); replace BK242 := Goto.m0 (blk_drew BK242.out); replace HB := Goto.m0 (below_drew1 HB.out)
         have p243 : 0 ≤ (x8_1 : Int) := Goto.od
         have q243 : x8_1 < (l0_3.length : Int) := Goto.od
         obtain ⟨ad243, A243_2, c243_2, A243_3, c243_3, e243, hx243_0, hx243_1, hx243_2, hx243_3, hx243_4, hx243_5, hx243_6, hx243_7, hx243_8, hx243_9, hl243_2, hi243_2, hl243_3, hi243_3⟩ := at_T46 HR0_3.out x8_1 p243 q243
         have hw243_9 := hx243_9; have hw243_8 := hx243_8; have hw243_7 := hx243_7; have hw243_6 := hx243_6; have hw243_5 := hx243_5; have hw243_4 := hx243_4; have hw243_3 := hx243_3; have hw243_2 := hx243_2; have hw243_1 := hx243_1; have hw243_0 := hx243_0
         cases e243
         replace hx243_0 := Goto.kc HB.out hx243_0
         replace hx243_1 := Goto.kc HB.out hx243_1
         replace hx243_2 := Goto.kc HB.out hx243_2
         replace hx243_3 := Goto.kc HB.out hx243_3
         replace hx243_4 := Goto.kc HB.out hx243_4
         replace hx243_5 := Goto.kc HB.out hx243_5
         replace hx243_6 := Goto.kc HB.out hx243_6
         replace hx243_7 := Goto.kc HB.out hx243_7
         replace hx243_8 := Goto.kc HB.out hx243_8
         replace hx243_9 := Goto.kc HB.out hx243_9
         have HR243_2 := Goto.m0 hi243_2
         have HC243_2 := Goto.m0 hl243_2
         clear hi243_2 hl243_2
         have HR243_3 := Goto.m0 hi243_3
         have HC243_3 := Goto.m0 hl243_3
         clear hi243_3 hl243_3; replace p243 := eq_true p243; replace q243 := eq_true q243
         refine start_ (n := 8) (S := fun w' => w'.cell? ⟨gb241, 0, none⟩ = some (.int .i64 a0_0) ∧ w'.cell? ⟨gb241, 1, none⟩ = some (.int .i64 a0_1) ∧ w'.cell? ⟨gb241, 2, none⟩ = some (.slice A0_2 l0_2.length c0_2) ∧ w'.cell? ⟨gb241, 3, none⟩ = some (.slice (some ad243) l0_3.length c0_3) ∧ w'.cell? ⟨gb242, 0, none⟩ = some (.int .i64 a2_0) ∧ w'.cell? ⟨gb242, 1, none⟩ = some (.int .u64 a2_1) ∧ w'.cell? (ad243.add ((x8_1).toNat * 10)) = some (.int .i64 ((rd_T46 l0_3 x8_1).f0.f0)) ∧ w'.cell? ⟨(ad243.add ((x8_1).toNat * 10)).block, (ad243.add ((x8_1).toNat * 10)).off + 1, none⟩ = some (.int .u64 ((rd_T46 l0_3 x8_1).f0.f1)) ∧ w'.cell? ⟨(ad243.add ((x8_1).toNat * 10)).block, (ad243.add ((x8_1).toNat * 10)).off + 2, none⟩ = some (.slice A243_2 ((rd_T46 l0_3 x8_1).f1).length c243_2) ∧ w'.cell? ⟨(ad243.add ((x8_1).toNat * 10)).block, (ad243.add ((x8_1).toNat * 10)).off + 3, none⟩ = some (.slice A243_3 ((rd_T46 l0_3 x8_1).f2).length c243_3) ∧ w'.cell? ⟨(ad243.add ((x8_1).toNat * 10)).block, (ad243.add ((x8_1).toNat * 10)).off + 4, none⟩ = some (.int .i64 ((rd_T46 l0_3 x8_1).f3)) ∧ w'.cell? ⟨(ad243.add ((x8_1).toNat * 10)).block, (ad243.add ((x8_1).toNat * 10)).off + 5, none⟩ = some (.int .i64 ((rd_T46 l0_3 x8_1).f4)) ∧ w'.cell? ⟨(ad243.add ((x8_1).toNat * 10)).block, (ad243.add ((x8_1).toNat * 10)).off + 6, none⟩ = some (.int .i64 ((rd_T46 l0_3 x8_1).f5)) ∧ w'.cell? ⟨(ad243.add ((x8_1).toNat * 10)).block, (ad243.add ((x8_1).toNat * 10)).off + 7, none⟩ = some (.int .i64 ((rd_T46 l0_3 x8_1).f6)) ∧ w'.cell? ⟨(ad243.add ((x8_1).toNat * 10)).block, (ad243.add ((x8_1).toNat * 10)).off + 8, none⟩ = some (.int .i64 ((rd_T46 l0_3 x8_1).f7)) ∧ w'.cell? ⟨(ad243.add ((x8_1).toNat * 10)).block, (ad243.add ((x8_1).toNat * 10)).off + 9, none⟩ = some (.int .i64 ((rd_T46 l0_3 x8_1).f8))) (ds := []) (.replicate 8 false) (by kernel_rfl) rfl rfl ⟨(blk_cell BK241.out 0).trans rfl, (blk_cell BK241.out 1).trans rfl, (blk_cell BK241.out 2).trans rfl, (blk_cell BK241.out 3).trans rfl, (blk_cell BK242.out 0).trans rfl, (blk_cell BK242.out 1).trans rfl, (Goto.kc HB.out hw243_0), (Goto.kc HB.out hw243_1), (Goto.kc HB.out hw243_2), (Goto.kc HB.out hw243_3), (Goto.kc HB.out hw243_4), (Goto.kc HB.out hw243_5), (Goto.kc HB.out hw243_6), (Goto.kc HB.out hw243_7), (Goto.kc HB.out hw243_8), (Goto.kc HB.out hw243_9)⟩ (fun hHeld => ?_); refine with_tabW tontineref24_Below.tab5 tontineref24_Below.bits5 (fun HT_ HW_ => ?_)
         generalize wc.drew = w21 at HO_7 BK241 BK242 HB HR243_2 HR243_3 hx243_0 hx243_1 hx243_2 hx243_3 hx243_4 hx243_5 hx243_6 hx243_7 hx243_8 hx243_9 hHeld ⊢
         refine Goto.pu 0 22 8 1 ?_
         refine Goto.pu 2 24 8 5 ?_
         refine take_ (i := 1) (N := some 23) (v := ?_) (a' := ?_) (Goto.bs 8 7) rfl rfl (take_ofW HT_.out HW_.out (by kernel_rfl)) (fun _ _ _ h => h) (Or.inl ⟨by rfl, ?_⟩) hHeld ?_ ?_
         rotate_left
         ·
          rintro w' ⟨s0, s1, s2, s3, s4, s5, s6, s7, s8, s9, s10, s11, s12, s13, s14, s15⟩
          go_simp
          with_reducible rfl
         rotate_left
         ·
          exact Goto.ap
         refine Goto.pu 3 25 8 15 ?_
         refine Goto.pu 4 26 8 31 ?_
         refine take_ (i := 5) (N := some 27) (v := ?_) (a' := ?_) (Goto.bs 8 63) rfl rfl (take_ofW HT_.out HW_.out (by kernel_rfl)) (fun _ _ _ h => h) (Or.inl ⟨by rfl, ?_⟩) hHeld ?_ ?_
         rotate_left
         ·
          rintro w' ⟨s0, s1, s2, s3, s4, s5, s6, s7, s8, s9, s10, s11, s12, s13, s14, s15⟩
          go_simp
          with_reducible rfl
         rotate_left
         ·
          exact Goto.ap
         refine take_ (i := 6) (N := some 28) (v := ?_) (a' := ?_) (Goto.bs 8 127) rfl rfl (take_ofW HT_.out HW_.out (by kernel_rfl)) (fun _ _ _ h => h) (Or.inl ⟨by rfl, ?_⟩) hHeld ?_ ?_
         rotate_left
         ·
          rintro w' ⟨s0, s1, s2, s3, s4, s5, s6, s7, s8, s9, s10, s11, s12, s13, s14, s15⟩
          go_simp
          with_reducible rfl
         rotate_left
         ·
          exact Goto.ap
         refine one_ (i := 7) (N := some 29) (Goto.bs 8 255) rfl rfl (one_of HT_.out (by kernel_rfl)) (by decide) (fun K hK => ?_)
         refine goes_ Tryd.func21 (by kernel_rfl) rfl #[.agg #[.int .i64 ((rd_T46 l0_3 x8_1).f0.f0), .int .u64 ((rd_T46 l0_3 x8_1).f0.f1)], .agg #[.int .i64 a2_0, .int .u64 a2_1]] (by rfl) rfl rfl (by (try simp only [List.map_toArray, List.map_cons, List.map_nil]); first | done | rfl | (simp only [List.length_drop, List.length_take]; rfl)) ?_
         with_reducible refine (tontineref1_Leq.calls ((rd_T46 l0_3 x8_1).f0.f0) ((rd_T46 l0_3 x8_1).f0.f1) a2_0 a2_1 false _ A15.out).mono ?_
         rintro e w22 ⟨rfl, hb⟩
         refine ⟨_, rfl, ?_⟩
         replace HO_7 := Goto.m0 (Kd.R_below (Goto.rk HO_7) hb); replace BK241 := Goto.bb BK241 hb; replace BK242 := Goto.bb BK242 hb; replace HB := Goto.hs HB hb
         (try clear hb)
         (try clear hb2)
         (try clear hk)
         (try clear hi)
         refine hK.out _ _ ⟨(blk_cell BK241.out 0).trans rfl, (blk_cell BK241.out 1).trans rfl, (blk_cell BK241.out 2).trans rfl, (blk_cell BK241.out 3).trans rfl, (blk_cell BK242.out 0).trans rfl, (blk_cell BK242.out 1).trans rfl, (Goto.kc HB.out hw243_0), (Goto.kc HB.out hw243_1), (Goto.kc HB.out hw243_2), (Goto.kc HB.out hw243_3), (Goto.kc HB.out hw243_4), (Goto.kc HB.out hw243_5), (Goto.kc HB.out hw243_6), (Goto.kc HB.out hw243_7), (Goto.kc HB.out hw243_8), (Goto.kc HB.out hw243_9)⟩ (fun hHeld => ?_)
         clear hK K
         refine norm_ (a' := ?_) ?_ ?_
         rotate_left
         ·
          show Act.put _ (some 29) _ = _
          exact Goto.ap
         refine done_ (done_of HT_.out (by kernel_rfl)) ?_
         try go_wp2
         go_roundg kj5
         case measure => have := HK1.out; have := HJ5.out; omega
         case rel => exact ⟨(x7_1), (wrap64 (x8_1 + 1)), (by first | rfl | (simp; done) | (simp [*]; done)), H', ⟨by have := HK1.out; have := HJ5.out; omega⟩, ⟨Goto.rk HO_7⟩, ⟨Goto.bx BK241⟩, ⟨Goto.bx BK242⟩, ⟨Goto.hx HB⟩⟩
       ·
        rw [if_neg c14] at H
        exact absurd H (by simp)
      ·
       rw [if_neg c13] at H
       exact absurd H (by simp)
     ·
      replace c12 := Bool.eq_false_iff.mpr c12
      subst c12
      rw [if_neg (show ¬ (false = true) by decide)] at H
      obtain rfl := Option.some.inj H
      go_wp2
      go_ret
      exact ⟨_, Goto.er, Goto.rk HO_7, by repeat (first | (with_reducible first | exact HB.out | apply below_alloc | apply pw_below_drewN | apply below_drew1 | refine below_set ?_ GE241.out | refine below_set ?_ GE242.out) | exact HB.out)⟩

/-! ### tontineref24_Joint: function 19 -/
def tontineref24_Joint.l0 : Nat → List (List (S35)) → ByteArray → List Int → Int → Option (ByteArray)
  | 0, _, _, _, _ => none
  | k + 1, x1, x7, x8, x9 => if x9 < (x8.length : Int) then (if x7.size + 7 ≤ 9223372036854775807 then (if 0 ≤ x9 then ((ext_27.f (rd x8 x9)).bind fun t254 => (if (x7 ++ (⟨#[100, 111, 109, 97, 105, 110, 32]⟩ : ByteArray)).size + t254.size ≤ 9223372036854775807 then (if ((x7 ++ (⟨#[100, 111, 109, 97, 105, 110, 32]⟩ : ByteArray)) ++ t254).size + 1 ≤ 9223372036854775807 then (if 0 ≤ (rd x8 x9) then (if (rd x8 x9) < (x1.length : Int) then ((tontineref24_Text.f k (rd_L4 x1 (rd x8 x9))).bind fun t257 => (if (((x7 ++ (⟨#[100, 111, 109, 97, 105, 110, 32]⟩ : ByteArray)) ++ t254) ++ (⟨#[10]⟩ : ByteArray)).size + t257.size ≤ 9223372036854775807 then (tontineref24_Joint.l0 k x1 ((((x7 ++ (⟨#[100, 111, 109, 97, 105, 110, 32]⟩ : ByteArray)) ++ t254) ++ (⟨#[10]⟩ : ByteArray)) ++ t257) x8 (wrap64 (x9 + 1))) else (none))) else (none)) else (none)) else (none)) else (none))) else (none)) else (none)) else (some x7)
def tontineref24_Joint.f (k : Nat) (a0_0 : Int) (a0_1 : Int) (l0_2 : List (List Int)) (l0_3 : List (S46)) (l1 : List (List (S35))) (a2_0 : Int) (a2_1 : Int) : Option (ByteArray) := (tontineref24_Below.f k a0_0 a0_1 l0_2 l0_3 l1 a2_0 a2_1).bind fun t250 => (tontineref24_Joint.l0 k l1 (⟨#[]⟩ : ByteArray) t250 0)
theorem tontineref24_Joint.mono_l : ∀ k, (∀ y0 y1 y2 y3, LeO (tontineref24_Joint.l0 k y0 y1 y2 y3) (tontineref24_Joint.l0 (k + 1) y0 y1 y2 y3))
  | 0 => fun _ _ _ _ r h => by simp [tontineref24_Joint.l0] at h
  | k + 1 => by
    have ih0 := tontineref24_Joint.mono_l k
    · intro y0 y1 y2 y3
      unfold tontineref24_Joint.l0
      repeat' first
      | (with_reducible exact ih0 _ _ _ _)
      | (with_reducible exact tontineref24_Below.mono _ _ _ _ _ _ _ _)
      | (with_reducible exact tontineref24_Text.mono _ _)
      | (with_reducible exact LeO.refl _)
      | (with_reducible exact LeO.none _)
      | (with_reducible refine LeO.ite ?_ ?_)
      | (with_reducible refine LeO.bind ?_ (fun _ => ?_))
      | exact ih0 _ _ _ _
      | exact tontineref24_Below.mono _ _ _ _ _ _ _ _
      | exact tontineref24_Text.mono _ _
      | exact LeO.none _
      | refine LeO.ite ?_ ?_
      | refine LeO.bind ?_ (fun _ => ?_)
theorem tontineref24_Joint.mono : ∀ a0 a1 a2 a3 a4 a5 a6 k, LeO (tontineref24_Joint.f k a0 a1 a2 a3 a4 a5 a6) (tontineref24_Joint.f (k + 1) a0 a1 a2 a3 a4 a5 a6) := by
 intro a0 a1 a2 a3 a4 a5 a6 k
 have ih0 := tontineref24_Joint.mono_l k
 unfold tontineref24_Joint.f
 repeat' first
   | (with_reducible exact ih0 _ _ _ _)
   | (with_reducible exact tontineref24_Below.mono _ _ _ _ _ _ _ _)
   | (with_reducible exact tontineref24_Text.mono _ _)
   | (with_reducible exact LeO.refl _)
   | (with_reducible exact LeO.none _)
   | (with_reducible refine LeO.ite ?_ ?_)
   | (with_reducible refine LeO.bind ?_ (fun _ => ?_))
   | exact ih0 _ _ _ _
   | exact tontineref24_Below.mono _ _ _ _ _ _ _ _
   | exact tontineref24_Text.mono _ _
   | exact LeO.none _
   | refine LeO.ite ?_ ?_
   | refine LeO.bind ?_ (fun _ => ?_)
def tontineref24_Joint.T6 : Bool × List (List Nat × List Nat) := (true, [([], []), ([0], [0]), ([], []), ([], []), ([2, 3], [2, 3]), ([4], [4]), ([5], [5]), ([1, 6], [1, 6]), ([7], [7]), ([], []), ([], []), ([], []), ([10, 11], [10, 11]), ([12], [12]), ([9, 13], [9, 13]), ([14], [14]), ([15, 6], [15]), ([8, 16], [8, 16]), ([17, 16, 0, 1, 2, 3, 4, 5, 6, 7, 8, 9, 10, 11, 12, 13, 14, 15, 16, 17], [0, 17])])
def tontineref24_Joint.B6 : List Nat := [0, 1, 0, 0, 12, 28, 60, 127, 255, 0, 0, 0, 3072, 7168, 15872, 32256, 65148, 131071, 262143]
theorem tontineref24_Joint.tab6 : rtab .any (opsOf Tryd.f19 6) = tontineref24_Joint.T6 := by kernel_rfl
theorem tontineref24_Joint.bits6 : waitsOk tontineref24_Joint.T6.2 tontineref24_Joint.B6 = true := by kernel_rfl
set_option maxHeartbeats 8000000 in
set_option maxRecDepth 100000 in
theorem tontineref24_Joint.calls (k : Nat) (a0_0 : Int) (a0_1 : Int) (A0_2 : Option Addr) (c0_2 : Nat) (l0_2 : List (List Int)) (A0_3 : Option Addr) (c0_3 : Nat) (l0_3 : List (S46)) (A1 : Option Addr) (c1 : Nat) (l1 : List (List (S35))) (a2_0 : Int) (a2_1 : Int) (r : ByteArray) (w : World) (hr0_2 : Kd.C (Kd.slice 3 (Kd.int .i64)) w A0_2 l0_2.length l0_2) (hc0_2 : l0_2.length ≤ c0_2) (hr0_3 : Kd.C k46 w A0_3 l0_3.length l0_3) (hc0_3 : l0_3.length ≤ c0_3) (hr1 : Kd.C (Kd.slice 35 k35) w A1 l1.length l1) (hc1 : l1.length ≤ c1) (h : tontineref24_Joint.f k a0_0 a0_1 l0_2 l0_3 l1 a2_0 a2_1 = some r) :
    Calls Tryd.prog 19 #[.agg #[.int .i64 a0_0, .int .i64 a0_1, .slice A0_2 l0_2.length c0_2, .slice A0_3 l0_3.length c0_3], .slice A1 l1.length c1, .agg #[.int .i64 a2_0, .int .u64 a2_1]] w fun e w' => e = .returned (.string r) ∧ Below w.heap.size w w' := by
 have hu25 := Tryd.underlying25; have hu30 := Tryd.underlying30
 have HR0_2 := Goto.m0 hr0_2
 have HC0_2 := Goto.m0 hc0_2
 clear hr0_2 hc0_2
 have HR0_3 := Goto.m0 hr0_3
 have HC0_3 := Goto.m0 hc0_3
 clear hr0_3 hc0_3
 have HR1 := Goto.m0 hr1
 have HC1 := Goto.m0 hc1
 clear hr1 hc1
 have HB := Goto.m0 (Below.refl w.heap.size w)
 have H : ((tontineref24_Below.f k a0_0 a0_1 l0_2 l0_3 l1 a2_0 a2_1).bind fun t250 => (tontineref24_Joint.l0 k l1 (⟨#[]⟩ : ByteArray) t250 0)) = some r := h
 clear h
 replace H := Option.bind_eq_some_iff.mp H
 obtain ⟨t250, A40, H⟩ := H
 have A4 := Goto.m0 A40
 clear A40
 have H' := Goto.m0 H
 clear H
 go_enter Tryd.func19, Tryd.ntmps19
 go_wp2_with (first | ((with_reducible refine gate_dst (N := 3) rfl ?_); refine box_event ?hg (N := 3) ?hd (cs := #[.int .i64 a0_0, .int .i64 a0_1, .slice A0_2 l0_2.length c0_2, .slice A0_3 l0_3.length c0_3]) (t := 25) ?hr ?_; (case hd => rfl); (case hg => rfl); (case hr => first | (go_simp; done) | (go_simp; rfl)); intro gb248 hg w5 hbox hb; have BK248 := Goto.m0 (hbox); have GW248 := Goto.gs HB hg; have GE248 := Goto.gs HB hg; replace HB := Goto.hs HB hb; clear hb hbox hg) | ((with_reducible refine gate_dst (N := 5) rfl ?_); refine box_event ?hg (N := 5) ?hd (cs := #[.int .i64 a2_0, .int .u64 a2_1]) (t := 30) ?hr ?_; (case hd => rfl); (case hg => rfl); (case hr => first | (go_simp; done) | (go_simp; rfl)); intro gb249 hg w6 hbox hb; have BK249 := Goto.m0 (hbox); have GW249 := Goto.gs HB hg; have GE249 := Goto.gs HB hg; have NB248_249 := Goto.nl BK248 hg; have NB249_248 := Goto.nr BK248 hg; replace BK248 := Goto.bb BK248 hb; replace HB := Goto.hs HB hb; clear hb hbox hg; have hnb7 := NB248_249.out; have hnc7 := NB249_248.out; have hcz8_0 := Goto.bc0 BK248; have hcz8_1 := Goto.bc1 BK248; have hcz8_2 := Goto.bc2 BK248; have hcz8_3 := Goto.bc3 BK248; have hfz8_0 := Goto.bf BK248 0; have hfz8_1 := Goto.bf BK248 1; have hfz8_2 := Goto.bf BK248 2; have hfz8_3 := Goto.bf BK248 3; have hcz9_0 := Goto.bc0 BK249; have hcz9_1 := Goto.bc1 BK249; have hfz9_0 := Goto.bf BK249 0; have hfz9_1 := Goto.bf BK249 1) | ((with_reducible refine gate_callee (f := 17) rfl ?_); refine goesL_ (some 13) rfl rfl Tryd.func17 (by kernel_rfl) rfl #[.agg #[.int .i64 a0_0, .int .i64 a0_1, .slice A0_2 l0_2.length c0_2, .slice A0_3 l0_3.length c0_3], .slice A1 l1.length c1, .agg #[.int .i64 a2_0, .int .u64 a2_1]] rfl (by (try simp only [List.map_toArray, List.map_cons, List.map_nil]); first | done | rfl | (simp only [List.length_drop, List.length_take]; rfl)) ?_; (with_reducible refine (tontineref24_Below.calls k a0_0 a0_1 _ _ l0_2 _ _ l0_3 _ _ l1 a2_0 a2_1 t250 _ ?side1 ?side2 ?side3 ?side4 ?side5 ?side6 A4.out).mono ?_); (case side1 => repeat (first | exact (Kd.C_below HR0_2.out HB.out) | (with_reducible refine Kd.C_alloc ?_ _) | (with_reducible refine Kd.C_drewN ?_ _) | (with_reducible refine Kd.C_drew ?_))); (case side2 => exact HC0_2.out); (case side3 => repeat (first | exact (Kd.C_below HR0_3.out HB.out) | (with_reducible refine Kd.C_alloc ?_ _) | (with_reducible refine Kd.C_drewN ?_ _) | (with_reducible refine Kd.C_drew ?_))); (case side4 => exact HC0_3.out); (case side5 => repeat (first | exact (Kd.C_below HR1.out HB.out) | (with_reducible refine Kd.C_alloc ?_ _) | (with_reducible refine Kd.C_drewN ?_ _) | (with_reducible refine Kd.C_drew ?_))); (case side6 => exact HC1.out); rintro e w10 ⟨v251, rfl, ho0, hb⟩; refine ⟨_, rfl, ?_⟩; have HO252 := Goto.m0 (Kd.R_lower ho0 (below_size (Goto.hx HB))); replace BK248 := Goto.bb BK248 hb; replace BK249 := Goto.bb BK249 hb; replace HB := Goto.hs HB hb; (try clear hb); (try clear hb2); (try clear hk); (try clear hi); (try clear ho0)))
 go_loopg [7, 9] k (fun kq v7 v9 w' => ∃ (x7_1 : ByteArray) (x9_1 : Int), v7 = .string x7_1 ∧ v9 = .int .i64 x9_1 ∧ Aside0 (tontineref24_Joint.l0 kq l1 x7_1 t250 x9_1 = some r) ∧ Aside0 (kq ≤ k) ∧ Aside0 (Kd.R (Kd.int .i64) 3 w' w.heap.size (fun _ => True) v251 t250) ∧ Aside0 (w'.heap[gb248]? = some (.cells #[.int .i64 a0_0, .int .i64 a0_1, (.slice A0_2 l0_2.length c0_2), (.slice A0_3 l0_3.length c0_3)] 25 (0, 0))) ∧ Aside0 (w'.heap[gb249]? = some (.cells #[.int .i64 a2_0, .int .u64 a2_1] 30 (0, 0))) ∧ Aside0 (Below w.heap.size w w'))
 case atStart => exact ⟨((⟨#[]⟩ : ByteArray)), (0), (by first | rfl | (simp; done) | (simp [*]; done)), (by first | rfl | (simp; done) | (simp [*]; done)), H', ⟨Nat.le_refl _⟩, ⟨Goto.rk HO252⟩, ⟨Goto.bx BK248⟩, ⟨Goto.bx BK249⟩, ⟨Goto.hx HB⟩⟩
 case round =>
  clear H'
  try clear c1; try clear p2; try clear c7; try clear hcz8_0; try clear hcz8_1; try clear hcz8_2; try clear hcz8_3; try clear hcz9_0; try clear hcz9_1; try clear hfz8_0; try clear hfz8_1; try clear hfz8_2; try clear hfz8_3; try clear hfz9_0; try clear hfz9_1
  obtain ⟨x7_1, x9_1, rfl, rfl, HA, HK1, HO_8, BK248, BK249, HB⟩ := hrel
  cases gk with
  | zero => exact absurd HA.out (by simp [tontineref24_Joint.l0])
  | succ k1 =>
   have H := HA.out; clear HA
   simp only [tontineref24_Joint.l0] at H
   by_cases c11 : x9_1 < (t250.length : Int)
   ·
    rw [if_pos c11] at H
    have c11b0 : decide (x9_1 < (t250.length : Int)) = true := decide_eq_true c11
    clear c11
    by_cases c12 : x7_1.size + 7 ≤ 9223372036854775807
    ·
     rw [if_pos c12] at H
     have c12b0 := eq_true c12
     have c12b1 : decide (x7_1.size + 7 ≤ 9223372036854775807) = true := decide_eq_true c12
     try have c12b2 : (9223372036854775807 < x7_1.size + 7) = False := eq_false (Nat.not_lt.2 c12)
     by_cases c13 : 0 ≤ x9_1
     ·
      rw [if_pos c13] at H
      have c13b0 : decide (0 ≤ x9_1) = true := decide_eq_true c13
      clear c13
      replace H := Option.bind_eq_some_iff.mp H
      obtain ⟨t254, A140, H⟩ := H
      have A14 := Goto.m0 A140
      clear A140
      by_cases c15 : (x7_1 ++ (⟨#[100, 111, 109, 97, 105, 110, 32]⟩ : ByteArray)).size + t254.size ≤ 9223372036854775807
      ·
       rw [if_pos c15] at H
       have c15b0 := eq_true c15
       have c15b1 : decide ((x7_1 ++ (⟨#[100, 111, 109, 97, 105, 110, 32]⟩ : ByteArray)).size + t254.size ≤ 9223372036854775807) = true := decide_eq_true c15
       try have c15b2 : (9223372036854775807 < (x7_1 ++ (⟨#[100, 111, 109, 97, 105, 110, 32]⟩ : ByteArray)).size + t254.size) = False := eq_false (Nat.not_lt.2 c15)
       try have c15b3 : (9223372036854775807 < x7_1.size + 7 + t254.size) = False := eq_false (Nat.not_lt.2 (by have h := c15; simp only [ByteArray.size_append] at h; exact h))
       by_cases c16 : ((x7_1 ++ (⟨#[100, 111, 109, 97, 105, 110, 32]⟩ : ByteArray)) ++ t254).size + 1 ≤ 9223372036854775807
       ·
        rw [if_pos c16] at H
        have c16b0 := eq_true c16
        have c16b1 : decide (((x7_1 ++ (⟨#[100, 111, 109, 97, 105, 110, 32]⟩ : ByteArray)) ++ t254).size + 1 ≤ 9223372036854775807) = true := decide_eq_true c16
        try have c16b2 : (9223372036854775807 < ((x7_1 ++ (⟨#[100, 111, 109, 97, 105, 110, 32]⟩ : ByteArray)) ++ t254).size + 1) = False := eq_false (Nat.not_lt.2 c16)
        try have c16b3 : (9223372036854775807 < x7_1.size + 7 + t254.size + 1) = False := eq_false (Nat.not_lt.2 (by have h := c16; simp only [ByteArray.size_append] at h; exact h))
        by_cases c17 : 0 ≤ (rd t250 x9_1)
        ·
         rw [if_pos c17] at H
         have c17b0 : decide (0 ≤ (rd t250 x9_1)) = true := decide_eq_true c17
         clear c17
         by_cases c18 : (rd t250 x9_1) < (l1.length : Int)
         ·
          rw [if_pos c18] at H
          have c18b0 : decide ((rd t250 x9_1) < (l1.length : Int)) = true := decide_eq_true c18
          clear c18
          replace H := Option.bind_eq_some_iff.mp H
          obtain ⟨t257, A190, H⟩ := H
          have A19 := Goto.m0 A190
          clear A190
          by_cases c20 : (((x7_1 ++ (⟨#[100, 111, 109, 97, 105, 110, 32]⟩ : ByteArray)) ++ t254) ++ (⟨#[10]⟩ : ByteArray)).size + t257.size ≤ 9223372036854775807
          ·
           rw [if_pos c20] at H
           have c20b0 := eq_true c20
           have c20b1 : decide ((((x7_1 ++ (⟨#[100, 111, 109, 97, 105, 110, 32]⟩ : ByteArray)) ++ t254) ++ (⟨#[10]⟩ : ByteArray)).size + t257.size ≤ 9223372036854775807) = true := decide_eq_true c20
           try have c20b2 : (9223372036854775807 < (((x7_1 ++ (⟨#[100, 111, 109, 97, 105, 110, 32]⟩ : ByteArray)) ++ t254) ++ (⟨#[10]⟩ : ByteArray)).size + t257.size) = False := eq_false (Nat.not_lt.2 c20)
           try have c20b3 : (9223372036854775807 < x7_1.size + 7 + t254.size + 1 + t257.size) = False := eq_false (Nat.not_lt.2 (by have h := c20; simp only [ByteArray.size_append] at h; exact h))
           have H' := Goto.m0 H
           clear H
           obtain ⟨Ao21, co21, eo21⟩ := Kd.R_slice HO_8.out
           subst eo21
           try go_wp2
           replace HO_8 := Goto.m0 (Kd.R_drew HO_8.out); replace BK248 := Goto.m0 (blk_drew BK248.out); replace BK249 := Goto.m0 (blk_drew BK249.out); replace HB := Goto.m0 (below_drew1 HB.out)
           have p253 : 0 ≤ (x9_1 : Int) := Goto.od
           have q253 : x9_1 < (t250.length : Int) := Goto.od
           obtain ⟨ad253, e253, hx253_0⟩ := Kd.at_int (Kd.R_reads' HO_8.out).2.2 x9_1 p253 q253
           cases e253
           replace p253 := eq_true p253; replace q253 := eq_true q253
           have p255 : 0 ≤ (x9_1 : Int) := Goto.od
           have q255 : x9_1 < (t250.length : Int) := Goto.od
           obtain ⟨ad255, e255, hx255_0⟩ := Kd.at_int (Kd.R_reads' HO_8.out).2.2 x9_1 p255 q255
           obtain rfl : ad253 = ad255 := (by injection e255)
           replace p255 := eq_true p255; replace q255 := eq_true q255
           have p256 : 0 ≤ ((rd t250 x9_1) : Int) := Goto.od
           have q256 : (rd t250 x9_1) < (l1.length : Int) := Goto.od
           obtain ⟨ad256, A256_0, c256_0, e256, hx256_0, hl256_0, hi256_0⟩ := at_L4 HR1.out (rd t250 x9_1) p256 q256
           have hw256_0 := hx256_0
           cases e256
           replace hx256_0 := Goto.kc HB.out hx256_0
           have HR256_0 := Goto.m0 hi256_0
           have HC256_0 := Goto.m0 hl256_0
           clear hi256_0 hl256_0; replace p256 := eq_true p256; replace q256 := eq_true q256
           refine start_ (n := 19) (S := fun w' => w'.cell? (ad253.add (x9_1).toNat) = some (.int .i64 (rd t250 x9_1)) ∧ w'.cell? (ad253.add (x9_1).toNat) = some (.int .i64 (rd t250 x9_1)) ∧ w'.cell? (ad256.add ((rd t250 x9_1)).toNat) = some (.slice A256_0 (rd_L4 l1 (rd t250 x9_1)).length c256_0)) (ds := []) (.replicate 19 false) (by kernel_rfl) rfl rfl ⟨hx253_0, hx255_0, (Goto.kc HB.out hw256_0)⟩ (fun hHeld => ?_); refine with_tabW tontineref24_Joint.tab6 tontineref24_Joint.bits6 (fun HT_ HW_ => ?_)
           generalize wr.drew = w22 at HO_8 BK248 BK249 HB HR256_0 hx253_0 hx255_0 hx256_0 hHeld ⊢
           refine Goto.pu 0 20 19 1 ?_
           refine Goto.pu 1 21 19 3 ?_
           refine Goto.pu 2 22 19 7 ?_
           refine Goto.pu 3 23 19 15 ?_
           refine Goto.pu 4 24 19 31 ?_
           refine Goto.pu 9 29 19 543 ?_
           refine Goto.pu 10 30 19 1567 ?_
           refine Goto.pu 11 31 19 3615 ?_
           refine Goto.pu 12 32 19 7711 ?_
           refine take_ (i := 5) (N := some 25) (v := ?_) (a' := ?_) (Goto.bs 19 7743) rfl rfl (take_ofW HT_.out HW_.out (by kernel_rfl)) (fun _ _ _ h => h) (Or.inl ⟨by rfl, ?_⟩) hHeld ?_ ?_
           rotate_left
           ·
            rintro w' ⟨s0, s1, s2⟩
            go_simp
            with_reducible rfl
           rotate_left
           ·
            exact Goto.ap
           refine take_ (i := 13) (N := some 33) (v := ?_) (a' := ?_) (Goto.bs 19 15935) rfl rfl (take_ofW HT_.out HW_.out (by kernel_rfl)) (fun _ _ _ h => h) (Or.inl ⟨by rfl, ?_⟩) hHeld ?_ ?_
           rotate_left
           ·
            rintro w' ⟨s0, s1, s2⟩
            go_simp
            with_reducible rfl
           rotate_left
           ·
            exact Goto.ap
           refine Goto.pu 14 34 19 32319 ?_
           refine take_ (i := 15) (N := some 35) (v := ?_) (a' := ?_) (Goto.bs 19 65087) rfl rfl (take_ofW HT_.out HW_.out (by kernel_rfl)) (fun _ _ _ h => h) (Or.inl ⟨by rfl, ?_⟩) hHeld ?_ ?_
           rotate_left
           ·
            rintro w' ⟨s0, s1, s2⟩
            go_simp
            with_reducible rfl
           rotate_left
           ·
            exact Goto.ap
           refine one_ (i := 6) (N := some 26) (Goto.bs 19 65151) rfl rfl (one_of HT_.out (by kernel_rfl)) (by decide) (fun K hK => ?_)
           refine goes_ Tryd.func27 (by kernel_rfl) rfl #[.int .i64 (rd t250 x9_1)] (by rfl) rfl rfl (by (try simp only [List.map_toArray, List.map_cons, List.map_nil]); first | done | rfl | (simp only [List.length_drop, List.length_take]; rfl)) ?_
           with_reducible refine (ext_27.calls (rd t250 x9_1) t254 _ A14.out).mono ?_
           rintro e w23 ⟨rfl, hb⟩
           have HS0_ := (hb.cell (World.block_lt_of_cell? _ _ (hHeld.1))).trans (hHeld.1)
           have HS1_ := (hb.cell (World.block_lt_of_cell? _ _ (hHeld.2.1))).trans (hHeld.2.1)
           refine ⟨_, rfl, ?_⟩
           replace HO_8 := Goto.m0 (Kd.R_below (Goto.rk HO_8) hb); replace BK248 := Goto.bb BK248 hb; replace BK249 := Goto.bb BK249 hb; replace HB := Goto.hs HB hb
           (try clear hb)
           (try clear hb2)
           (try clear hk)
           (try clear hi)
           refine hK.out _ _ ⟨HS0_, HS1_, (Goto.kc HB.out hw256_0)⟩ (fun hHeld => ?_)
           clear hK K
           refine norm_ (a' := ?_) ?_ ?_
           rotate_left
           ·
            show Act.put _ (some 26) _ = _
            exact Goto.ap
           refine Goto.pu 7 27 19 65279 ?_
           refine Goto.pu 8 28 19 65535 ?_
           refine one_ (i := 16) (N := some 36) (Goto.bs 19 131071) rfl rfl (one_of HT_.out (by kernel_rfl)) (by decide) (fun K hK => ?_)
           refine goes_ Tryd.func14 (by kernel_rfl) rfl #[.slice A256_0 (rd_L4 l1 (rd t250 x9_1)).length c256_0] (by rfl) rfl rfl (by (try simp only [List.map_toArray, List.map_cons, List.map_nil]); first | done | rfl | (simp only [List.length_drop, List.length_take]; rfl)) ?_
           with_reducible refine (tontineref24_Text.calls k1 _ _ (rd_L4 l1 (rd t250 x9_1)) t257 _ ?side1 ?side2 A19.out).mono ?_
           (case side1 => repeat (first | exact (Kd.C_below HR256_0.out HB.out) | (with_reducible refine Kd.C_alloc ?_ _) | (with_reducible refine Kd.C_drewN ?_ _) | (with_reducible refine Kd.C_drew ?_)))
           (case side2 => exact HC256_0.out)
           rintro e w24 ⟨rfl, hb⟩
           have HS0_ := (hb.cell (World.block_lt_of_cell? _ _ (hHeld.1))).trans (hHeld.1)
           have HS1_ := (hb.cell (World.block_lt_of_cell? _ _ (hHeld.2.1))).trans (hHeld.2.1)
           refine ⟨_, rfl, ?_⟩
           replace HO_8 := Goto.m0 (Kd.R_below (Goto.rk HO_8) hb); replace BK248 := Goto.bb BK248 hb; replace BK249 := Goto.bb BK249 hb; replace HB := Goto.hs HB hb
           (try clear hb)
           (try clear hb2)
           (try clear hk)
           (try clear hi)
           refine hK.out _ _ ⟨HS0_, HS1_, (Goto.kc HB.out hw256_0)⟩ (fun hHeld => ?_)
           clear hK K
           refine norm_ (a' := ?_) ?_ ?_
           rotate_left
           ·
            show Act.put _ (some 36) _ = _
            exact Goto.ap
           refine Goto.pu 17 37 19 262143 ?_
           refine Goto.pu 18 7 19 524287 ?_
           refine done_ (done_of HT_.out (by kernel_rfl)) ?_
           try go_wp2
           go_roundg k1
           case measure => have := HK1.out; omega
           case rel => exact ⟨((((x7_1 ++ (⟨#[100, 111, 109, 97, 105, 110, 32]⟩ : ByteArray)) ++ t254) ++ (⟨#[10]⟩ : ByteArray)) ++ t257), (wrap64 (x9_1 + 1)), (by first | rfl | (simp; done) | (simp [*]; done)), (by first | rfl | (simp; done) | (simp [*]; done)), H', ⟨by have := HK1.out; omega⟩, ⟨Goto.rk HO_8⟩, ⟨Goto.bx BK248⟩, ⟨Goto.bx BK249⟩, ⟨Goto.hx HB⟩⟩
          ·
           rw [if_neg c20] at H
           exact absurd H (by simp)
         ·
          rw [if_neg c18] at H
          exact absurd H (by simp)
        ·
         rw [if_neg c17] at H
         exact absurd H (by simp)
       ·
        rw [if_neg c16] at H
        exact absurd H (by simp)
      ·
       rw [if_neg c15] at H
       exact absurd H (by simp)
     ·
      rw [if_neg c13] at H
      exact absurd H (by simp)
    ·
     rw [if_neg c12] at H
     exact absurd H (by simp)
   ·
    rw [if_neg c11] at H
    have c11b0 : decide (x9_1 < (t250.length : Int)) = false := decide_eq_false c11
    clear c11
    obtain rfl := Option.some.inj H
    obtain ⟨Ao25, co25, eo25⟩ := Kd.R_slice HO_8.out
    subst eo25
    go_wp2
    go_ret
    exact ⟨Goto.er, by repeat (first | (with_reducible first | exact HB.out | apply below_alloc | apply pw_below_drewN | apply below_drew1 | refine below_set ?_ GE248.out | refine below_set ?_ GE249.out) | exact HB.out)⟩

end Go.Proofs.YtlmllmbbdlkknaaDoor.P
