/- Printed by a program of this workplace (a turned copy of the kit's optional print), out of the translation; not trusted: Lean checks it. -/
import Derived.Test.YtnnkmkejcmdjpaaPx0
import Derived.Test.YtnnkmkejcmdjpaaPx10
namespace Go.Proofs.Ytnnkmkejcmdjpaa.P
open Go.RowKit Go.Proofs.YtnnkmkejcmdjpaaW.PrintWords Go.Proofs.YtnnkmkejcmdjpaaW.PrintLast Go.Proofs.YtnnkmkejcmdjpaaW.PrintMore
attribute [local go_sem] max2_int min2_int max_two min_two max_three min_three max_four min_four   -- for this text's walks alone
set_option linter.unusedVariables false
set_option linter.unusedSimpArgs false

/-! ### low_Strict: function 16 -/
def low_Strict.l0 : Nat → Int → Int → Int → Int → List (List Int) → List (S46) → Int → Int → Option (Bool)
  | 0, _, _, _, _, _, _, _, _ => none
  | k + 1, x8, x9, x286000, x286001, x286002, x286003, x287000, x287001 => if x9 < x8 then ((low_high.f x286000 x286001 x286002 x286003 x9 x287000 x287001).bind fun t287 => (if t287 = true then (if 0 ≤ x9 then (if x9 < (x286003.length : Int) then (if (((rd_T46 x286003 x9).f2).length : Int) > 1 then (some false) else (low_Strict.l0 k x8 (wrap64 (x9 + 1)) x286000 x286001 x286002 x286003 x287000 x287001)) else (none)) else (none)) else (low_Strict.l0 k x8 (wrap64 (x9 + 1)) x286000 x286001 x286002 x286003 x287000 x287001))) else (some true)
def low_Strict.f (k : Nat) (a0_0 : Int) (a0_1 : Int) (l0_2 : List (List Int)) (l0_3 : List (S46)) (a1_0 : Int) (a1_1 : Int) : Option (Bool) := low_Strict.l0 k (l0_3.length : Int) 0 a0_0 a0_1 l0_2 l0_3 a1_0 a1_1
theorem low_Strict.mono_l : ∀ k, (∀ y0 y1 y2 y3 y4 y5 y6 y7, LeO (low_Strict.l0 k y0 y1 y2 y3 y4 y5 y6 y7) (low_Strict.l0 (k + 1) y0 y1 y2 y3 y4 y5 y6 y7))
  | 0 => fun _ _ _ _ _ _ _ _ r h => by simp [low_Strict.l0] at h
  | k + 1 => by
    have ih0 := low_Strict.mono_l k
    · intro y0 y1 y2 y3 y4 y5 y6 y7
      unfold low_Strict.l0
      repeat' first
      | (with_reducible exact ih0 _ _ _ _ _ _ _ _)
      | (with_reducible exact LeO.refl _)
      | (with_reducible exact LeO.none _)
      | (with_reducible refine LeO.ite ?_ ?_)
      | (with_reducible refine LeO.bind ?_ (fun _ => ?_))
      | exact ih0 _ _ _ _ _ _ _ _
      | exact LeO.none _
      | refine LeO.ite ?_ ?_
      | refine LeO.bind ?_ (fun _ => ?_)
theorem low_Strict.mono : ∀ a0 a1 a2 a3 a4 a5 k, LeO (low_Strict.f k a0 a1 a2 a3 a4 a5) (low_Strict.f (k + 1) a0 a1 a2 a3 a4 a5) := by
 intro a0 a1 a2 a3 a4 a5 k
 have ih0 := low_Strict.mono_l k
 unfold low_Strict.f
 repeat' first
   | (with_reducible exact ih0 _ _ _ _ _ _ _ _)
   | (with_reducible exact LeO.refl _)
   | (with_reducible exact LeO.none _)
   | (with_reducible refine LeO.ite ?_ ?_)
   | (with_reducible refine LeO.bind ?_ (fun _ => ?_))
   | exact ih0 _ _ _ _ _ _ _ _
   | exact LeO.none _
   | refine LeO.ite ?_ ?_
   | refine LeO.bind ?_ (fun _ => ?_)
set_option maxHeartbeats 8000000 in
set_option maxRecDepth 100000 in
theorem low_Strict.calls (k : Nat) (a0_0 : Int) (a0_1 : Int) (A0_2 : Option Addr) (c0_2 : Nat) (l0_2 : List (List Int)) (A0_3 : Option Addr) (c0_3 : Nat) (l0_3 : List (S46)) (a1_0 : Int) (a1_1 : Int) (r : Bool) (w : World) (hr0_2 : Kd.C (Kd.slice 3 (Kd.int .i64)) w A0_2 l0_2.length l0_2) (hc0_2 : l0_2.length ≤ c0_2) (hr0_3 : Kd.C k46 w A0_3 l0_3.length l0_3) (hc0_3 : l0_3.length ≤ c0_3) (h : low_Strict.f k a0_0 a0_1 l0_2 l0_3 a1_0 a1_1 = some r) :
    Calls Try.prog 16 #[.agg #[.int .i64 a0_0, .int .i64 a0_1, .slice A0_2 l0_2.length c0_2, .slice A0_3 l0_3.length c0_3], .agg #[.int .i64 a1_0, .int .u64 a1_1]] w fun e w' => e = .returned (.bool r) ∧ Below w.heap.size w w' := by
 have hu25 := Try.underlying25; have hu32 := Try.underlying32
 have HR0_2 := Goto.m0 hr0_2
 have HC0_2 := Goto.m0 hc0_2
 clear hr0_2 hc0_2
 have HR0_3 := Goto.m0 hr0_3
 have HC0_3 := Goto.m0 hc0_3
 clear hr0_3 hc0_3
 have HB := Goto.m0 (Below.refl w.heap.size w)
 have H : (low_Strict.l0 k (l0_3.length : Int) 0 a0_0 a0_1 l0_2 l0_3 a1_0 a1_1) = some r := h
 clear h
 have H' := Goto.m0 H
 clear H
 go_enter Try.func16, Try.ntmps16
 go_wp2_with (first | ((with_reducible refine gate_dst (N := 2) rfl ?_); (try (refine gate_guard (by rfl) ?_; dsimp only)); refine box_event ?hg (N := 2) ?hd (cs := #[.int .i64 a0_0, .int .i64 a0_1, .slice A0_2 l0_2.length c0_2, .slice A0_3 l0_3.length c0_3]) (t := 25) ?hr ?_; (case hd => rfl); (case hg => rfl); (case hr => first | (go_simp; done) | (go_simp; rfl)); intro gb285 hg w3 hbox hb; have BK285 := Goto.m0 (hbox); have GW285 := Goto.gs HB hg; have GE285 := Goto.gs HB hg; replace HB := Goto.hs HB hb; clear hb hbox hg) | ((with_reducible refine gate_dst (N := 3) rfl ?_); (try (refine gate_guard (by rfl) ?_; dsimp only)); refine box_event ?hg (N := 3) ?hd (cs := #[.int .i64 a1_0, .int .u64 a1_1]) (t := 32) ?hr ?_; (case hd => rfl); (case hg => rfl); (case hr => first | (go_simp; done) | (go_simp; rfl)); intro gb286 hg w4 hbox hb; have BK286 := Goto.m0 (hbox); have GW286 := Goto.gs HB hg; have GE286 := Goto.gs HB hg; have NB285_286 := Goto.nl BK285 hg; have NB286_285 := Goto.nr BK285 hg; replace BK285 := Goto.bb BK285 hb; replace HB := Goto.hs HB hb; clear hb hbox hg; have hnb5 := NB285_286.out; have hnc5 := NB286_285.out; have hcz6_0 := Goto.bc0 BK285; have hcz6_1 := Goto.bc1 BK285; have hcz6_2 := Goto.bc2 BK285; have hcz6_3 := Goto.bc3 BK285; have hfz6_0 := Goto.bf BK285 0; have hfz6_1 := Goto.bf BK285 1; have hfz6_2 := Goto.bf BK285 2; have hfz6_3 := Goto.bf BK285 3))
 go_loopg [9] k (fun kq v9 w' => ∃ (x9_1 : Int), v9 = .int .i64 x9_1 ∧ Aside0 (low_Strict.l0 kq (l0_3.length : Int) x9_1 a0_0 a0_1 l0_2 l0_3 a1_0 a1_1 = some r) ∧ Aside0 (kq ≤ k) ∧ Aside0 (w'.heap[gb285]? = some (.cells #[.int .i64 a0_0, .int .i64 a0_1, (.slice A0_2 l0_2.length c0_2), (.slice A0_3 l0_3.length c0_3)] 25 (0, 0))) ∧ Aside0 (w'.heap[gb286]? = some (.cells #[.int .i64 a1_0, .int .u64 a1_1] 32 (0, 0))) ∧ Aside0 (Below w.heap.size w w'))
 case atStart => exact ⟨(0), (by first | rfl | (simp; done) | (simp [*]; done)), H', ⟨Nat.le_refl _⟩, ⟨Goto.bx BK285⟩, ⟨Goto.bx BK286⟩, ⟨Goto.hx HB⟩⟩
 case round =>
  clear H'
  try clear c1; try clear p2; try clear c5; try clear hcz6_0; try clear hcz6_1; try clear hcz6_2; try clear hcz6_3; try clear hfz6_0; try clear hfz6_1; try clear hfz6_2; try clear hfz6_3
  obtain ⟨x9_1, rfl, HA, HK1, BK285, BK286, HB⟩ := hrel
  cases gk with
  | zero => exact absurd HA.out (by simp [low_Strict.l0])
  | succ k1 =>
   have H := HA.out; clear HA
   simp only [low_Strict.l0] at H
   by_cases c7 : x9_1 < (l0_3.length : Int)
   ·
    rw [if_pos c7] at H
    have c7b0 : decide (x9_1 < (l0_3.length : Int)) = true := decide_eq_true c7
    clear c7
    replace H := Option.bind_eq_some_iff.mp H
    obtain ⟨t287, A80, H⟩ := H
    have A8 := Goto.m0 A80
    clear A80
    by_cases c9 : t287 = true
    ·
     subst c9
     rw [if_pos rfl] at H
     by_cases c10 : 0 ≤ x9_1
     ·
      rw [if_pos c10] at H
      have c10b0 : decide (0 ≤ x9_1) = true := decide_eq_true c10
      clear c10
      by_cases c11 : x9_1 < (l0_3.length : Int)
      ·
       rw [if_pos c11] at H
       have c11b0 : decide (x9_1 < (l0_3.length : Int)) = true := decide_eq_true c11
       clear c11
       by_cases c12 : (((rd_T46 l0_3 x9_1).f2).length : Int) > 1
       ·
        rw [if_pos c12] at H
        have c12b0 : decide (1 < (((rd_T46 l0_3 x9_1).f2).length : Int)) = true := decide_eq_true c12
        have c12b1 : decide (1 < ((rd_T46 l0_3 x9_1).f2).length) = true := decide_eq_true (by omega)
        clear c12
        obtain rfl := Option.some.inj H
        have hnb13 := NB285_286.out; have hnc13 := NB286_285.out; have hcz14_0 := Goto.bc0 BK285; have hcz14_1 := Goto.bc1 BK285; have hcz14_2 := Goto.bc2 BK285; have hcz14_3 := Goto.bc3 BK285; have hfz14_0 := Goto.bf BK285 0; have hfz14_1 := Goto.bf BK285 1; have hfz14_2 := Goto.bf BK285 2; have hfz14_3 := Goto.bf BK285 3; have hcz15_0 := Goto.bc0 BK286; have hcz15_1 := Goto.bc1 BK286; have hfz15_0 := Goto.bf BK286 0; have hfz15_1 := Goto.bf BK286 1
        go_wp2_with (first | ((first | (with_reducible refine gate_callee (f := 30) rfl ?_) | (with_reducible refine Goto.gate_calleeF rfl ?_)); (first | refine goesL_ (some 15) rfl rfl Try.func30 (by kernel_rfl) rfl #[.agg #[.int .i64 a0_0, .int .i64 a0_1, .slice A0_2 l0_2.length c0_2, .slice A0_3 l0_3.length c0_3], .int .i64 x9_1, .agg #[.int .i64 a1_0, .int .u64 a1_1]] rfl (by (try simp only [List.map_toArray, List.map_cons, List.map_nil]); first | done | rfl | (simp only [List.length_drop, List.length_take]; rfl)) ?_ | refine Goto.goesF_ (some 15) rfl rfl Try.func30 (by kernel_rfl) rfl #[.agg #[.int .i64 a0_0, .int .i64 a0_1, .slice A0_2 l0_2.length c0_2, .slice A0_3 l0_3.length c0_3], .int .i64 x9_1, .agg #[.int .i64 a1_0, .int .u64 a1_1]] rfl (by (try simp only [List.map_toArray, List.map_cons, List.map_nil]); first | done | rfl | (simp only [List.length_drop, List.length_take]; rfl)) ?_); (with_reducible refine (low_high.calls a0_0 a0_1 _ _ l0_2 _ _ l0_3 x9_1 a1_0 a1_1 true _ ?side1 ?side2 ?side3 ?side4 A8.out).mono ?_); (case side1 => repeat (first | exact (Kd.C_below HR0_2.out HB.out) | (with_reducible refine Kd.C_alloc ?_ _) | (with_reducible refine Kd.C_drewN ?_ _) | (with_reducible refine Kd.C_drew ?_))); (case side2 => exact HC0_2.out); (case side3 => repeat (first | exact (Kd.C_below HR0_3.out HB.out) | (with_reducible refine Kd.C_alloc ?_ _) | (with_reducible refine Kd.C_drewN ?_ _) | (with_reducible refine Kd.C_drew ?_))); (case side4 => exact HC0_3.out); rintro e w16 ⟨rfl, hb⟩; refine ⟨_, rfl, ?_⟩; replace BK285 := Goto.bb BK285 hb; replace BK286 := Goto.bb BK286 hb; replace HB := Goto.hs HB hb; (try clear hb); (try clear hb2); (try clear hk); (try clear hi); have hcz17_0 := Goto.bc0 BK285; have hcz17_1 := Goto.bc1 BK285; have hcz17_2 := Goto.bc2 BK285; have hcz17_3 := Goto.bc3 BK285; have hfz17_0 := Goto.bf BK285 0; have hfz17_1 := Goto.bf BK285 1; have hfz17_2 := Goto.bf BK285 2; have hfz17_3 := Goto.bf BK285 3; have p288 : 0 ≤ (x9_1 : Int) := Goto.od; have q288 : x9_1 < (l0_3.length : Int) := Goto.od; obtain ⟨ad288, A288_2, c288_2, A288_3, c288_3, e288, hx288_0, hx288_1, hx288_2, hx288_3, hx288_4, hx288_5, hx288_6, hx288_7, hx288_8, hx288_9, hl288_2, hi288_2, hl288_3, hi288_3⟩ := at_T46 HR0_3.out x9_1 p288 q288; cases e288; replace hx288_0 := Goto.kc HB.out hx288_0; replace hx288_1 := Goto.kc HB.out hx288_1; replace hx288_2 := Goto.kc HB.out hx288_2; replace hx288_3 := Goto.kc HB.out hx288_3; replace hx288_4 := Goto.kc HB.out hx288_4; replace hx288_5 := Goto.kc HB.out hx288_5; replace hx288_6 := Goto.kc HB.out hx288_6; replace hx288_7 := Goto.kc HB.out hx288_7; replace hx288_8 := Goto.kc HB.out hx288_8; replace hx288_9 := Goto.kc HB.out hx288_9; have HR288_2 := Goto.m0 hi288_2; have HC288_2 := Goto.m0 hl288_2; clear hi288_2 hl288_2; have HR288_3 := Goto.m0 hi288_3; have HC288_3 := Goto.m0 hl288_3; clear hi288_3 hl288_3; replace p288 := eq_true p288; replace q288 := eq_true q288))
        go_ret
        exact ⟨Goto.er, by repeat (first | (with_reducible first | exact HB.out | apply below_alloc | apply pw_below_drewN | apply below_drew1 | refine below_set ?_ GE285.out | refine below_set ?_ GE286.out) | exact HB.out)⟩
       ·
        rw [if_neg c12] at H
        have c12b0 : decide (1 < (((rd_T46 l0_3 x9_1).f2).length : Int)) = false := decide_eq_false c12
        have c12b1 : decide (1 < ((rd_T46 l0_3 x9_1).f2).length) = false := decide_eq_false (by omega)
        clear c12
        have H' := Goto.m0 H
        clear H; have hnb18 := NB285_286.out; have hnc18 := NB286_285.out; have hcz19_0 := Goto.bc0 BK285; have hcz19_1 := Goto.bc1 BK285; have hcz19_2 := Goto.bc2 BK285; have hcz19_3 := Goto.bc3 BK285; have hfz19_0 := Goto.bf BK285 0; have hfz19_1 := Goto.bf BK285 1; have hfz19_2 := Goto.bf BK285 2; have hfz19_3 := Goto.bf BK285 3; have hcz20_0 := Goto.bc0 BK286; have hcz20_1 := Goto.bc1 BK286; have hfz20_0 := Goto.bf BK286 0; have hfz20_1 := Goto.bf BK286 1
        go_wp2_with (first | ((first | (with_reducible refine gate_callee (f := 30) rfl ?_) | (with_reducible refine Goto.gate_calleeF rfl ?_)); (first | refine goesL_ (some 15) rfl rfl Try.func30 (by kernel_rfl) rfl #[.agg #[.int .i64 a0_0, .int .i64 a0_1, .slice A0_2 l0_2.length c0_2, .slice A0_3 l0_3.length c0_3], .int .i64 x9_1, .agg #[.int .i64 a1_0, .int .u64 a1_1]] rfl (by (try simp only [List.map_toArray, List.map_cons, List.map_nil]); first | done | rfl | (simp only [List.length_drop, List.length_take]; rfl)) ?_ | refine Goto.goesF_ (some 15) rfl rfl Try.func30 (by kernel_rfl) rfl #[.agg #[.int .i64 a0_0, .int .i64 a0_1, .slice A0_2 l0_2.length c0_2, .slice A0_3 l0_3.length c0_3], .int .i64 x9_1, .agg #[.int .i64 a1_0, .int .u64 a1_1]] rfl (by (try simp only [List.map_toArray, List.map_cons, List.map_nil]); first | done | rfl | (simp only [List.length_drop, List.length_take]; rfl)) ?_); (with_reducible refine (low_high.calls a0_0 a0_1 _ _ l0_2 _ _ l0_3 x9_1 a1_0 a1_1 true _ ?side1 ?side2 ?side3 ?side4 A8.out).mono ?_); (case side1 => repeat (first | exact (Kd.C_below HR0_2.out HB.out) | (with_reducible refine Kd.C_alloc ?_ _) | (with_reducible refine Kd.C_drewN ?_ _) | (with_reducible refine Kd.C_drew ?_))); (case side2 => exact HC0_2.out); (case side3 => repeat (first | exact (Kd.C_below HR0_3.out HB.out) | (with_reducible refine Kd.C_alloc ?_ _) | (with_reducible refine Kd.C_drewN ?_ _) | (with_reducible refine Kd.C_drew ?_))); (case side4 => exact HC0_3.out); rintro e w21 ⟨rfl, hb⟩; refine ⟨_, rfl, ?_⟩; replace BK285 := Goto.bb BK285 hb; replace BK286 := Goto.bb BK286 hb; replace HB := Goto.hs HB hb; (try clear hb); (try clear hb2); (try clear hk); (try clear hi); have hcz22_0 := Goto.bc0 BK285; have hcz22_1 := Goto.bc1 BK285; have hcz22_2 := Goto.bc2 BK285; have hcz22_3 := Goto.bc3 BK285; have hfz22_0 := Goto.bf BK285 0; have hfz22_1 := Goto.bf BK285 1; have hfz22_2 := Goto.bf BK285 2; have hfz22_3 := Goto.bf BK285 3; have p288 : 0 ≤ (x9_1 : Int) := Goto.od; have q288 : x9_1 < (l0_3.length : Int) := Goto.od; obtain ⟨ad288, A288_2, c288_2, A288_3, c288_3, e288, hx288_0, hx288_1, hx288_2, hx288_3, hx288_4, hx288_5, hx288_6, hx288_7, hx288_8, hx288_9, hl288_2, hi288_2, hl288_3, hi288_3⟩ := at_T46 HR0_3.out x9_1 p288 q288; cases e288; replace hx288_0 := Goto.kc HB.out hx288_0; replace hx288_1 := Goto.kc HB.out hx288_1; replace hx288_2 := Goto.kc HB.out hx288_2; replace hx288_3 := Goto.kc HB.out hx288_3; replace hx288_4 := Goto.kc HB.out hx288_4; replace hx288_5 := Goto.kc HB.out hx288_5; replace hx288_6 := Goto.kc HB.out hx288_6; replace hx288_7 := Goto.kc HB.out hx288_7; replace hx288_8 := Goto.kc HB.out hx288_8; replace hx288_9 := Goto.kc HB.out hx288_9; have HR288_2 := Goto.m0 hi288_2; have HC288_2 := Goto.m0 hl288_2; clear hi288_2 hl288_2; have HR288_3 := Goto.m0 hi288_3; have HC288_3 := Goto.m0 hl288_3; clear hi288_3 hl288_3; replace p288 := eq_true p288; replace q288 := eq_true q288))
        go_roundg k1
        case measure => have := HK1.out; omega
        case rel => exact ⟨(wrap64 (x9_1 + 1)), (by first | rfl | (simp; done) | (simp [*]; done)), H', ⟨by have := HK1.out; omega⟩, ⟨Goto.bx BK285⟩, ⟨Goto.bx BK286⟩, ⟨Goto.hx HB⟩⟩
      ·
       rw [if_neg c11] at H
       exact absurd H (by simp)
     ·
      rw [if_neg c10] at H
      exact absurd H (by simp)
    ·
     replace c9 := Bool.eq_false_iff.mpr c9
     subst c9
     rw [if_neg (show ¬ (false = true) by decide)] at H
     have H' := Goto.m0 H
     clear H; have hnb23 := NB285_286.out; have hnc23 := NB286_285.out; have hcz24_0 := Goto.bc0 BK285; have hcz24_1 := Goto.bc1 BK285; have hcz24_2 := Goto.bc2 BK285; have hcz24_3 := Goto.bc3 BK285; have hfz24_0 := Goto.bf BK285 0; have hfz24_1 := Goto.bf BK285 1; have hfz24_2 := Goto.bf BK285 2; have hfz24_3 := Goto.bf BK285 3; have hcz25_0 := Goto.bc0 BK286; have hcz25_1 := Goto.bc1 BK286; have hfz25_0 := Goto.bf BK286 0; have hfz25_1 := Goto.bf BK286 1
     go_wp2_with (first | ((first | (with_reducible refine gate_callee (f := 30) rfl ?_) | (with_reducible refine Goto.gate_calleeF rfl ?_)); (first | refine goesL_ (some 15) rfl rfl Try.func30 (by kernel_rfl) rfl #[.agg #[.int .i64 a0_0, .int .i64 a0_1, .slice A0_2 l0_2.length c0_2, .slice A0_3 l0_3.length c0_3], .int .i64 x9_1, .agg #[.int .i64 a1_0, .int .u64 a1_1]] rfl (by (try simp only [List.map_toArray, List.map_cons, List.map_nil]); first | done | rfl | (simp only [List.length_drop, List.length_take]; rfl)) ?_ | refine Goto.goesF_ (some 15) rfl rfl Try.func30 (by kernel_rfl) rfl #[.agg #[.int .i64 a0_0, .int .i64 a0_1, .slice A0_2 l0_2.length c0_2, .slice A0_3 l0_3.length c0_3], .int .i64 x9_1, .agg #[.int .i64 a1_0, .int .u64 a1_1]] rfl (by (try simp only [List.map_toArray, List.map_cons, List.map_nil]); first | done | rfl | (simp only [List.length_drop, List.length_take]; rfl)) ?_); (with_reducible refine (low_high.calls a0_0 a0_1 _ _ l0_2 _ _ l0_3 x9_1 a1_0 a1_1 false _ ?side1 ?side2 ?side3 ?side4 A8.out).mono ?_); (case side1 => repeat (first | exact (Kd.C_below HR0_2.out HB.out) | (with_reducible refine Kd.C_alloc ?_ _) | (with_reducible refine Kd.C_drewN ?_ _) | (with_reducible refine Kd.C_drew ?_))); (case side2 => exact HC0_2.out); (case side3 => repeat (first | exact (Kd.C_below HR0_3.out HB.out) | (with_reducible refine Kd.C_alloc ?_ _) | (with_reducible refine Kd.C_drewN ?_ _) | (with_reducible refine Kd.C_drew ?_))); (case side4 => exact HC0_3.out); rintro e w26 ⟨rfl, hb⟩; refine ⟨_, rfl, ?_⟩; replace BK285 := Goto.bb BK285 hb; replace BK286 := Goto.bb BK286 hb; replace HB := Goto.hs HB hb; (try clear hb); (try clear hb2); (try clear hk); (try clear hi)))
     go_roundg k1
     case measure => have := HK1.out; omega
     case rel => exact ⟨(wrap64 (x9_1 + 1)), (by first | rfl | (simp; done) | (simp [*]; done)), H', ⟨by have := HK1.out; omega⟩, ⟨Goto.bx BK285⟩, ⟨Goto.bx BK286⟩, ⟨Goto.hx HB⟩⟩
   ·
    rw [if_neg c7] at H
    have c7b0 : decide (x9_1 < (l0_3.length : Int)) = false := decide_eq_false c7
    clear c7
    obtain rfl := Option.some.inj H
    go_wp2
    go_ret
    exact ⟨Goto.er, by repeat (first | (with_reducible first | exact HB.out | apply below_alloc | apply pw_below_drewN | apply below_drew1 | refine below_set ?_ GE285.out | refine below_set ?_ GE286.out) | exact HB.out)⟩

/-! ### tontinehelp_Base: function 25 -/
def tontinehelp_Base.f  : Option (Int × Int × (List (List Int)) × (List (S46))) := some (8, 2, (([(([2, 2, 2, 2] : List Int)), (([5, 1, 1, 1] : List Int))] : List (List Int))), (([(⟨(⟨0, 0⟩ : S32), (([(([1, 3] : List Int)), (([2, 3] : List Int))] : List (List Int))), ([] : List Int), (-1), 4, 2, 4, 3, 2⟩ : S46), (⟨(⟨1, 1⟩ : S32), (([(([3] : List Int))] : List (List Int))), (([0, 1] : List Int)), 0, 4, 2, 4, 3, 2⟩ : S46), (⟨(⟨1, 2⟩ : S32), (([(([3] : List Int))] : List (List Int))), ([] : List Int), (-1), 4, 2, 4, 3, 2⟩ : S46), (⟨(⟨2, 3⟩ : S32), ([] : List (List Int)), (([0, 1, 2] : List Int)), 1, 4, 2, 4, 3, 2⟩ : S46)] : List (S46))))
set_option maxHeartbeats 8000000 in
set_option maxRecDepth 100000 in
theorem tontinehelp_Base.calls  (r1 : Int) (r2 : Int) (r3 : List (List Int)) (r4 : List (S46)) (w : World) (h : tontinehelp_Base.f  = some (r1, r2, r3, r4)) :
    Calls Try.prog 25 #[] w fun e w' => ∃ v2_ v3_ : Value, e = .returned (.agg #[.int .i64 r1, .int .i64 r2, v2_, v3_]) ∧ Kd.N (Kd.slice 3 (Kd.int .i64)) 44 w' w.heap.size (fun k_ => (w.heap.size ≤ k_) ∧ some k_ ≠ (v3_ : Value).ownBlock) v2_ r3 ∧ Kd.N k46 46 w' w.heap.size (fun k_ => (w.heap.size ≤ k_) ∧ some k_ ≠ (v2_ : Value).ownBlock) v3_ r4 ∧ Below w.heap.size w w' := by
 have hu25 := Try.underlying25; have hu32 := Try.underlying32; have hu46 := Try.underlying46
 have HB := Goto.m0 (Below.refl w.heap.size w)
 have H : (some (8, 2, (([(([2, 2, 2, 2] : List Int)), (([5, 1, 1, 1] : List Int))] : List (List Int))), (([(⟨(⟨0, 0⟩ : S32), (([(([1, 3] : List Int)), (([2, 3] : List Int))] : List (List Int))), ([] : List Int), (-1), 4, 2, 4, 3, 2⟩ : S46), (⟨(⟨1, 1⟩ : S32), (([(([3] : List Int))] : List (List Int))), (([0, 1] : List Int)), 0, 4, 2, 4, 3, 2⟩ : S46), (⟨(⟨1, 2⟩ : S32), (([(([3] : List Int))] : List (List Int))), ([] : List Int), (-1), 4, 2, 4, 3, 2⟩ : S46), (⟨(⟨2, 3⟩ : S32), ([] : List (List Int)), (([0, 1, 2] : List Int)), 1, 4, 2, 4, 3, 2⟩ : S46)] : List (S46))))) = some (r1, r2, r3, r4) := h
 clear h
 obtain ⟨y290, hy290⟩ : ∃ y_ : List Int, y_ = (([2, 2, 2, 2] : List Int)) := ⟨_, rfl⟩
 replace H : (some (8, 2, (([y290, (([5, 1, 1, 1] : List Int))] : List (List Int))), (([(⟨(⟨0, 0⟩ : S32), (([(([1, 3] : List Int)), (([2, 3] : List Int))] : List (List Int))), ([] : List Int), (-1), 4, 2, 4, 3, 2⟩ : S46), (⟨(⟨1, 1⟩ : S32), (([(([3] : List Int))] : List (List Int))), (([0, 1] : List Int)), 0, 4, 2, 4, 3, 2⟩ : S46), (⟨(⟨1, 2⟩ : S32), (([(([3] : List Int))] : List (List Int))), ([] : List Int), (-1), 4, 2, 4, 3, 2⟩ : S46), (⟨(⟨2, 3⟩ : S32), ([] : List (List Int)), (([0, 1, 2] : List Int)), 1, 4, 2, 4, 3, 2⟩ : S46)] : List (S46))))) = some (r1, r2, r3, r4) := by first | (rw [hy290]; with_reducible exact H) | (have H2_ := (Option.bind_some _ _).symm.trans H; rw [hy290]; with_reducible exact H2_) | (have H2_ := (Option.bind_some _ _).symm.trans H; with_reducible exact H2_) | with_reducible exact H | (rw [hy290]; exact H) | exact H
 have Ny290 := Goto.m0 hy290
 clear hy290
 obtain ⟨y293, hy293⟩ : ∃ y_ : List Int, y_ = (([5, 1, 1, 1] : List Int)) := ⟨_, rfl⟩
 replace H : (some (8, 2, (([y290, y293] : List (List Int))), (([(⟨(⟨0, 0⟩ : S32), (([(([1, 3] : List Int)), (([2, 3] : List Int))] : List (List Int))), ([] : List Int), (-1), 4, 2, 4, 3, 2⟩ : S46), (⟨(⟨1, 1⟩ : S32), (([(([3] : List Int))] : List (List Int))), (([0, 1] : List Int)), 0, 4, 2, 4, 3, 2⟩ : S46), (⟨(⟨1, 2⟩ : S32), (([(([3] : List Int))] : List (List Int))), ([] : List Int), (-1), 4, 2, 4, 3, 2⟩ : S46), (⟨(⟨2, 3⟩ : S32), ([] : List (List Int)), (([0, 1, 2] : List Int)), 1, 4, 2, 4, 3, 2⟩ : S46)] : List (S46))))) = some (r1, r2, r3, r4) := by first | (rw [hy293]; with_reducible exact H) | (have H2_ := (Option.bind_some _ _).symm.trans H; rw [hy293]; with_reducible exact H2_) | (have H2_ := (Option.bind_some _ _).symm.trans H; with_reducible exact H2_) | with_reducible exact H | (rw [hy293]; exact H) | exact H
 have Ny293 := Goto.m0 hy293
 clear hy293
 obtain ⟨y296, hy296⟩ : ∃ y_ : List (List Int), y_ = (([y290, y293] : List (List Int))) := ⟨_, rfl⟩
 replace H : (some (8, 2, y296, (([(⟨(⟨0, 0⟩ : S32), (([(([1, 3] : List Int)), (([2, 3] : List Int))] : List (List Int))), ([] : List Int), (-1), 4, 2, 4, 3, 2⟩ : S46), (⟨(⟨1, 1⟩ : S32), (([(([3] : List Int))] : List (List Int))), (([0, 1] : List Int)), 0, 4, 2, 4, 3, 2⟩ : S46), (⟨(⟨1, 2⟩ : S32), (([(([3] : List Int))] : List (List Int))), ([] : List Int), (-1), 4, 2, 4, 3, 2⟩ : S46), (⟨(⟨2, 3⟩ : S32), ([] : List (List Int)), (([0, 1, 2] : List Int)), 1, 4, 2, 4, 3, 2⟩ : S46)] : List (S46))))) = some (r1, r2, r3, r4) := by first | (rw [hy296]; with_reducible exact H) | (have H2_ := (Option.bind_some _ _).symm.trans H; rw [hy296]; with_reducible exact H2_) | (have H2_ := (Option.bind_some _ _).symm.trans H; with_reducible exact H2_) | with_reducible exact H | (rw [hy296]; exact H) | exact H
 have Ny296 := Goto.m0 hy296
 clear hy296
 obtain ⟨y299, hy299⟩ : ∃ y_ : List Int, y_ = (([1, 3] : List Int)) := ⟨_, rfl⟩
 replace H : (some (8, 2, y296, (([(⟨(⟨0, 0⟩ : S32), (([y299, (([2, 3] : List Int))] : List (List Int))), ([] : List Int), (-1), 4, 2, 4, 3, 2⟩ : S46), (⟨(⟨1, 1⟩ : S32), (([(([3] : List Int))] : List (List Int))), (([0, 1] : List Int)), 0, 4, 2, 4, 3, 2⟩ : S46), (⟨(⟨1, 2⟩ : S32), (([(([3] : List Int))] : List (List Int))), ([] : List Int), (-1), 4, 2, 4, 3, 2⟩ : S46), (⟨(⟨2, 3⟩ : S32), ([] : List (List Int)), (([0, 1, 2] : List Int)), 1, 4, 2, 4, 3, 2⟩ : S46)] : List (S46))))) = some (r1, r2, r3, r4) := by first | (rw [hy299]; with_reducible exact H) | (have H2_ := (Option.bind_some _ _).symm.trans H; rw [hy299]; with_reducible exact H2_) | (have H2_ := (Option.bind_some _ _).symm.trans H; with_reducible exact H2_) | with_reducible exact H | (rw [hy299]; exact H) | exact H
 have Ny299 := Goto.m0 hy299
 clear hy299
 obtain ⟨y302, hy302⟩ : ∃ y_ : List Int, y_ = (([2, 3] : List Int)) := ⟨_, rfl⟩
 replace H : (some (8, 2, y296, (([(⟨(⟨0, 0⟩ : S32), (([y299, y302] : List (List Int))), ([] : List Int), (-1), 4, 2, 4, 3, 2⟩ : S46), (⟨(⟨1, 1⟩ : S32), (([(([3] : List Int))] : List (List Int))), (([0, 1] : List Int)), 0, 4, 2, 4, 3, 2⟩ : S46), (⟨(⟨1, 2⟩ : S32), (([(([3] : List Int))] : List (List Int))), ([] : List Int), (-1), 4, 2, 4, 3, 2⟩ : S46), (⟨(⟨2, 3⟩ : S32), ([] : List (List Int)), (([0, 1, 2] : List Int)), 1, 4, 2, 4, 3, 2⟩ : S46)] : List (S46))))) = some (r1, r2, r3, r4) := by first | (rw [hy302]; with_reducible exact H) | (have H2_ := (Option.bind_some _ _).symm.trans H; rw [hy302]; with_reducible exact H2_) | (have H2_ := (Option.bind_some _ _).symm.trans H; with_reducible exact H2_) | with_reducible exact H | (rw [hy302]; exact H) | exact H
 have Ny302 := Goto.m0 hy302
 clear hy302
 obtain ⟨y305, hy305⟩ : ∃ y_ : List (List Int), y_ = (([y299, y302] : List (List Int))) := ⟨_, rfl⟩
 replace H : (some (8, 2, y296, (([(⟨(⟨0, 0⟩ : S32), y305, ([] : List Int), (-1), 4, 2, 4, 3, 2⟩ : S46), (⟨(⟨1, 1⟩ : S32), (([(([3] : List Int))] : List (List Int))), (([0, 1] : List Int)), 0, 4, 2, 4, 3, 2⟩ : S46), (⟨(⟨1, 2⟩ : S32), (([(([3] : List Int))] : List (List Int))), ([] : List Int), (-1), 4, 2, 4, 3, 2⟩ : S46), (⟨(⟨2, 3⟩ : S32), ([] : List (List Int)), (([0, 1, 2] : List Int)), 1, 4, 2, 4, 3, 2⟩ : S46)] : List (S46))))) = some (r1, r2, r3, r4) := by first | (rw [hy305]; with_reducible exact H) | (have H2_ := (Option.bind_some _ _).symm.trans H; rw [hy305]; with_reducible exact H2_) | (have H2_ := (Option.bind_some _ _).symm.trans H; with_reducible exact H2_) | with_reducible exact H | (rw [hy305]; exact H) | exact H
 have Ny305 := Goto.m0 hy305
 clear hy305
 obtain ⟨y308, hy308⟩ : ∃ y_ : List Int, y_ = (([3] : List Int)) := ⟨_, rfl⟩
 replace H : (some (8, 2, y296, (([(⟨(⟨0, 0⟩ : S32), y305, ([] : List Int), (-1), 4, 2, 4, 3, 2⟩ : S46), (⟨(⟨1, 1⟩ : S32), (([y308] : List (List Int))), (([0, 1] : List Int)), 0, 4, 2, 4, 3, 2⟩ : S46), (⟨(⟨1, 2⟩ : S32), (([(([3] : List Int))] : List (List Int))), ([] : List Int), (-1), 4, 2, 4, 3, 2⟩ : S46), (⟨(⟨2, 3⟩ : S32), ([] : List (List Int)), (([0, 1, 2] : List Int)), 1, 4, 2, 4, 3, 2⟩ : S46)] : List (S46))))) = some (r1, r2, r3, r4) := by first | (rw [hy308]; with_reducible exact H) | (have H2_ := (Option.bind_some _ _).symm.trans H; rw [hy308]; with_reducible exact H2_) | (have H2_ := (Option.bind_some _ _).symm.trans H; with_reducible exact H2_) | with_reducible exact H | (rw [hy308]; exact H) | exact H
 have Ny308 := Goto.m0 hy308
 clear hy308
 obtain ⟨y311, hy311⟩ : ∃ y_ : List (List Int), y_ = (([y308] : List (List Int))) := ⟨_, rfl⟩
 replace H : (some (8, 2, y296, (([(⟨(⟨0, 0⟩ : S32), y305, ([] : List Int), (-1), 4, 2, 4, 3, 2⟩ : S46), (⟨(⟨1, 1⟩ : S32), y311, (([0, 1] : List Int)), 0, 4, 2, 4, 3, 2⟩ : S46), (⟨(⟨1, 2⟩ : S32), (([(([3] : List Int))] : List (List Int))), ([] : List Int), (-1), 4, 2, 4, 3, 2⟩ : S46), (⟨(⟨2, 3⟩ : S32), ([] : List (List Int)), (([0, 1, 2] : List Int)), 1, 4, 2, 4, 3, 2⟩ : S46)] : List (S46))))) = some (r1, r2, r3, r4) := by first | (rw [hy311]; with_reducible exact H) | (have H2_ := (Option.bind_some _ _).symm.trans H; rw [hy311]; with_reducible exact H2_) | (have H2_ := (Option.bind_some _ _).symm.trans H; with_reducible exact H2_) | with_reducible exact H | (rw [hy311]; exact H) | exact H
 have Ny311 := Goto.m0 hy311
 clear hy311
 obtain ⟨y314, hy314⟩ : ∃ y_ : List Int, y_ = (([0, 1] : List Int)) := ⟨_, rfl⟩
 replace H : (some (8, 2, y296, (([(⟨(⟨0, 0⟩ : S32), y305, ([] : List Int), (-1), 4, 2, 4, 3, 2⟩ : S46), (⟨(⟨1, 1⟩ : S32), y311, y314, 0, 4, 2, 4, 3, 2⟩ : S46), (⟨(⟨1, 2⟩ : S32), (([(([3] : List Int))] : List (List Int))), ([] : List Int), (-1), 4, 2, 4, 3, 2⟩ : S46), (⟨(⟨2, 3⟩ : S32), ([] : List (List Int)), (([0, 1, 2] : List Int)), 1, 4, 2, 4, 3, 2⟩ : S46)] : List (S46))))) = some (r1, r2, r3, r4) := by first | (rw [hy314]; with_reducible exact H) | (have H2_ := (Option.bind_some _ _).symm.trans H; rw [hy314]; with_reducible exact H2_) | (have H2_ := (Option.bind_some _ _).symm.trans H; with_reducible exact H2_) | with_reducible exact H | (rw [hy314]; exact H) | exact H
 have Ny314 := Goto.m0 hy314
 clear hy314
 obtain ⟨y317, hy317⟩ : ∃ y_ : List Int, y_ = (([3] : List Int)) := ⟨_, rfl⟩
 replace H : (some (8, 2, y296, (([(⟨(⟨0, 0⟩ : S32), y305, ([] : List Int), (-1), 4, 2, 4, 3, 2⟩ : S46), (⟨(⟨1, 1⟩ : S32), y311, y314, 0, 4, 2, 4, 3, 2⟩ : S46), (⟨(⟨1, 2⟩ : S32), (([y317] : List (List Int))), ([] : List Int), (-1), 4, 2, 4, 3, 2⟩ : S46), (⟨(⟨2, 3⟩ : S32), ([] : List (List Int)), (([0, 1, 2] : List Int)), 1, 4, 2, 4, 3, 2⟩ : S46)] : List (S46))))) = some (r1, r2, r3, r4) := by first | (rw [hy317]; with_reducible exact H) | (have H2_ := (Option.bind_some _ _).symm.trans H; rw [hy317]; with_reducible exact H2_) | (have H2_ := (Option.bind_some _ _).symm.trans H; with_reducible exact H2_) | with_reducible exact H | (rw [hy317]; exact H) | exact H
 have Ny317 := Goto.m0 hy317
 clear hy317
 obtain ⟨y320, hy320⟩ : ∃ y_ : List (List Int), y_ = (([y317] : List (List Int))) := ⟨_, rfl⟩
 replace H : (some (8, 2, y296, (([(⟨(⟨0, 0⟩ : S32), y305, ([] : List Int), (-1), 4, 2, 4, 3, 2⟩ : S46), (⟨(⟨1, 1⟩ : S32), y311, y314, 0, 4, 2, 4, 3, 2⟩ : S46), (⟨(⟨1, 2⟩ : S32), y320, ([] : List Int), (-1), 4, 2, 4, 3, 2⟩ : S46), (⟨(⟨2, 3⟩ : S32), ([] : List (List Int)), (([0, 1, 2] : List Int)), 1, 4, 2, 4, 3, 2⟩ : S46)] : List (S46))))) = some (r1, r2, r3, r4) := by first | (rw [hy320]; with_reducible exact H) | (have H2_ := (Option.bind_some _ _).symm.trans H; rw [hy320]; with_reducible exact H2_) | (have H2_ := (Option.bind_some _ _).symm.trans H; with_reducible exact H2_) | with_reducible exact H | (rw [hy320]; exact H) | exact H
 have Ny320 := Goto.m0 hy320
 clear hy320
 obtain ⟨y323, hy323⟩ : ∃ y_ : List Int, y_ = (([0, 1, 2] : List Int)) := ⟨_, rfl⟩
 replace H : (some (8, 2, y296, (([(⟨(⟨0, 0⟩ : S32), y305, ([] : List Int), (-1), 4, 2, 4, 3, 2⟩ : S46), (⟨(⟨1, 1⟩ : S32), y311, y314, 0, 4, 2, 4, 3, 2⟩ : S46), (⟨(⟨1, 2⟩ : S32), y320, ([] : List Int), (-1), 4, 2, 4, 3, 2⟩ : S46), (⟨(⟨2, 3⟩ : S32), ([] : List (List Int)), y323, 1, 4, 2, 4, 3, 2⟩ : S46)] : List (S46))))) = some (r1, r2, r3, r4) := by first | (rw [hy323]; with_reducible exact H) | (have H2_ := (Option.bind_some _ _).symm.trans H; rw [hy323]; with_reducible exact H2_) | (have H2_ := (Option.bind_some _ _).symm.trans H; with_reducible exact H2_) | with_reducible exact H | (rw [hy323]; exact H) | exact H
 have Ny323 := Goto.m0 hy323
 clear hy323
 obtain ⟨y326, hy326⟩ : ∃ y_ : List (S46), y_ = (([(⟨(⟨0, 0⟩ : S32), y305, ([] : List Int), (-1), 4, 2, 4, 3, 2⟩ : S46), (⟨(⟨1, 1⟩ : S32), y311, y314, 0, 4, 2, 4, 3, 2⟩ : S46), (⟨(⟨1, 2⟩ : S32), y320, ([] : List Int), (-1), 4, 2, 4, 3, 2⟩ : S46), (⟨(⟨2, 3⟩ : S32), ([] : List (List Int)), y323, 1, 4, 2, 4, 3, 2⟩ : S46)] : List (S46))) := ⟨_, rfl⟩
 replace H : (some (8, 2, y296, y326)) = some (r1, r2, r3, r4) := by first | (rw [hy326]; with_reducible exact H) | (have H2_ := (Option.bind_some _ _).symm.trans H; rw [hy326]; with_reducible exact H2_) | (have H2_ := (Option.bind_some _ _).symm.trans H; with_reducible exact H2_) | with_reducible exact H | (rw [hy326]; exact H) | exact H
 have Ny326 := Goto.m0 hy326
 clear hy326
 simp only [Option.some.injEq, Prod.mk.injEq] at H
 obtain ⟨rfl, rfl, rfl, rfl⟩ := H
 go_enter Try.func25, Try.ntmps25
 go_wp2_with (first | ((with_reducible refine gate_dst (N := 0) rfl ?_); refine box_event ?hg (N := 0) ?hd (cs := #[.int .i64 0, .int .i64 0, .slice none 0 0, .slice none 0 0]) (t := 25) ?hr ?_; (case hd => rfl); (case hg => rfl); (case hr => first | (go_simp; done) | (go_simp; rfl)); intro gb289 hg w1 hbox hb; have BK289 := Goto.m0 (hbox); have GW289 := Goto.gs HB hg; have GE289 := Goto.gs HB hg; replace HB := Goto.hs HB hb; clear hb hbox hg) | ((with_reducible refine gate_dst (N := 1) rfl ?_); refine Kd.R_lit (Kd.int .i64) _ 3 ?hg (N := 1) ?hd (xs := ([2, 2, 2, 2] : List Int)) (inner := [.int .i64 2, .int .i64 2, .int .i64 2, .int .i64 2]) (ok := fun _ => True) (okp := fun _ => True) ?hr ?hp (fun _ hk => hk) trivial (Below.refl _ _) (Nat.le_refl _) (by simp) ?_; (case hd => rfl); (case hg => rfl); (case hr => first | (go_simp; done) | (go_simp; rfl)); (case hp => exact (Reps.one (show Kd.M (Kd.int .i64) _ _ _ 2 [.int .i64 2] from rfl) (Reps.one (show Kd.M (Kd.int .i64) _ _ _ 2 [.int .i64 2] from rfl) (Reps.one (show Kd.M (Kd.int .i64) _ _ _ 2 [.int .i64 2] from rfl) (Reps.one (show Kd.M (Kd.int .i64) _ _ _ 2 [.int .i64 2] from rfl) (Reps.none _ _)))))); intro v291 w2 ho3 hb hg_ hnew_; clear hg_ hnew_; (first | rw [← Ny290.out] at ho3 | (simp only [Int.reduceToNat] at ho3; rw [← Ny290.out] at ho3)); have HO292 := Goto.m0 (Kd.R_lower (Kd.R_newM (M := fun k_ => (w.heap.size ≤ k_)) ho3 (below_size (Goto.hx HB)) (fun k_ h_ => h_)) (below_size (Goto.hx HB))); replace BK289 := Goto.bb BK289 hb; replace HB := Goto.hs HB hb; clear hb ho3) | ((with_reducible refine gate_dst (N := 2) rfl ?_); refine Kd.R_lit (Kd.int .i64) _ 3 ?hg (N := 2) ?hd (xs := ([5, 1, 1, 1] : List Int)) (inner := [.int .i64 5, .int .i64 1, .int .i64 1, .int .i64 1]) (ok := fun _ => True) (okp := fun _ => True) ?hr ?hp (fun _ hk => hk) trivial (Below.refl _ _) (Nat.le_refl _) (by simp) ?_; (case hd => rfl); (case hg => rfl); (case hr => first | (go_simp; done) | (go_simp; rfl)); (case hp => exact (Reps.one (show Kd.M (Kd.int .i64) _ _ _ 5 [.int .i64 5] from rfl) (Reps.one (show Kd.M (Kd.int .i64) _ _ _ 1 [.int .i64 1] from rfl) (Reps.one (show Kd.M (Kd.int .i64) _ _ _ 1 [.int .i64 1] from rfl) (Reps.one (show Kd.M (Kd.int .i64) _ _ _ 1 [.int .i64 1] from rfl) (Reps.none _ _)))))); intro v294 w4 ho5 hb hg_ hnew_; clear hg_ hnew_; (first | rw [← Ny293.out] at ho5 | (simp only [Int.reduceToNat] at ho5; rw [← Ny293.out] at ho5)); have HO295 := Goto.m0 (Kd.R_lower (Kd.R_new' (Kd.R_newM (M := fun k_ => (w.heap.size ≤ k_)) ho5 (below_size (Goto.hx HB)) (fun k_ h_ => h_)) (Kd.R_lt (Goto.rk HO292))) (below_size (Goto.hx HB))); replace HO292 := Goto.m0 (Kd.R_elder' (Goto.rk HO292) (Kd.R_base ho5) hb); replace BK289 := Goto.bb BK289 hb; replace HB := Goto.hs HB hb; clear hb ho5; obtain ⟨Ao6, co6, eo6⟩ := Kd.R_slice HO292.out; subst eo6; obtain ⟨Ao7, co7, eo7⟩ := Kd.R_slice HO295.out; subst eo7) | ((with_reducible refine gate_dst (N := 3) rfl ?_); refine Kd.N_lit (Kd.slice 3 (Kd.int .i64)) _ 44 ?hg (N' := 3) ?hd (xs := ([y290, y293] : List (List Int))) (inner := [.slice Ao6 y290.length co6, .slice Ao7 y293.length co7]) (ok := (fun k_ => (w.heap.size ≤ k_) ∧ k_ ≠ gb289)) (okp := (fun k_ => (w.heap.size ≤ k_) ∧ k_ ≠ gb289)) ?hr ?hp (fun _ hk => hk) ((show ∀ k_, w4.heap.size ≤ k_ → (fun k_ => (w.heap.size ≤ k_) ∧ k_ ≠ gb289) k_ from fun k_ hk => ⟨(Nat.le_trans (below_size (Goto.hx HB)) hk), Goto.fb BK289 k_ hk⟩) _ (Nat.le_refl _)) (Below.refl _ _) (Nat.le_refl _) (by simp) ?_; (case hd => rfl); (case hg => rfl); (case hr => first | (go_simp; done) | (go_simp; rfl)); (case hp => exact (Reps.one (show Kd.FK (Kd.slice 3 (Kd.int .i64)) _ _ y290 [.slice Ao6 y290.length co6] from (Kd.FK_slice_mk (Kd.R_reads' (Kd.R_mono (ok' := (fun k_ => (w.heap.size ≤ k_) ∧ k_ ≠ gb289)) (Kd.R_types (HO292.out) BK289.out (by decide)) (fun k_ hk => ⟨hk.1.1.1, hk.2⟩))).2.1 (Kd.R_F (Kd.R_mono (ok' := (fun k_ => (w.heap.size ≤ k_) ∧ k_ ≠ gb289)) (Kd.R_types (HO292.out) BK289.out (by decide)) (fun k_ hk => ⟨hk.1.1.1, hk.2⟩))))) (Reps.one (show Kd.FK (Kd.slice 3 (Kd.int .i64)) _ _ y293 [.slice Ao7 y293.length co7] from (Kd.FK_slice_mk (Kd.R_reads' (Kd.R_mono (ok' := (fun k_ => (w.heap.size ≤ k_) ∧ k_ ≠ gb289)) (Kd.R_types (HO295.out) BK289.out (by decide)) (fun k_ hk => ⟨hk.1.1.1, hk.2⟩))).2.1 (Kd.R_F (Kd.R_mono (ok' := (fun k_ => (w.heap.size ≤ k_) ∧ k_ ≠ gb289)) (Kd.R_types (HO295.out) BK289.out (by decide)) (fun k_ hk => ⟨hk.1.1.1, hk.2⟩))))) (Reps.none _ _)))); intro v297 w8 ho9 hb hg_ hnew_; clear hg_ hnew_; (first | rw [← Ny296.out] at ho9 | (simp only [Int.reduceToNat] at ho9; rw [← Ny296.out] at ho9)); have n0_ := Goto.m0 (Kd.N_lower ho9 (below_size (Goto.hx HB))); have n1_ := Goto.m0 (blk_below (g := gb289) (o := .cells #[.int .i64 0, .int .i64 0, .slice none 0 0, .slice none 0 0] 25 (0, 0)) (Goto.bx BK289) hb); have n2_ := Goto.m0 (below_step (Goto.hx HB) hb); clear BK289; clear HB; clear HO292; clear HO295; have HO298 := n0_; have BK289 := n1_; have HB := n2_; clear n0_ n1_ n2_; clear hb ho9) | ((with_reducible refine gate_dst (N := 5) rfl ?_); refine Kd.R_lit (Kd.int .i64) _ 3 ?hg (N := 5) ?hd (xs := ([1, 3] : List Int)) (inner := [.int .i64 1, .int .i64 3]) (ok := fun _ => True) (okp := fun _ => True) ?hr ?hp (fun _ hk => hk) trivial (Below.refl _ _) (Nat.le_refl _) (by simp) ?_; (case hd => rfl); (case hg => rfl); (case hr => first | (go_simp; done) | (go_simp; rfl)); (case hp => exact (Reps.one (show Kd.M (Kd.int .i64) _ _ _ 1 [.int .i64 1] from rfl) (Reps.one (show Kd.M (Kd.int .i64) _ _ _ 3 [.int .i64 3] from rfl) (Reps.none _ _)))); intro v300 w10 ho11 hb hg_ hnew_; clear hg_ hnew_; (first | rw [← Ny299.out] at ho11 | (simp only [Int.reduceToNat] at ho11; rw [← Ny299.out] at ho11)); have HO301 := Goto.m0 (Kd.R_lower (Kd.R_newM (M := fun k_ => (w.heap.size ≤ k_)) ho11 (below_size (Goto.hx HB)) (fun k_ h_ => h_)) (below_size (Goto.hx HB))); replace HO298 := Goto.nqN HO298 (Kd.R_base ho11) hb; replace BK289 := Goto.bb BK289 hb; replace HB := Goto.hs HB hb; clear hb ho11) | ((with_reducible refine gate_dst (N := 6) rfl ?_); refine Kd.R_lit (Kd.int .i64) _ 3 ?hg (N := 6) ?hd (xs := ([2, 3] : List Int)) (inner := [.int .i64 2, .int .i64 3]) (ok := fun _ => True) (okp := fun _ => True) ?hr ?hp (fun _ hk => hk) trivial (Below.refl _ _) (Nat.le_refl _) (by simp) ?_; (case hd => rfl); (case hg => rfl); (case hr => first | (go_simp; done) | (go_simp; rfl)); (case hp => exact (Reps.one (show Kd.M (Kd.int .i64) _ _ _ 2 [.int .i64 2] from rfl) (Reps.one (show Kd.M (Kd.int .i64) _ _ _ 3 [.int .i64 3] from rfl) (Reps.none _ _)))); intro v303 w12 ho13 hb hg_ hnew_; clear hg_ hnew_; (first | rw [← Ny302.out] at ho13 | (simp only [Int.reduceToNat] at ho13; rw [← Ny302.out] at ho13)); have HO304 := Goto.m0 (Kd.R_lower (Kd.R_new' (Kd.R_newM (M := fun k_ => (w.heap.size ≤ k_)) ho13 (below_size (Goto.hx HB)) (fun k_ h_ => h_)) (Kd.R_lt (Goto.rk HO301))) (below_size (Goto.hx HB))); replace HO298 := Goto.nqN HO298 (Kd.R_base ho13) hb; replace HO301 := Goto.m0 (Kd.R_elder' (Goto.rk HO301) (Kd.R_base ho13) hb); replace BK289 := Goto.bb BK289 hb; replace HB := Goto.hs HB hb; clear hb ho13; obtain ⟨Ao14, co14, eo14⟩ := Kd.R_slice HO301.out; subst eo14; obtain ⟨Ao15, co15, eo15⟩ := Kd.R_slice HO304.out; subst eo15) | ((with_reducible refine gate_dst (N := 7) rfl ?_); refine Kd.N_lit (Kd.slice 3 (Kd.int .i64)) _ 44 ?hg (N' := 7) ?hd (xs := ([y299, y302] : List (List Int))) (inner := [.slice Ao14 y299.length co14, .slice Ao15 y302.length co15]) (ok := (fun k_ => (w.heap.size ≤ k_) ∧ some k_ ≠ (v297 : Value).ownBlock ∧ k_ ≠ gb289)) (okp := (fun k_ => (w.heap.size ≤ k_) ∧ some k_ ≠ (v297 : Value).ownBlock ∧ k_ ≠ gb289)) ?hr ?hp (fun _ hk => hk) ((show ∀ k_, w12.heap.size ≤ k_ → (fun k_ => (w.heap.size ≤ k_) ∧ some k_ ≠ (v297 : Value).ownBlock ∧ k_ ≠ gb289) k_ from fun k_ hk => ⟨(Nat.le_trans (below_size (Goto.hx HB)) hk), Goto.nl2 HO298 k_ hk, Goto.fb BK289 k_ hk⟩) _ (Nat.le_refl _)) (Below.refl _ _) (Nat.le_refl _) (by simp) ?_; (case hd => rfl); (case hg => rfl); (case hr => first | (go_simp; done) | (go_simp; rfl)); (case hp => exact (Reps.one (show Kd.FK (Kd.slice 3 (Kd.int .i64)) _ _ y299 [.slice Ao14 y299.length co14] from (Kd.FK_slice_mk (Kd.R_reads' (Kd.R_mono (ok' := (fun k_ => (w.heap.size ≤ k_) ∧ some k_ ≠ (v297 : Value).ownBlock ∧ k_ ≠ gb289)) (Kd.R_types (Kd.R_apart' (HO301.out) (Kd.N_typed HO298.out) (by decide)) BK289.out (by decide)) (fun k_ hk => ⟨hk.1.1.1.1, ⟨hk.1.2, hk.2⟩⟩))).2.1 (Kd.R_F (Kd.R_mono (ok' := (fun k_ => (w.heap.size ≤ k_) ∧ some k_ ≠ (v297 : Value).ownBlock ∧ k_ ≠ gb289)) (Kd.R_types (Kd.R_apart' (HO301.out) (Kd.N_typed HO298.out) (by decide)) BK289.out (by decide)) (fun k_ hk => ⟨hk.1.1.1.1, ⟨hk.1.2, hk.2⟩⟩))))) (Reps.one (show Kd.FK (Kd.slice 3 (Kd.int .i64)) _ _ y302 [.slice Ao15 y302.length co15] from (Kd.FK_slice_mk (Kd.R_reads' (Kd.R_mono (ok' := (fun k_ => (w.heap.size ≤ k_) ∧ some k_ ≠ (v297 : Value).ownBlock ∧ k_ ≠ gb289)) (Kd.R_types (Kd.R_apart' (HO304.out) (Kd.N_typed HO298.out) (by decide)) BK289.out (by decide)) (fun k_ hk => ⟨hk.1.1.1.1, ⟨hk.1.2, hk.2⟩⟩))).2.1 (Kd.R_F (Kd.R_mono (ok' := (fun k_ => (w.heap.size ≤ k_) ∧ some k_ ≠ (v297 : Value).ownBlock ∧ k_ ≠ gb289)) (Kd.R_types (Kd.R_apart' (HO304.out) (Kd.N_typed HO298.out) (by decide)) BK289.out (by decide)) (fun k_ hk => ⟨hk.1.1.1.1, ⟨hk.1.2, hk.2⟩⟩))))) (Reps.none _ _)))); intro v306 w16 ho17 hb hg_ hnew_; clear hg_ hnew_; (first | rw [← Ny305.out] at ho17 | (simp only [Int.reduceToNat] at ho17; rw [← Ny305.out] at ho17)); have n0_ := Goto.nqN HO298 (Kd.N_base ho17) hb; have n1_ := Goto.m0 (Kd.N_lower ho17 (below_size (Goto.hx HB))); have n2_ := Goto.m0 (blk_below (g := gb289) (o := .cells #[.int .i64 0, .int .i64 0, .slice none 0 0, .slice none 0 0] 25 (0, 0)) (Goto.bx BK289) hb); have n3_ := Goto.m0 (below_step (Goto.hx HB) hb); clear HO298; clear BK289; clear HB; clear HO301; clear HO304; have HO298 := n0_; have HO307 := n1_; have BK289 := n2_; have HB := n3_; clear n0_ n1_ n2_ n3_; clear hb ho17; obtain ⟨Ao18, co18, eo18⟩ := Kd.N_slice HO307.out; subst eo18) | ((with_reducible refine gate_dst (N := 10) rfl ?_); refine Kd.R_lit (Kd.int .i64) _ 3 ?hg (N := 10) ?hd (xs := ([3] : List Int)) (inner := [.int .i64 3]) (ok := fun _ => True) (okp := fun _ => True) ?hr ?hp (fun _ hk => hk) trivial (Below.refl _ _) (Nat.le_refl _) (by simp) ?_; (case hd => rfl); (case hg => rfl); (case hr => first | (go_simp; done) | (go_simp; rfl)); (case hp => exact (Reps.one (show Kd.M (Kd.int .i64) _ _ _ 3 [.int .i64 3] from rfl) (Reps.none _ _))); intro v309 w19 ho20 hb hg_ hnew_; clear hg_ hnew_; (first | rw [← Ny308.out] at ho20 | (simp only [Int.reduceToNat] at ho20; rw [← Ny308.out] at ho20)); have HO310 := Goto.m0 (Kd.R_lower (Kd.R_newM (M := fun k_ => (w.heap.size ≤ k_)) ho20 (below_size (Goto.hx HB)) (fun k_ h_ => h_)) (below_size (Goto.hx HB))); replace HO298 := Goto.nqN HO298 (Kd.R_base ho20) hb; replace HO307 := Goto.nqN HO307 (Kd.R_base ho20) hb; replace BK289 := Goto.bb BK289 hb; replace HB := Goto.hs HB hb; clear hb ho20; obtain ⟨Ao21, co21, eo21⟩ := Kd.R_slice HO310.out; subst eo21) | ((with_reducible refine gate_dst (N := 11) rfl ?_); refine Kd.N_lit (Kd.slice 3 (Kd.int .i64)) _ 44 ?hg (N' := 11) ?hd (xs := ([y308] : List (List Int))) (inner := [.slice Ao21 y308.length co21]) (ok := (fun k_ => (w.heap.size ≤ k_) ∧ some k_ ≠ (v297 : Value).ownBlock ∧ some k_ ≠ (.slice Ao18 y305.length co18 : Value).ownBlock ∧ k_ ≠ gb289)) (okp := (fun k_ => (w.heap.size ≤ k_) ∧ some k_ ≠ (v297 : Value).ownBlock ∧ some k_ ≠ (.slice Ao18 y305.length co18 : Value).ownBlock ∧ k_ ≠ gb289)) ?hr ?hp (fun _ hk => hk) ((show ∀ k_, w19.heap.size ≤ k_ → (fun k_ => (w.heap.size ≤ k_) ∧ some k_ ≠ (v297 : Value).ownBlock ∧ some k_ ≠ (.slice Ao18 y305.length co18 : Value).ownBlock ∧ k_ ≠ gb289) k_ from fun k_ hk => ⟨(Nat.le_trans (below_size (Goto.hx HB)) hk), Goto.nl2 HO298 k_ hk, Goto.nl2 HO307 k_ hk, Goto.fb BK289 k_ hk⟩) _ (Nat.le_refl _)) (Below.refl _ _) (Nat.le_refl _) (by simp) ?_; (case hd => rfl); (case hg => rfl); (case hr => first | (go_simp; done) | (go_simp; rfl)); (case hp => exact (Reps.one (show Kd.FK (Kd.slice 3 (Kd.int .i64)) _ _ y308 [.slice Ao21 y308.length co21] from (Kd.FK_slice_mk (Kd.R_reads' (Kd.R_mono (ok' := (fun k_ => (w.heap.size ≤ k_) ∧ some k_ ≠ (v297 : Value).ownBlock ∧ some k_ ≠ (.slice Ao18 y305.length co18 : Value).ownBlock ∧ k_ ≠ gb289)) (Kd.R_types (Kd.R_apart' (Kd.R_apart' (HO310.out) (Kd.N_typed HO298.out) (by decide)) (Kd.N_typed HO307.out) (by decide)) BK289.out (by decide)) (fun k_ hk => ⟨hk.1.1.1.1, ⟨hk.1.1.2, ⟨hk.1.2, hk.2⟩⟩⟩))).2.1 (Kd.R_F (Kd.R_mono (ok' := (fun k_ => (w.heap.size ≤ k_) ∧ some k_ ≠ (v297 : Value).ownBlock ∧ some k_ ≠ (.slice Ao18 y305.length co18 : Value).ownBlock ∧ k_ ≠ gb289)) (Kd.R_types (Kd.R_apart' (Kd.R_apart' (HO310.out) (Kd.N_typed HO298.out) (by decide)) (Kd.N_typed HO307.out) (by decide)) BK289.out (by decide)) (fun k_ hk => ⟨hk.1.1.1.1, ⟨hk.1.1.2, ⟨hk.1.2, hk.2⟩⟩⟩))))) (Reps.none _ _))); intro v312 w22 ho23 hb hg_ hnew_; clear hg_ hnew_; (first | rw [← Ny311.out] at ho23 | (simp only [Int.reduceToNat] at ho23; rw [← Ny311.out] at ho23)); have n0_ := Goto.nqN HO298 (Kd.N_base ho23) hb; have n1_ := Goto.nqN HO307 (Kd.N_base ho23) hb; have n2_ := Goto.m0 (Kd.N_lower ho23 (below_size (Goto.hx HB))); have n3_ := Goto.m0 (blk_below (g := gb289) (o := .cells #[.int .i64 0, .int .i64 0, .slice none 0 0, .slice none 0 0] 25 (0, 0)) (Goto.bx BK289) hb); have n4_ := Goto.m0 (below_step (Goto.hx HB) hb); clear HO298; clear HO307; clear BK289; clear HB; clear HO310; have HO298 := n0_; have HO307 := n1_; have HO313 := n2_; have BK289 := n3_; have HB := n4_; clear n0_ n1_ n2_ n3_ n4_; clear hb ho23) | ((with_reducible refine gate_dst (N := 12) rfl ?_); refine Kd.R_lit (Kd.int .i64) _ 3 ?hg (N := 12) ?hd (xs := ([0, 1] : List Int)) (inner := [.int .i64 0, .int .i64 1]) (ok := fun _ => True) (okp := fun _ => True) ?hr ?hp (fun _ hk => hk) trivial (Below.refl _ _) (Nat.le_refl _) (by simp) ?_; (case hd => rfl); (case hg => rfl); (case hr => first | (go_simp; done) | (go_simp; rfl)); (case hp => exact (Reps.one (show Kd.M (Kd.int .i64) _ _ _ 0 [.int .i64 0] from rfl) (Reps.one (show Kd.M (Kd.int .i64) _ _ _ 1 [.int .i64 1] from rfl) (Reps.none _ _)))); intro v315 w24 ho25 hb hg_ hnew_; clear hg_ hnew_; (first | rw [← Ny314.out] at ho25 | (simp only [Int.reduceToNat] at ho25; rw [← Ny314.out] at ho25)); have HO316 := Goto.m0 (Kd.R_lower (Kd.R_newM (M := fun k_ => (w.heap.size ≤ k_)) ho25 (below_size (Goto.hx HB)) (fun k_ h_ => h_)) (below_size (Goto.hx HB))); replace HO298 := Goto.nqN HO298 (Kd.R_base ho25) hb; replace HO307 := Goto.nqN HO307 (Kd.R_base ho25) hb; replace HO313 := Goto.nqN HO313 (Kd.R_base ho25) hb; replace BK289 := Goto.bb BK289 hb; replace HB := Goto.hs HB hb; clear hb ho25; obtain ⟨Ao26, co26, eo26⟩ := Kd.R_slice HO316.out; subst eo26; obtain ⟨Ao27, co27, eo27⟩ := Kd.N_slice HO313.out; subst eo27) | ((with_reducible refine gate_dst (N := 15) rfl ?_); refine Kd.R_lit (Kd.int .i64) _ 3 ?hg (N := 15) ?hd (xs := ([3] : List Int)) (inner := [.int .i64 3]) (ok := fun _ => True) (okp := fun _ => True) ?hr ?hp (fun _ hk => hk) trivial (Below.refl _ _) (Nat.le_refl _) (by simp) ?_; (case hd => rfl); (case hg => rfl); (case hr => first | (go_simp; done) | (go_simp; rfl)); (case hp => exact (Reps.one (show Kd.M (Kd.int .i64) _ _ _ 3 [.int .i64 3] from rfl) (Reps.none _ _))); intro v318 w28 ho29 hb hg_ hnew_; clear hg_ hnew_; (first | rw [← Ny317.out] at ho29 | (simp only [Int.reduceToNat] at ho29; rw [← Ny317.out] at ho29)); have HO319 := Goto.m0 (Kd.R_lower (Kd.R_new' (Kd.R_newM (M := fun k_ => (w.heap.size ≤ k_)) ho29 (below_size (Goto.hx HB)) (fun k_ h_ => h_)) (Kd.R_lt (Goto.rk HO316))) (below_size (Goto.hx HB))); replace HO298 := Goto.nqN HO298 (Kd.R_base ho29) hb; replace HO307 := Goto.nqN HO307 (Kd.R_base ho29) hb; replace HO313 := Goto.nqN HO313 (Kd.R_base ho29) hb; replace HO316 := Goto.m0 (Kd.R_elder' (Goto.rk HO316) (Kd.R_base ho29) hb); replace BK289 := Goto.bb BK289 hb; replace HB := Goto.hs HB hb; clear hb ho29; obtain ⟨Ao30, co30, eo30⟩ := Kd.R_slice HO319.out; subst eo30) | ((with_reducible refine gate_dst (N := 16) rfl ?_); refine Kd.N_lit (Kd.slice 3 (Kd.int .i64)) _ 44 ?hg (N' := 16) ?hd (xs := ([y317] : List (List Int))) (inner := [.slice Ao30 y317.length co30]) (ok := (fun k_ => (w.heap.size ≤ k_) ∧ some k_ ≠ (v297 : Value).ownBlock ∧ some k_ ≠ (.slice Ao18 y305.length co18 : Value).ownBlock ∧ some k_ ≠ (.slice Ao27 y311.length co27 : Value).ownBlock ∧ some k_ ≠ (.slice Ao26 y314.length co26 : Value).ownBlock ∧ k_ ≠ gb289)) (okp := (fun k_ => (w.heap.size ≤ k_) ∧ some k_ ≠ (v297 : Value).ownBlock ∧ some k_ ≠ (.slice Ao18 y305.length co18 : Value).ownBlock ∧ some k_ ≠ (.slice Ao27 y311.length co27 : Value).ownBlock ∧ some k_ ≠ (.slice Ao26 y314.length co26 : Value).ownBlock ∧ k_ ≠ gb289)) ?hr ?hp (fun _ hk => hk) ((show ∀ k_, w28.heap.size ≤ k_ → (fun k_ => (w.heap.size ≤ k_) ∧ some k_ ≠ (v297 : Value).ownBlock ∧ some k_ ≠ (.slice Ao18 y305.length co18 : Value).ownBlock ∧ some k_ ≠ (.slice Ao27 y311.length co27 : Value).ownBlock ∧ some k_ ≠ (.slice Ao26 y314.length co26 : Value).ownBlock ∧ k_ ≠ gb289) k_ from fun k_ hk => ⟨(Nat.le_trans (below_size (Goto.hx HB)) hk), Goto.nl2 HO298 k_ hk, Goto.nl2 HO307 k_ hk, Goto.nl2 HO313 k_ hk, Kd.fresh' (Kd.R_lt (Goto.rk HO316)) k_ hk, Goto.fb BK289 k_ hk⟩) _ (Nat.le_refl _)) (Below.refl _ _) (Nat.le_refl _) (by simp) ?_; (case hd => rfl); (case hg => rfl); (case hr => first | (go_simp; done) | (go_simp; rfl)); (case hp => exact (Reps.one (show Kd.FK (Kd.slice 3 (Kd.int .i64)) _ _ y317 [.slice Ao30 y317.length co30] from (Kd.FK_slice_mk (Kd.R_reads' (Kd.R_mono (ok' := (fun k_ => (w.heap.size ≤ k_) ∧ some k_ ≠ (v297 : Value).ownBlock ∧ some k_ ≠ (.slice Ao18 y305.length co18 : Value).ownBlock ∧ some k_ ≠ (.slice Ao27 y311.length co27 : Value).ownBlock ∧ some k_ ≠ (.slice Ao26 y314.length co26 : Value).ownBlock ∧ k_ ≠ gb289)) (Kd.R_types (Kd.R_apart' (Kd.R_apart' (Kd.R_apart' (HO319.out) (Kd.N_typed HO298.out) (by decide)) (Kd.N_typed HO307.out) (by decide)) (Kd.N_typed HO313.out) (by decide)) BK289.out (by decide)) (fun k_ hk => ⟨hk.1.1.1.1.1.1, ⟨hk.1.1.1.2, ⟨hk.1.1.2, ⟨hk.1.2, ⟨hk.1.1.1.1.2, hk.2⟩⟩⟩⟩⟩))).2.1 (Kd.R_F (Kd.R_mono (ok' := (fun k_ => (w.heap.size ≤ k_) ∧ some k_ ≠ (v297 : Value).ownBlock ∧ some k_ ≠ (.slice Ao18 y305.length co18 : Value).ownBlock ∧ some k_ ≠ (.slice Ao27 y311.length co27 : Value).ownBlock ∧ some k_ ≠ (.slice Ao26 y314.length co26 : Value).ownBlock ∧ k_ ≠ gb289)) (Kd.R_types (Kd.R_apart' (Kd.R_apart' (Kd.R_apart' (HO319.out) (Kd.N_typed HO298.out) (by decide)) (Kd.N_typed HO307.out) (by decide)) (Kd.N_typed HO313.out) (by decide)) BK289.out (by decide)) (fun k_ hk => ⟨hk.1.1.1.1.1.1, ⟨hk.1.1.1.2, ⟨hk.1.1.2, ⟨hk.1.2, ⟨hk.1.1.1.1.2, hk.2⟩⟩⟩⟩⟩))))) (Reps.none _ _))); intro v321 w31 ho32 hb hg_ hnew_; clear hg_ hnew_; (first | rw [← Ny320.out] at ho32 | (simp only [Int.reduceToNat] at ho32; rw [← Ny320.out] at ho32)); have n0_ := Goto.nqN HO298 (Kd.N_base ho32) hb; have n1_ := Goto.nqN HO307 (Kd.N_base ho32) hb; have n2_ := Goto.nqN HO313 (Kd.N_base ho32) hb; have n3_ := Goto.m0 (Kd.R_below (Goto.rk HO316) hb); have n4_ := Goto.m0 (Kd.N_lower ho32 (below_size (Goto.hx HB))); have n5_ := Goto.m0 (blk_below (g := gb289) (o := .cells #[.int .i64 0, .int .i64 0, .slice none 0 0, .slice none 0 0] 25 (0, 0)) (Goto.bx BK289) hb); have n6_ := Goto.m0 (below_step (Goto.hx HB) hb); clear HO298; clear HO307; clear HO313; clear HO316; clear BK289; clear HB; clear HO319; have HO298 := n0_; have HO307 := n1_; have HO313 := n2_; have HO316 := n3_; have HO322 := n4_; have BK289 := n5_; have HB := n6_; clear n0_ n1_ n2_ n3_ n4_ n5_ n6_; clear hb ho32; obtain ⟨Ao33, co33, eo33⟩ := Kd.N_slice HO322.out; subst eo33) | ((with_reducible refine gate_dst (N := 19) rfl ?_); refine Kd.R_lit (Kd.int .i64) _ 3 ?hg (N := 19) ?hd (xs := ([0, 1, 2] : List Int)) (inner := [.int .i64 0, .int .i64 1, .int .i64 2]) (ok := fun _ => True) (okp := fun _ => True) ?hr ?hp (fun _ hk => hk) trivial (Below.refl _ _) (Nat.le_refl _) (by simp) ?_; (case hd => rfl); (case hg => rfl); (case hr => first | (go_simp; done) | (go_simp; rfl)); (case hp => exact (Reps.one (show Kd.M (Kd.int .i64) _ _ _ 0 [.int .i64 0] from rfl) (Reps.one (show Kd.M (Kd.int .i64) _ _ _ 1 [.int .i64 1] from rfl) (Reps.one (show Kd.M (Kd.int .i64) _ _ _ 2 [.int .i64 2] from rfl) (Reps.none _ _))))); intro v324 w34 ho35 hb hg_ hnew_; clear hg_ hnew_; (first | rw [← Ny323.out] at ho35 | (simp only [Int.reduceToNat] at ho35; rw [← Ny323.out] at ho35)); have HO325 := Goto.m0 (Kd.R_lower (Kd.R_new' (Kd.R_newM (M := fun k_ => (w.heap.size ≤ k_)) ho35 (below_size (Goto.hx HB)) (fun k_ h_ => h_)) (Kd.R_lt (Goto.rk HO316))) (below_size (Goto.hx HB))); replace HO298 := Goto.nqN HO298 (Kd.R_base ho35) hb; replace HO307 := Goto.nqN HO307 (Kd.R_base ho35) hb; replace HO313 := Goto.nqN HO313 (Kd.R_base ho35) hb; replace HO316 := Goto.m0 (Kd.R_elder' (Goto.rk HO316) (Kd.R_base ho35) hb); replace HO322 := Goto.nqN HO322 (Kd.R_base ho35) hb; replace BK289 := Goto.bb BK289 hb; replace HB := Goto.hs HB hb; clear hb ho35; obtain ⟨Ao36, co36, eo36⟩ := Kd.R_slice HO325.out; subst eo36) | ((with_reducible refine gate_dst (N := 21) rfl ?_); refine Kd.N_lit k46 _ 46 ?hg (N' := 21) ?hd (xs := ([(⟨(⟨0, 0⟩ : S32), y305, ([] : List Int), (-1), 4, 2, 4, 3, 2⟩ : S46), (⟨(⟨1, 1⟩ : S32), y311, y314, 0, 4, 2, 4, 3, 2⟩ : S46), (⟨(⟨1, 2⟩ : S32), y320, ([] : List Int), (-1), 4, 2, 4, 3, 2⟩ : S46), (⟨(⟨2, 3⟩ : S32), ([] : List (List Int)), y323, 1, 4, 2, 4, 3, 2⟩ : S46)] : List (S46))) (inner := [.int .i64 0, .int .u64 0, .slice Ao18 y305.length co18, .slice none 0 0, .int .i64 (-1), .int .i64 4, .int .i64 2, .int .i64 4, .int .i64 3, .int .i64 2, .int .i64 1, .int .u64 1, .slice Ao27 y311.length co27, .slice Ao26 y314.length co26, .int .i64 0, .int .i64 4, .int .i64 2, .int .i64 4, .int .i64 3, .int .i64 2, .int .i64 1, .int .u64 2, .slice Ao33 y320.length co33, .slice none 0 0, .int .i64 (-1), .int .i64 4, .int .i64 2, .int .i64 4, .int .i64 3, .int .i64 2, .int .i64 2, .int .u64 3, .slice none 0 0, .slice Ao36 y323.length co36, .int .i64 1, .int .i64 4, .int .i64 2, .int .i64 4, .int .i64 3, .int .i64 2]) (ok := (fun k_ => (w.heap.size ≤ k_) ∧ some k_ ≠ (v297 : Value).ownBlock ∧ k_ ≠ gb289)) (okp := (fun k_ => (w.heap.size ≤ k_) ∧ some k_ ≠ (v297 : Value).ownBlock ∧ k_ ≠ gb289)) ?hr ?hp (fun _ hk => hk) ((show ∀ k_, w34.heap.size ≤ k_ → (fun k_ => (w.heap.size ≤ k_) ∧ some k_ ≠ (v297 : Value).ownBlock ∧ k_ ≠ gb289) k_ from fun k_ hk => ⟨(Nat.le_trans (below_size (Goto.hx HB)) hk), Goto.nl2 HO298 k_ hk, Goto.fb BK289 k_ hk⟩) _ (Nat.le_refl _)) (Below.refl _ _) (Nat.le_refl _) (by simp) ?_; (case hd => rfl); (case hg => rfl); (case hr => first | (go_simp; done) | (go_simp; rfl)); (case hp => exact (Reps.c10 (show Kd.FK k46 _ _ (⟨(⟨0, 0⟩ : S32), y305, ([] : List Int), (-1), 4, 2, 4, 3, 2⟩ : S46) [.int .i64 0, .int .u64 0, .slice Ao18 y305.length co18, .slice none 0 0, .int .i64 (-1), .int .i64 4, .int .i64 2, .int .i64 4, .int .i64 3, .int .i64 2] from (k46_mkF _ _ (⟨(⟨0, 0⟩ : S32), y305, ([] : List Int), (-1), 4, 2, 4, 3, 2⟩ : S46) (Kd.N_reads' (Kd.N_mono (ok' := (fun k_ => (w.heap.size ≤ k_) ∧ some k_ ≠ (v297 : Value).ownBlock ∧ k_ ≠ gb289)) (HO307.out) (fun k_ hk => ⟨hk.1.1.1.1.1.1.1, ⟨hk.1.1.1.1.1.1.2.1, hk.1.1.1.1.1.1.2.2⟩⟩))).2.1 (Kd.N_F (Kd.N_mono (ok' := (fun k_ => (w.heap.size ≤ k_) ∧ some k_ ≠ (v297 : Value).ownBlock ∧ k_ ≠ gb289)) (HO307.out) (fun k_ hk => ⟨hk.1.1.1.1.1.1.1, ⟨hk.1.1.1.1.1.1.2.1, hk.1.1.1.1.1.1.2.2⟩⟩))) (Nat.le_refl _) (Kd.F_nil _ _ _))) (Reps.c10 (show Kd.FK k46 _ _ (⟨(⟨1, 1⟩ : S32), y311, y314, 0, 4, 2, 4, 3, 2⟩ : S46) [.int .i64 1, .int .u64 1, .slice Ao27 y311.length co27, .slice Ao26 y314.length co26, .int .i64 0, .int .i64 4, .int .i64 2, .int .i64 4, .int .i64 3, .int .i64 2] from (k46_mkF _ _ (⟨(⟨1, 1⟩ : S32), y311, y314, 0, 4, 2, 4, 3, 2⟩ : S46) (Kd.N_reads' (Kd.N_mono (ok' := (fun k_ => (w.heap.size ≤ k_) ∧ some k_ ≠ (v297 : Value).ownBlock ∧ k_ ≠ gb289)) (HO313.out) (fun k_ hk => ⟨hk.1.1.1.1.1, ⟨hk.1.1.1.1.2.1, hk.1.1.1.1.2.2.2⟩⟩))).2.1 (Kd.N_F (Kd.N_mono (ok' := (fun k_ => (w.heap.size ≤ k_) ∧ some k_ ≠ (v297 : Value).ownBlock ∧ k_ ≠ gb289)) (HO313.out) (fun k_ hk => ⟨hk.1.1.1.1.1, ⟨hk.1.1.1.1.2.1, hk.1.1.1.1.2.2.2⟩⟩))) (Kd.R_reads' (Kd.R_mono (ok' := (fun k_ => (w.heap.size ≤ k_) ∧ some k_ ≠ (v297 : Value).ownBlock ∧ k_ ≠ gb289)) (Kd.R_types (Kd.R_apart' (HO316.out) (Kd.N_typed HO298.out) (by decide)) BK289.out (by decide)) (fun k_ hk => ⟨hk.1.1.1.1.1, ⟨hk.1.2, hk.2⟩⟩))).2.1 (Kd.R_F (Kd.R_mono (ok' := (fun k_ => (w.heap.size ≤ k_) ∧ some k_ ≠ (v297 : Value).ownBlock ∧ k_ ≠ gb289)) (Kd.R_types (Kd.R_apart' (HO316.out) (Kd.N_typed HO298.out) (by decide)) BK289.out (by decide)) (fun k_ hk => ⟨hk.1.1.1.1.1, ⟨hk.1.2, hk.2⟩⟩))))) (Reps.c10 (show Kd.FK k46 _ _ (⟨(⟨1, 2⟩ : S32), y320, ([] : List Int), (-1), 4, 2, 4, 3, 2⟩ : S46) [.int .i64 1, .int .u64 2, .slice Ao33 y320.length co33, .slice none 0 0, .int .i64 (-1), .int .i64 4, .int .i64 2, .int .i64 4, .int .i64 3, .int .i64 2] from (k46_mkF _ _ (⟨(⟨1, 2⟩ : S32), y320, ([] : List Int), (-1), 4, 2, 4, 3, 2⟩ : S46) (Kd.N_reads' (Kd.N_mono (ok' := (fun k_ => (w.heap.size ≤ k_) ∧ some k_ ≠ (v297 : Value).ownBlock ∧ k_ ≠ gb289)) (HO322.out) (fun k_ hk => ⟨hk.1.1, ⟨hk.1.2.1, hk.1.2.2.2.2.2⟩⟩))).2.1 (Kd.N_F (Kd.N_mono (ok' := (fun k_ => (w.heap.size ≤ k_) ∧ some k_ ≠ (v297 : Value).ownBlock ∧ k_ ≠ gb289)) (HO322.out) (fun k_ hk => ⟨hk.1.1, ⟨hk.1.2.1, hk.1.2.2.2.2.2⟩⟩))) (Nat.le_refl _) (Kd.F_nil _ _ _))) (Reps.c10 (show Kd.FK k46 _ _ (⟨(⟨2, 3⟩ : S32), ([] : List (List Int)), y323, 1, 4, 2, 4, 3, 2⟩ : S46) [.int .i64 2, .int .u64 3, .slice none 0 0, .slice Ao36 y323.length co36, .int .i64 1, .int .i64 4, .int .i64 2, .int .i64 4, .int .i64 3, .int .i64 2] from (k46_mkF _ _ (⟨(⟨2, 3⟩ : S32), ([] : List (List Int)), y323, 1, 4, 2, 4, 3, 2⟩ : S46) (Nat.le_refl _) (Kd.F_nil _ _ _) (Kd.R_reads' (Kd.R_mono (ok' := (fun k_ => (w.heap.size ≤ k_) ∧ some k_ ≠ (v297 : Value).ownBlock ∧ k_ ≠ gb289)) (Kd.R_types (Kd.R_apart' (HO325.out) (Kd.N_typed HO298.out) (by decide)) BK289.out (by decide)) (fun k_ hk => ⟨hk.1.1.1.1, ⟨hk.1.2, hk.2⟩⟩))).2.1 (Kd.R_F (Kd.R_mono (ok' := (fun k_ => (w.heap.size ≤ k_) ∧ some k_ ≠ (v297 : Value).ownBlock ∧ k_ ≠ gb289)) (Kd.R_types (Kd.R_apart' (HO325.out) (Kd.N_typed HO298.out) (by decide)) BK289.out (by decide)) (fun k_ hk => ⟨hk.1.1.1.1, ⟨hk.1.2, hk.2⟩⟩))))) (Reps.none _ _)))))); intro v327 w37 ho38 hb hg_ hnew_; clear hg_ hnew_; (first | rw [← Ny326.out] at ho38 | (simp only [Int.reduceToNat] at ho38; rw [← Ny326.out] at ho38)); have n0_ := Goto.nqN HO298 (Kd.N_base ho38) hb; have n1_ := Goto.m0 (Kd.N_lower ho38 (below_size (Goto.hx HB))); have n2_ := Goto.m0 (blk_below (g := gb289) (o := .cells #[.int .i64 0, .int .i64 0, .slice none 0 0, .slice none 0 0] 25 (0, 0)) (Goto.bx BK289) hb); have n3_ := Goto.m0 (below_step (Goto.hx HB) hb); clear HO298; clear BK289; clear HB; clear HO307; clear HO313; clear HO316; clear HO322; clear HO325; have HO298 := n0_; have HO328 := n1_; have BK289 := n2_; have HB := n3_; clear n0_ n1_ n2_ n3_; clear hb ho38; obtain ⟨Ao39, co39, eo39⟩ := Kd.N_slice HO328.out; subst eo39; obtain ⟨Ao40, co40, eo40⟩ := Kd.N_slice HO298.out; subst eo40; have hcz41_0 := Goto.bc0 BK289; have hcz41_1 := Goto.bc1 BK289; have hcz41_2 := Goto.bc2 BK289; have hcz41_3 := Goto.bc3 BK289; have hfz41_0 := Goto.bf BK289 0; have hfz41_1 := Goto.bf BK289 1; have hfz41_2 := Goto.bf BK289 2; have hfz41_3 := Goto.bf BK289 3))
 refine bodyPost_ret (results_cell_row rfl _ _ gb289 25 #[.int .i64 8, .int .i64 2, .slice Ao40 y296.length co40, .slice Ao39 y326.length co39] (0, 0) _ rfl (Goto.bx BK289) Try.underlying25 rfl (by kernel_rfl)) rfl ?_
 exact ⟨_, _, Goto.er, by (with_reducible repeat (first | apply Kd.N_alloc | apply Kd.N_drewN | apply Kd.N_drew)); exact Kd.N_mono (Kd.N_far (p := ⟨gb289, 3, none⟩) (Kd.N_far (p := ⟨gb289, 2, none⟩) (Kd.N_far (p := ⟨gb289, 1, none⟩) (Kd.N_far (p := ⟨gb289, 0, none⟩) (Kd.N_mono HO298.out (fun k_ hk => (⟨hk, hk.1.1.1.1.1.1.1.1.1.1.2⟩ : _ ∧ k_ ≠ gb289))) (fun _ hk => hk.2) (.int .i64 8)) (fun _ hk => hk.2) (.int .i64 2)) (fun _ hk => hk.2) (.slice Ao40 y296.length co40)) (fun _ hk => hk.2) (.slice Ao39 y326.length co39)) (fun _ hk => ⟨hk.1.1.1.1.1.1.1.1.1.1.1.1, hk.1.2⟩), by (with_reducible repeat (first | apply Kd.N_alloc | apply Kd.N_drewN | apply Kd.N_drew)); exact Kd.N_mono (Kd.N_far (p := ⟨gb289, 3, none⟩) (Kd.N_far (p := ⟨gb289, 2, none⟩) (Kd.N_far (p := ⟨gb289, 1, none⟩) (Kd.N_far (p := ⟨gb289, 0, none⟩) (Kd.N_mono HO328.out (fun k_ hk => (⟨hk, hk.2.2⟩ : _ ∧ k_ ≠ gb289))) (fun _ hk => hk.2) (.int .i64 8)) (fun _ hk => hk.2) (.int .i64 2)) (fun _ hk => hk.2) (.slice Ao40 y296.length co40)) (fun _ hk => hk.2) (.slice Ao39 y326.length co39)) (fun _ hk => ⟨hk.1.1, hk.1.2.1⟩), by repeat (first | (with_reducible first | exact HB.out | apply below_alloc | apply pw_below_drewN | apply below_drew1 | refine below_set ?_ GE289.out) | exact HB.out)⟩

/-! ### tontinehelp_Script: function 27 -/
def tontinehelp_Script.f (a0 : Int) : Option (Int × Int × (List (List Int)) × (List (S46)) × Int × (List (List (S59))) × (List (List (S63)))) := (tontinehelp_Base.f).bind fun bt330 => (if 4 ≤ 11728124029610 then (some (bt330.1, bt330.2.1, bt330.2.2.1, bt330.2.2.2, a0, (List.replicate 4 []), (List.replicate 4 []))) else (none))
set_option maxHeartbeats 8000000 in
set_option maxRecDepth 100000 in
theorem tontinehelp_Script.calls (a0 : Int) (r1 : Int) (r2 : Int) (r3 : List (List Int)) (r4 : List (S46)) (r5 : Int) (r6 : List (List (S59))) (r7 : List (List (S63))) (w : World) (h : tontinehelp_Script.f a0 = some (r1, r2, r3, r4, r5, r6, r7)) :
    Calls Try.prog 27 #[.int .i64 a0] w fun e w' => ∃ v2_ v3_ v5_ v6_ : Value, e = .returned (.agg #[.int .i64 r1, .int .i64 r2, v2_, v3_, .int .i64 r5, v5_, v6_]) ∧ Kd.N (Kd.slice 3 (Kd.int .i64)) 44 w' w.heap.size (fun k_ => (w.heap.size ≤ k_) ∧ some k_ ≠ (v3_ : Value).ownBlock ∧ some k_ ≠ (v5_ : Value).ownBlock ∧ some k_ ≠ (v6_ : Value).ownBlock) v2_ r3 ∧ Kd.N k46 46 w' w.heap.size (fun k_ => (w.heap.size ≤ k_) ∧ some k_ ≠ (v2_ : Value).ownBlock ∧ some k_ ≠ (v5_ : Value).ownBlock ∧ some k_ ≠ (v6_ : Value).ownBlock) v3_ r4 ∧ Kd.N (Kd.slice 59 k59) 48 w' w.heap.size (fun k_ => (w.heap.size ≤ k_) ∧ some k_ ≠ (v2_ : Value).ownBlock ∧ some k_ ≠ (v3_ : Value).ownBlock ∧ some k_ ≠ (v6_ : Value).ownBlock) v5_ r6 ∧ Kd.N (Kd.slice 63 k63) 50 w' w.heap.size (fun k_ => (w.heap.size ≤ k_) ∧ some k_ ≠ (v2_ : Value).ownBlock ∧ some k_ ≠ (v3_ : Value).ownBlock ∧ some k_ ≠ (v5_ : Value).ownBlock) v6_ r7 ∧ Below w.heap.size w w' := by
 have hu29 := Try.underlying29
 have HB := Goto.m0 (Below.refl w.heap.size w)
 have H : ((tontinehelp_Base.f).bind fun bt330 => (if 4 ≤ 11728124029610 then (some (bt330.1, bt330.2.1, bt330.2.2.1, bt330.2.2.2, a0, (List.replicate 4 []), (List.replicate 4 []))) else (none))) = some (r1, r2, r3, r4, r5, r6, r7) := h
 clear h
 replace H := Option.bind_eq_some_iff.mp H
 obtain ⟨⟨t330, t331, t332, t335⟩, A20, H⟩ := H
 replace H : (if 4 ≤ 11728124029610 then (some (t330, t331, t332, t335, a0, (List.replicate 4 []), (List.replicate 4 []))) else (none)) = some (r1, r2, r3, r4, r5, r6, r7) := H
 have A2 := Goto.m0 A20
 clear A20
 by_cases c3 : 4 ≤ 11728124029610
 ·
  rw [if_pos c3] at H
  have c3b0 := eq_true c3
  have c3b1 : decide (4 ≤ 11728124029610) = true := decide_eq_true c3
  clear c3
  obtain ⟨y338, hy338⟩ : ∃ y_ : List (List (S59)), y_ = (List.replicate 4 []) := ⟨_, rfl⟩
  replace H : (some (t330, t331, t332, t335, a0, y338, (List.replicate 4 []))) = some (r1, r2, r3, r4, r5, r6, r7) := by first | (rw [hy338]; with_reducible exact H) | (have H2_ := (Option.bind_some _ _).symm.trans H; rw [hy338]; with_reducible exact H2_) | (have H2_ := (Option.bind_some _ _).symm.trans H; with_reducible exact H2_) | with_reducible exact H | (rw [hy338]; exact H) | exact H
  have Ny338 := Goto.m0 hy338
  clear hy338
  obtain ⟨y341, hy341⟩ : ∃ y_ : List (List (S63)), y_ = (List.replicate 4 []) := ⟨_, rfl⟩
  replace H : (some (t330, t331, t332, t335, a0, y338, y341)) = some (r1, r2, r3, r4, r5, r6, r7) := by first | (rw [hy341]; with_reducible exact H) | (have H2_ := (Option.bind_some _ _).symm.trans H; rw [hy341]; with_reducible exact H2_) | (have H2_ := (Option.bind_some _ _).symm.trans H; with_reducible exact H2_) | with_reducible exact H | (rw [hy341]; exact H) | exact H
  have Ny341 := Goto.m0 hy341
  clear hy341
  simp only [Option.some.injEq, Prod.mk.injEq] at H
  obtain ⟨rfl, rfl, rfl, rfl, rfl, rfl, rfl⟩ := H
  go_enter Try.func27, Try.ntmps27
  try go_wp2_with (first | ((with_reducible refine gate_dst (N := 2) rfl ?_); refine box_event ?hg (N := 2) ?hd (cs := #[.int .i64 0, .int .i64 0, .slice none 0 0, .slice none 0 0, .int .i64 0, .slice none 0 0, .slice none 0 0]) (t := 29) ?hr ?_; (case hd => rfl); (case hg => rfl); (case hr => first | (go_simp; done) | (go_simp; rfl)); intro gb329 hg w4 hbox hb; have BK329 := Goto.m0 (hbox); have GW329 := Goto.gs HB hg; have GE329 := Goto.gs HB hg; replace HB := Goto.hs HB hb; clear hb hbox hg))
  replace BK329 := Goto.m0 (blk_drew BK329.out); replace HB := Goto.m0 (below_drew1 HB.out)
  refine start_ (n := 6) (S := fun w' => True) (ds := []) #[false, false, false, false, false, false] (by kernel_rfl) rfl rfl trivial (fun hHeld => ?_)
  generalize w4.drew = w5 at BK329 HB hHeld ⊢
  refine pure_ (i := 1) (N := some 4) (v := ?_) (a' := ?_) #[false, true, false, false, false, false] rfl rfl (by kernel_rfl) (fun _ _ _ h => h) (Or.inl ⟨by rfl, ?_⟩) ?_ ?_
  rotate_left
  ·
   intro w'
   go_simp
   with_reducible rfl
  rotate_left
  ·
   exact Goto.ap
  refine join_ (σ := Value × Value × Value × Value) 2 #[true, true, true, true, false, false] (fun s_ => [(3, .agg #[.int .i64 t330, .int .i64 t331, s_.1, s_.2.1]), (5, s_.2.2.1), (6, s_.2.2.2)]) (fun s_ w' => (Kd.N (Kd.slice 3 (Kd.int .i64)) 44 w' w.heap.size (fun k_ => (w.heap.size ≤ k_) ∧ some k_ ≠ (s_.2.1 : Value).ownBlock ∧ some k_ ≠ (s_.2.2.1 : Value).ownBlock ∧ some k_ ≠ (s_.2.2.2 : Value).ownBlock ∧ k_ ≠ gb329) s_.1 t332) ∧ (Kd.N k46 46 w' w.heap.size (fun k_ => (w.heap.size ≤ k_) ∧ some k_ ≠ (s_.1 : Value).ownBlock ∧ some k_ ≠ (s_.2.2.1 : Value).ownBlock ∧ some k_ ≠ (s_.2.2.2 : Value).ownBlock ∧ k_ ≠ gb329) s_.2.1 t335) ∧ (Kd.N (Kd.slice 59 k59) 48 w' w.heap.size (fun k_ => (w.heap.size ≤ k_) ∧ some k_ ≠ (s_.1 : Value).ownBlock ∧ some k_ ≠ (s_.2.1 : Value).ownBlock ∧ some k_ ≠ (s_.2.2.2 : Value).ownBlock ∧ k_ ≠ gb329) s_.2.2.1 y338) ∧ (Kd.N (Kd.slice 63 k63) 50 w' w.heap.size (fun k_ => (w.heap.size ≤ k_) ∧ some k_ ≠ (s_.1 : Value).ownBlock ∧ some k_ ≠ (s_.2.1 : Value).ownBlock ∧ some k_ ≠ (s_.2.2.1 : Value).ownBlock ∧ k_ ≠ gb329) s_.2.2.2 y341) ∧ (w'.heap[gb329]? = some (.cells #[.int .i64 0, .int .i64 0, .slice none 0 0, .slice none 0 0, .int .i64 0, .slice none 0 0, .slice none 0 0] 29 (0, 0))) ∧ (Below w.heap.size w w')) ?_ ?_
  rotate_left
  ·
   intro hJ0_2_3
   refine join_ (σ := Value × Value × Value) 3 #[true, true, true, false, false, false] (fun s_ => [(3, .agg #[.int .i64 t330, .int .i64 t331, s_.1, s_.2.1]), (5, s_.2.2)]) (fun s_ w' => (Kd.N (Kd.slice 3 (Kd.int .i64)) 44 w' w.heap.size (fun k_ => (w.heap.size ≤ k_) ∧ some k_ ≠ (s_.2.1 : Value).ownBlock ∧ some k_ ≠ (s_.2.2 : Value).ownBlock ∧ k_ ≠ gb329) s_.1 t332) ∧ (Kd.N k46 46 w' w.heap.size (fun k_ => (w.heap.size ≤ k_) ∧ some k_ ≠ (s_.1 : Value).ownBlock ∧ some k_ ≠ (s_.2.2 : Value).ownBlock ∧ k_ ≠ gb329) s_.2.1 t335) ∧ (Kd.N (Kd.slice 59 k59) 48 w' w.heap.size (fun k_ => (w.heap.size ≤ k_) ∧ some k_ ≠ (s_.1 : Value).ownBlock ∧ some k_ ≠ (s_.2.1 : Value).ownBlock ∧ k_ ≠ gb329) s_.2.2 y338) ∧ (w'.heap[gb329]? = some (.cells #[.int .i64 0, .int .i64 0, .slice none 0 0, .slice none 0 0, .int .i64 0, .slice none 0 0, .slice none 0 0] 29 (0, 0))) ∧ (Below w.heap.size w w')) ?_ ?_
   rotate_left
   ·
    intro hJ0_2
    refine join_ (σ := Value × Value × Value) 3 #[true, true, false, true, false, false] (fun s_ => [(3, .agg #[.int .i64 t330, .int .i64 t331, s_.1, s_.2.1]), (6, s_.2.2)]) (fun s_ w' => (Kd.N (Kd.slice 3 (Kd.int .i64)) 44 w' w.heap.size (fun k_ => (w.heap.size ≤ k_) ∧ some k_ ≠ (s_.2.1 : Value).ownBlock ∧ some k_ ≠ (s_.2.2 : Value).ownBlock ∧ k_ ≠ gb329) s_.1 t332) ∧ (Kd.N k46 46 w' w.heap.size (fun k_ => (w.heap.size ≤ k_) ∧ some k_ ≠ (s_.1 : Value).ownBlock ∧ some k_ ≠ (s_.2.2 : Value).ownBlock ∧ k_ ≠ gb329) s_.2.1 t335) ∧ (Kd.N (Kd.slice 63 k63) 50 w' w.heap.size (fun k_ => (w.heap.size ≤ k_) ∧ some k_ ≠ (s_.1 : Value).ownBlock ∧ some k_ ≠ (s_.2.1 : Value).ownBlock ∧ k_ ≠ gb329) s_.2.2 y341) ∧ (w'.heap[gb329]? = some (.cells #[.int .i64 0, .int .i64 0, .slice none 0 0, .slice none 0 0, .int .i64 0, .slice none 0 0, .slice none 0 0] 29 (0, 0))) ∧ (Below w.heap.size w w')) ?_ ?_
    rotate_left
    ·
     intro hJ0_3
     refine join_ (σ := Value × Value) 3 #[false, true, true, true, false, false] (fun s_ => [(5, s_.1), (6, s_.2)]) (fun s_ w' => (Kd.N (Kd.slice 59 k59) 48 w' w.heap.size (fun k_ => (w.heap.size ≤ k_) ∧ some k_ ≠ (s_.2 : Value).ownBlock ∧ k_ ≠ gb329) s_.1 y338) ∧ (Kd.N (Kd.slice 63 k63) 50 w' w.heap.size (fun k_ => (w.heap.size ≤ k_) ∧ some k_ ≠ (s_.1 : Value).ownBlock ∧ k_ ≠ gb329) s_.2 y341) ∧ (w'.heap[gb329]? = some (.cells #[.int .i64 0, .int .i64 0, .slice none 0 0, .slice none 0 0, .int .i64 0, .slice none 0 0, .slice none 0 0] 29 (0, 0))) ∧ (Below w.heap.size w w')) ?_ ?_
     rotate_left
     ·
      intro hJ2_3
      refine join_ (σ := Value × Value) 4 #[true, true, false, false, false, false] (fun s_ => [(3, .agg #[.int .i64 t330, .int .i64 t331, s_.1, s_.2])]) (fun s_ w' => (Kd.N (Kd.slice 3 (Kd.int .i64)) 44 w' w.heap.size (fun k_ => (w.heap.size ≤ k_) ∧ some k_ ≠ (s_.2 : Value).ownBlock ∧ k_ ≠ gb329) s_.1 t332) ∧ (Kd.N k46 46 w' w.heap.size (fun k_ => (w.heap.size ≤ k_) ∧ some k_ ≠ (s_.1 : Value).ownBlock ∧ k_ ≠ gb329) s_.2 t335) ∧ (w'.heap[gb329]? = some (.cells #[.int .i64 0, .int .i64 0, .slice none 0 0, .slice none 0 0, .int .i64 0, .slice none 0 0, .slice none 0 0] 29 (0, 0))) ∧ (Below w.heap.size w w')) ?_ ?_
      rotate_left
      ·
       intro hJ0
       refine join_ (σ := Value) 4 #[false, true, true, false, false, false] (fun s_ => [(5, s_)]) (fun s_ w' => (Kd.N (Kd.slice 59 k59) 48 w' w.heap.size (fun k_ => (w.heap.size ≤ k_) ∧ k_ ≠ gb329) s_ y338) ∧ (w'.heap[gb329]? = some (.cells #[.int .i64 0, .int .i64 0, .slice none 0 0, .slice none 0 0, .int .i64 0, .slice none 0 0, .slice none 0 0] 29 (0, 0))) ∧ (Below w.heap.size w w')) ?_ ?_
       rotate_left
       ·
        intro hJ2
        refine join_ (σ := Value) 4 #[false, true, false, true, false, false] (fun s_ => [(6, s_)]) (fun s_ w' => (Kd.N (Kd.slice 63 k63) 50 w' w.heap.size (fun k_ => (w.heap.size ≤ k_) ∧ k_ ≠ gb329) s_ y341) ∧ (w'.heap[gb329]? = some (.cells #[.int .i64 0, .int .i64 0, .slice none 0 0, .slice none 0 0, .int .i64 0, .slice none 0 0, .slice none 0 0] 29 (0, 0))) ∧ (Below w.heap.size w w')) ?_ ?_
        rotate_left
        ·
         intro hJ3
         refine three_ (i := 0) (j := 2) (k := 3) (Ni := some 3) (Nj := some 5) (Nk := some 6) #[true, true, false, false, false, false] #[false, true, true, false, false, false] #[false, true, false, true, false, false] rfl rfl rfl rfl rfl rfl (by kernel_rfl) (by decide) (by decide) (by decide) (fun K hK => ?_) (fun K hK => ?_) (fun K hK => ?_)
         ·
          skip
          refine goes_ Try.func25 (by kernel_rfl) rfl #[] (by rfl) rfl rfl (by (try simp only [List.map_toArray, List.map_cons, List.map_nil]); first | done | rfl | (simp only [List.length_drop, List.length_take]; rfl)) ?_
          with_reducible refine (tontinehelp_Base.calls  t330 t331 t332 t335 _ A2.out).mono ?_
          rintro e w6 ⟨v333, v336, rfl, ho0, ho1, hb⟩
          refine ⟨_, rfl, ?_⟩
          have HO334 := Goto.m0 (Kd.N_lower (Kd.N_mono (ok' := fun k_ => (w.heap.size ≤ k_) ∧ some k_ ≠ (v336 : Value).ownBlock ∧ k_ ≠ gb329) ho0 (fun k_ hk_ => ⟨(Nat.le_trans (below_size (Goto.hx HB)) hk_.1), hk_.2, (Kd.freshB (g := gb329) (o := .cells #[.int .i64 0, .int .i64 0, .slice none 0 0, .slice none 0 0, .int .i64 0, .slice none 0 0, .slice none 0 0] 29 (0, 0)) (Goto.bx BK329) k_ hk_.1)⟩)) (below_size (Goto.hx HB))); have HO337 := Goto.m0 (Kd.N_lower (Kd.N_mono (ok' := fun k_ => (w.heap.size ≤ k_) ∧ some k_ ≠ (v333 : Value).ownBlock ∧ k_ ≠ gb329) ho1 (fun k_ hk_ => ⟨(Nat.le_trans (below_size (Goto.hx HB)) hk_.1), hk_.2, (Kd.freshB (g := gb329) (o := .cells #[.int .i64 0, .int .i64 0, .slice none 0 0, .slice none 0 0, .int .i64 0, .slice none 0 0, .slice none 0 0] 29 (0, 0)) (Goto.bx BK329) k_ hk_.1)⟩)) (below_size (Goto.hx HB))); replace BK329 := Goto.bb BK329 hb; replace HB := Goto.hs HB hb
          (try clear hb)
          (try clear hb2)
          (try clear hk)
          (try clear hi)
          (try clear ho0)
          (try clear ho1)
          refine hK.out _ _ trivial (fun hHeld => ?_)
          clear hK K
          refine norm_ (a' := ?_) ?_ ?_
          rotate_left
          ·
           show Act.put _ (some 3) _ = _
           exact Goto.ap
          exact Goto.nm (hJ0 (v333, v336) _ ⟨(by (with_reducible repeat (first | apply Kd.N_alloc | apply Kd.N_drewN | apply Kd.N_drew)); exact HO334.out), (by (with_reducible repeat (first | apply Kd.N_alloc | apply Kd.N_drewN | apply Kd.N_drew)); exact HO337.out), (Goto.bx BK329), (Goto.hx HB)⟩)
         ·
          skip
          refine Kd.N_make_step (Kd.slice 59 k59) _ 48 (by rfl) (N' := 5) rfl 26 _ _ rfl 4 rfl rfl Try.underlying26 (.slice none 0 0) 24 info48 rfl (by decide) (by omega) [] (ok := fun k_ => w5.heap.size ≤ k_) (okp := fun _ => False) (Kd.FK_slice_mk (Nat.le_refl _) (Kd.F_nil _ _ _)) (fun _ hk => hk.elim) (Nat.le_refl _) (by omega) (by omega) (Below.refl _ _) (Nat.le_refl _) ?_
          intro v339 w6 ho7 hb hg_ hnew_
          clear hg_ hnew_
          (first | rw [← Ny338.out] at ho7 | (simp only [Int.reduceToNat] at ho7; rw [← Ny338.out] at ho7))
          have HO340 := Goto.m0 (Kd.N_lower (Kd.N_mono (ok' := fun k_ => (w.heap.size ≤ k_) ∧ k_ ≠ gb329) ho7 (fun k_ hk_ => ⟨(Nat.le_trans (below_size (Goto.hx HB)) hk_), (Kd.freshB (g := gb329) (o := .cells #[.int .i64 0, .int .i64 0, .slice none 0 0, .slice none 0 0, .int .i64 0, .slice none 0 0, .slice none 0 0] 29 (0, 0)) (Goto.bx BK329) k_ hk_)⟩)) (below_size (Goto.hx HB))); replace BK329 := Goto.bb BK329 hb; replace HB := Goto.hs HB hb; clear hb ho7
          refine hK.out _ _ trivial (fun hHeld => ?_)
          clear hK K
          refine norm_ (a' := ?_) ?_ ?_
          rotate_left
          ·
           show Act.put _ (some 5) _ = _
           exact Goto.ap
          exact Goto.nm (hJ2 (v339) _ ⟨(by (with_reducible repeat (first | apply Kd.N_alloc | apply Kd.N_drewN | apply Kd.N_drew)); exact HO340.out), (Goto.bx BK329), (Goto.hx HB)⟩)
         ·
          skip
          refine Kd.N_make_step (Kd.slice 63 k63) _ 50 (by rfl) (N' := 6) rfl 27 _ _ rfl 4 rfl rfl Try.underlying27 (.slice none 0 0) 24 info50 rfl (by decide) (by omega) [] (ok := fun k_ => w5.heap.size ≤ k_) (okp := fun _ => False) (Kd.FK_slice_mk (Nat.le_refl _) (Kd.F_nil _ _ _)) (fun _ hk => hk.elim) (Nat.le_refl _) (by omega) (by omega) (Below.refl _ _) (Nat.le_refl _) ?_
          intro v342 w6 ho7 hb hg_ hnew_
          clear hg_ hnew_
          (first | rw [← Ny341.out] at ho7 | (simp only [Int.reduceToNat] at ho7; rw [← Ny341.out] at ho7))
          have HO343 := Goto.m0 (Kd.N_lower (Kd.N_mono (ok' := fun k_ => (w.heap.size ≤ k_) ∧ k_ ≠ gb329) ho7 (fun k_ hk_ => ⟨(Nat.le_trans (below_size (Goto.hx HB)) hk_), (Kd.freshB (g := gb329) (o := .cells #[.int .i64 0, .int .i64 0, .slice none 0 0, .slice none 0 0, .int .i64 0, .slice none 0 0, .slice none 0 0] 29 (0, 0)) (Goto.bx BK329) k_ hk_)⟩)) (below_size (Goto.hx HB))); replace BK329 := Goto.bb BK329 hb; replace HB := Goto.hs HB hb; clear hb ho7
          refine hK.out _ _ trivial (fun hHeld => ?_)
          clear hK K
          refine norm_ (a' := ?_) ?_ ?_
          rotate_left
          ·
           show Act.put _ (some 6) _ = _
           exact Goto.ap
          exact Goto.nm (hJ3 (v342) _ ⟨(by (with_reducible repeat (first | apply Kd.N_alloc | apply Kd.N_drewN | apply Kd.N_drew)); exact HO343.out), (Goto.bx BK329), (Goto.hx HB)⟩)
        ·
         skip
         rintro v342 w8 ⟨h0_, h1_, h2_⟩
         have n0_ : Aside0 (Kd.N (Kd.slice 63 k63) 50 w8 w.heap.size (fun k_ => (w.heap.size ≤ k_) ∧ k_ ≠ gb329) v342 y341) := ⟨h0_⟩
         have n1_ : Aside0 (w8.heap[gb329]? = some (.cells #[.int .i64 0, .int .i64 0, .slice none 0 0, .slice none 0 0, .int .i64 0, .slice none 0 0, .slice none 0 0] 29 (0, 0))) := ⟨h1_⟩
         have n2_ : Aside0 (Below w.heap.size w w8) := ⟨h2_⟩
         clear BK329; clear HB; clear h0_ h1_ h2_; have HO343 := n0_; have BK329 := n1_; have HB := n2_; clear n0_ n1_ n2_; have hHeld := trivial
         refine norm_ (a' := ?_) ?_ ?_
         rotate_left
         ·
          simp only [putAll, Act.put, List.setIfInBounds_toArray, List.set_cons_zero, List.set_cons_succ]
          rfl
         refine two_ (i := 0) (j := 2) (Ni := some 3) (Nj := some 5) #[true, true, false, true, false, false] #[false, true, true, true, false, false] rfl rfl rfl rfl (by kernel_rfl) (by decide) (by decide) (fun K hK => ?_) (fun K hK => ?_)
         ·
          skip
          refine goes_ Try.func25 (by kernel_rfl) rfl #[] (by rfl) rfl rfl (by (try simp only [List.map_toArray, List.map_cons, List.map_nil]); first | done | rfl | (simp only [List.length_drop, List.length_take]; rfl)) ?_
          with_reducible refine (tontinehelp_Base.calls  t330 t331 t332 t335 _ A2.out).mono ?_
          rintro e w9 ⟨v333, v336, rfl, ho0, ho1, hb⟩
          refine ⟨_, rfl, ?_⟩
          have HO334 := Goto.m0 (Kd.N_lower (Kd.N_mono (ok' := fun k_ => (w.heap.size ≤ k_) ∧ some k_ ≠ (v336 : Value).ownBlock ∧ some k_ ≠ (v342 : Value).ownBlock ∧ k_ ≠ gb329) ho0 (fun k_ hk_ => ⟨(Nat.le_trans (below_size (Goto.hx HB)) hk_.1), hk_.2, (Kd.fresh' (Kd.N_lt (by (with_reducible repeat (first | apply Kd.N_alloc | apply Kd.N_drewN | apply Kd.N_drew)); exact HO343.out)) k_ hk_.1), (Kd.freshB (g := gb329) (o := .cells #[.int .i64 0, .int .i64 0, .slice none 0 0, .slice none 0 0, .int .i64 0, .slice none 0 0, .slice none 0 0] 29 (0, 0)) (Goto.bx BK329) k_ hk_.1)⟩)) (below_size (Goto.hx HB))); have HO337 := Goto.m0 (Kd.N_lower (Kd.N_mono (ok' := fun k_ => (w.heap.size ≤ k_) ∧ some k_ ≠ (v333 : Value).ownBlock ∧ some k_ ≠ (v342 : Value).ownBlock ∧ k_ ≠ gb329) ho1 (fun k_ hk_ => ⟨(Nat.le_trans (below_size (Goto.hx HB)) hk_.1), hk_.2, (Kd.fresh' (Kd.N_lt (by (with_reducible repeat (first | apply Kd.N_alloc | apply Kd.N_drewN | apply Kd.N_drew)); exact HO343.out)) k_ hk_.1), (Kd.freshB (g := gb329) (o := .cells #[.int .i64 0, .int .i64 0, .slice none 0 0, .slice none 0 0, .int .i64 0, .slice none 0 0, .slice none 0 0] 29 (0, 0)) (Goto.bx BK329) k_ hk_.1)⟩)) (below_size (Goto.hx HB))); replace HO343 := Goto.m0 (Kd.N_mono (Kd.N_told (Kd.N_told (Kd.N_old (by (with_reducible repeat (first | apply Kd.N_alloc | apply Kd.N_drewN | apply Kd.N_drew)); exact HO343.out) hb) (Kd.N_base ho0)) (Kd.N_base ho1)) (fun _ h_ => h_.1)); replace BK329 := Goto.bb BK329 hb; replace HB := Goto.hs HB hb
          (try clear hb)
          (try clear hb2)
          (try clear hk)
          (try clear hi)
          (try clear ho0)
          (try clear ho1)
          refine hK.out _ _ trivial (fun hHeld => ?_)
          clear hK K
          refine norm_ (a' := ?_) ?_ ?_
          rotate_left
          ·
           show Act.put _ (some 3) _ = _
           exact Goto.ap
          exact Goto.nm (hJ0_3 (v333, v336, v342) _ ⟨(by (with_reducible repeat (first | apply Kd.N_alloc | apply Kd.N_drewN | apply Kd.N_drew)); exact HO334.out), (by (with_reducible repeat (first | apply Kd.N_alloc | apply Kd.N_drewN | apply Kd.N_drew)); exact HO337.out), (Goto.fmN HO343), (Goto.bx BK329), (Goto.hx HB)⟩)
         ·
          skip
          refine Kd.N_make_step (Kd.slice 59 k59) _ 48 (by rfl) (N' := 5) rfl 26 _ _ rfl 4 rfl rfl Try.underlying26 (.slice none 0 0) 24 info48 rfl (by decide) (by omega) [] (ok := fun k_ => w8.heap.size ≤ k_) (okp := fun _ => False) (Kd.FK_slice_mk (Nat.le_refl _) (Kd.F_nil _ _ _)) (fun _ hk => hk.elim) (Nat.le_refl _) (by omega) (by omega) (Below.refl _ _) (Nat.le_refl _) ?_
          intro v339 w9 ho10 hb hg_ hnew_
          clear hg_ hnew_
          (first | rw [← Ny338.out] at ho10 | (simp only [Int.reduceToNat] at ho10; rw [← Ny338.out] at ho10))
          have HO340 := Goto.m0 (Kd.N_lower (Kd.N_mono (ok' := fun k_ => (w.heap.size ≤ k_) ∧ some k_ ≠ (v342 : Value).ownBlock ∧ k_ ≠ gb329) ho10 (fun k_ hk_ => ⟨(Nat.le_trans (below_size (Goto.hx HB)) hk_), (Goto.nl2 HO343 k_ hk_), (Kd.freshB (g := gb329) (o := .cells #[.int .i64 0, .int .i64 0, .slice none 0 0, .slice none 0 0, .int .i64 0, .slice none 0 0, .slice none 0 0] 29 (0, 0)) (Goto.bx BK329) k_ hk_)⟩)) (below_size (Goto.hx HB))); replace HO343 := Goto.nqN HO343 (Kd.N_base ho10) hb; replace BK329 := Goto.bb BK329 hb; replace HB := Goto.hs HB hb; clear hb ho10
          refine hK.out _ _ trivial (fun hHeld => ?_)
          clear hK K
          refine norm_ (a' := ?_) ?_ ?_
          rotate_left
          ·
           show Act.put _ (some 5) _ = _
           exact Goto.ap
          exact Goto.nm (hJ2_3 (v339, v342) _ ⟨(by (with_reducible repeat (first | apply Kd.N_alloc | apply Kd.N_drewN | apply Kd.N_drew)); exact HO340.out), (Goto.fmN HO343), (Goto.bx BK329), (Goto.hx HB)⟩)
       ·
        skip
        rintro v339 w8 ⟨h0_, h1_, h2_⟩
        have n0_ : Aside0 (Kd.N (Kd.slice 59 k59) 48 w8 w.heap.size (fun k_ => (w.heap.size ≤ k_) ∧ k_ ≠ gb329) v339 y338) := ⟨h0_⟩
        have n1_ : Aside0 (w8.heap[gb329]? = some (.cells #[.int .i64 0, .int .i64 0, .slice none 0 0, .slice none 0 0, .int .i64 0, .slice none 0 0, .slice none 0 0] 29 (0, 0))) := ⟨h1_⟩
        have n2_ : Aside0 (Below w.heap.size w w8) := ⟨h2_⟩
        clear BK329; clear HB; clear h0_ h1_ h2_; have HO340 := n0_; have BK329 := n1_; have HB := n2_; clear n0_ n1_ n2_; have hHeld := trivial
        refine norm_ (a' := ?_) ?_ ?_
        rotate_left
        ·
         simp only [putAll, Act.put, List.setIfInBounds_toArray, List.set_cons_zero, List.set_cons_succ]
         rfl
        refine two_ (i := 0) (j := 3) (Ni := some 3) (Nj := some 6) #[true, true, true, false, false, false] #[false, true, true, true, false, false] rfl rfl rfl rfl (by kernel_rfl) (by decide) (by decide) (fun K hK => ?_) (fun K hK => ?_)
        ·
         skip
         refine goes_ Try.func25 (by kernel_rfl) rfl #[] (by rfl) rfl rfl (by (try simp only [List.map_toArray, List.map_cons, List.map_nil]); first | done | rfl | (simp only [List.length_drop, List.length_take]; rfl)) ?_
         with_reducible refine (tontinehelp_Base.calls  t330 t331 t332 t335 _ A2.out).mono ?_
         rintro e w9 ⟨v333, v336, rfl, ho0, ho1, hb⟩
         refine ⟨_, rfl, ?_⟩
         have HO334 := Goto.m0 (Kd.N_lower (Kd.N_mono (ok' := fun k_ => (w.heap.size ≤ k_) ∧ some k_ ≠ (v336 : Value).ownBlock ∧ some k_ ≠ (v339 : Value).ownBlock ∧ k_ ≠ gb329) ho0 (fun k_ hk_ => ⟨(Nat.le_trans (below_size (Goto.hx HB)) hk_.1), hk_.2, (Kd.fresh' (Kd.N_lt (by (with_reducible repeat (first | apply Kd.N_alloc | apply Kd.N_drewN | apply Kd.N_drew)); exact HO340.out)) k_ hk_.1), (Kd.freshB (g := gb329) (o := .cells #[.int .i64 0, .int .i64 0, .slice none 0 0, .slice none 0 0, .int .i64 0, .slice none 0 0, .slice none 0 0] 29 (0, 0)) (Goto.bx BK329) k_ hk_.1)⟩)) (below_size (Goto.hx HB))); have HO337 := Goto.m0 (Kd.N_lower (Kd.N_mono (ok' := fun k_ => (w.heap.size ≤ k_) ∧ some k_ ≠ (v333 : Value).ownBlock ∧ some k_ ≠ (v339 : Value).ownBlock ∧ k_ ≠ gb329) ho1 (fun k_ hk_ => ⟨(Nat.le_trans (below_size (Goto.hx HB)) hk_.1), hk_.2, (Kd.fresh' (Kd.N_lt (by (with_reducible repeat (first | apply Kd.N_alloc | apply Kd.N_drewN | apply Kd.N_drew)); exact HO340.out)) k_ hk_.1), (Kd.freshB (g := gb329) (o := .cells #[.int .i64 0, .int .i64 0, .slice none 0 0, .slice none 0 0, .int .i64 0, .slice none 0 0, .slice none 0 0] 29 (0, 0)) (Goto.bx BK329) k_ hk_.1)⟩)) (below_size (Goto.hx HB))); replace HO340 := Goto.m0 (Kd.N_mono (Kd.N_told (Kd.N_told (Kd.N_old (by (with_reducible repeat (first | apply Kd.N_alloc | apply Kd.N_drewN | apply Kd.N_drew)); exact HO340.out) hb) (Kd.N_base ho0)) (Kd.N_base ho1)) (fun _ h_ => h_.1)); replace BK329 := Goto.bb BK329 hb; replace HB := Goto.hs HB hb
         (try clear hb)
         (try clear hb2)
         (try clear hk)
         (try clear hi)
         (try clear ho0)
         (try clear ho1)
         refine hK.out _ _ trivial (fun hHeld => ?_)
         clear hK K
         refine norm_ (a' := ?_) ?_ ?_
         rotate_left
         ·
          show Act.put _ (some 3) _ = _
          exact Goto.ap
         exact Goto.nm (hJ0_2 (v333, v336, v339) _ ⟨(by (with_reducible repeat (first | apply Kd.N_alloc | apply Kd.N_drewN | apply Kd.N_drew)); exact HO334.out), (by (with_reducible repeat (first | apply Kd.N_alloc | apply Kd.N_drewN | apply Kd.N_drew)); exact HO337.out), (Goto.fmN HO340), (Goto.bx BK329), (Goto.hx HB)⟩)
        ·
         skip
         refine Kd.N_make_step (Kd.slice 63 k63) _ 50 (by rfl) (N' := 6) rfl 27 _ _ rfl 4 rfl rfl Try.underlying27 (.slice none 0 0) 24 info50 rfl (by decide) (by omega) [] (ok := fun k_ => w8.heap.size ≤ k_) (okp := fun _ => False) (Kd.FK_slice_mk (Nat.le_refl _) (Kd.F_nil _ _ _)) (fun _ hk => hk.elim) (Nat.le_refl _) (by omega) (by omega) (Below.refl _ _) (Nat.le_refl _) ?_
         intro v342 w9 ho10 hb hg_ hnew_
         clear hg_ hnew_
         (first | rw [← Ny341.out] at ho10 | (simp only [Int.reduceToNat] at ho10; rw [← Ny341.out] at ho10))
         have HO343 := Goto.m0 (Kd.N_lower (Kd.N_mono (ok' := fun k_ => (w.heap.size ≤ k_) ∧ some k_ ≠ (v339 : Value).ownBlock ∧ k_ ≠ gb329) ho10 (fun k_ hk_ => ⟨(Nat.le_trans (below_size (Goto.hx HB)) hk_), (Goto.nl2 HO340 k_ hk_), (Kd.freshB (g := gb329) (o := .cells #[.int .i64 0, .int .i64 0, .slice none 0 0, .slice none 0 0, .int .i64 0, .slice none 0 0, .slice none 0 0] 29 (0, 0)) (Goto.bx BK329) k_ hk_)⟩)) (below_size (Goto.hx HB))); replace HO340 := Goto.nqN HO340 (Kd.N_base ho10) hb; replace BK329 := Goto.bb BK329 hb; replace HB := Goto.hs HB hb; clear hb ho10
         refine hK.out _ _ trivial (fun hHeld => ?_)
         clear hK K
         refine norm_ (a' := ?_) ?_ ?_
         rotate_left
         ·
          show Act.put _ (some 6) _ = _
          exact Goto.ap
         exact Goto.nm (hJ2_3 (v339, v342) _ ⟨(Goto.fmN HO340), (by (with_reducible repeat (first | apply Kd.N_alloc | apply Kd.N_drewN | apply Kd.N_drew)); exact HO343.out), (Goto.bx BK329), (Goto.hx HB)⟩)
      ·
       skip
       rintro ⟨v333, v336⟩ w7 ⟨h0_, h1_, h2_, h3_⟩
       have n0_ : Aside0 (Kd.N (Kd.slice 3 (Kd.int .i64)) 44 w7 w.heap.size (fun k_ => (w.heap.size ≤ k_) ∧ some k_ ≠ (v336 : Value).ownBlock ∧ k_ ≠ gb329) v333 t332) := ⟨h0_⟩
       have n1_ : Aside0 (Kd.N k46 46 w7 w.heap.size (fun k_ => (w.heap.size ≤ k_) ∧ some k_ ≠ (v333 : Value).ownBlock ∧ k_ ≠ gb329) v336 t335) := ⟨h1_⟩
       have n2_ : Aside0 (w7.heap[gb329]? = some (.cells #[.int .i64 0, .int .i64 0, .slice none 0 0, .slice none 0 0, .int .i64 0, .slice none 0 0, .slice none 0 0] 29 (0, 0))) := ⟨h2_⟩
       have n3_ : Aside0 (Below w.heap.size w w7) := ⟨h3_⟩
       clear BK329; clear HB; clear h0_ h1_ h2_ h3_; have HO334 := n0_; have HO337 := n1_; have BK329 := n2_; have HB := n3_; clear n0_ n1_ n2_ n3_; have hHeld := trivial
       refine norm_ (a' := ?_) ?_ ?_
       rotate_left
       ·
        simp only [putAll, Act.put, List.setIfInBounds_toArray, List.set_cons_zero, List.set_cons_succ]
        rfl
       refine two_ (i := 2) (j := 3) (Ni := some 5) (Nj := some 6) #[true, true, true, false, false, false] #[true, true, false, true, false, false] rfl rfl rfl rfl (by kernel_rfl) (by decide) (by decide) (fun K hK => ?_) (fun K hK => ?_)
       ·
        skip
        refine Kd.N_make_step (Kd.slice 59 k59) _ 48 (by rfl) (N' := 5) rfl 26 _ _ rfl 4 rfl rfl Try.underlying26 (.slice none 0 0) 24 info48 rfl (by decide) (by omega) [] (ok := fun k_ => w7.heap.size ≤ k_) (okp := fun _ => False) (Kd.FK_slice_mk (Nat.le_refl _) (Kd.F_nil _ _ _)) (fun _ hk => hk.elim) (Nat.le_refl _) (by omega) (by omega) (Below.refl _ _) (Nat.le_refl _) ?_
        intro v339 w8 ho9 hb hg_ hnew_
        clear hg_ hnew_
        (first | rw [← Ny338.out] at ho9 | (simp only [Int.reduceToNat] at ho9; rw [← Ny338.out] at ho9))
        have HO340 := Goto.m0 (Kd.N_lower (Kd.N_mono (ok' := fun k_ => (w.heap.size ≤ k_) ∧ some k_ ≠ (v333 : Value).ownBlock ∧ some k_ ≠ (v336 : Value).ownBlock ∧ k_ ≠ gb329) ho9 (fun k_ hk_ => ⟨(Nat.le_trans (below_size (Goto.hx HB)) hk_), (Goto.nl2 HO334 k_ hk_), (Goto.nl2 HO337 k_ hk_), (Kd.freshB (g := gb329) (o := .cells #[.int .i64 0, .int .i64 0, .slice none 0 0, .slice none 0 0, .int .i64 0, .slice none 0 0, .slice none 0 0] 29 (0, 0)) (Goto.bx BK329) k_ hk_)⟩)) (below_size (Goto.hx HB))); replace HO334 := Goto.nqN HO334 (Kd.N_base ho9) hb; replace HO337 := Goto.nqN HO337 (Kd.N_base ho9) hb; replace BK329 := Goto.bb BK329 hb; replace HB := Goto.hs HB hb; clear hb ho9
        refine hK.out _ _ trivial (fun hHeld => ?_)
        clear hK K
        refine norm_ (a' := ?_) ?_ ?_
        rotate_left
        ·
         show Act.put _ (some 5) _ = _
         exact Goto.ap
        exact Goto.nm (hJ0_2 (v333, v336, v339) _ ⟨(Goto.fmN HO334), (Goto.fmN HO337), (by (with_reducible repeat (first | apply Kd.N_alloc | apply Kd.N_drewN | apply Kd.N_drew)); exact HO340.out), (Goto.bx BK329), (Goto.hx HB)⟩)
       ·
        skip
        refine Kd.N_make_step (Kd.slice 63 k63) _ 50 (by rfl) (N' := 6) rfl 27 _ _ rfl 4 rfl rfl Try.underlying27 (.slice none 0 0) 24 info50 rfl (by decide) (by omega) [] (ok := fun k_ => w7.heap.size ≤ k_) (okp := fun _ => False) (Kd.FK_slice_mk (Nat.le_refl _) (Kd.F_nil _ _ _)) (fun _ hk => hk.elim) (Nat.le_refl _) (by omega) (by omega) (Below.refl _ _) (Nat.le_refl _) ?_
        intro v342 w8 ho9 hb hg_ hnew_
        clear hg_ hnew_
        (first | rw [← Ny341.out] at ho9 | (simp only [Int.reduceToNat] at ho9; rw [← Ny341.out] at ho9))
        have HO343 := Goto.m0 (Kd.N_lower (Kd.N_mono (ok' := fun k_ => (w.heap.size ≤ k_) ∧ some k_ ≠ (v333 : Value).ownBlock ∧ some k_ ≠ (v336 : Value).ownBlock ∧ k_ ≠ gb329) ho9 (fun k_ hk_ => ⟨(Nat.le_trans (below_size (Goto.hx HB)) hk_), (Goto.nl2 HO334 k_ hk_), (Goto.nl2 HO337 k_ hk_), (Kd.freshB (g := gb329) (o := .cells #[.int .i64 0, .int .i64 0, .slice none 0 0, .slice none 0 0, .int .i64 0, .slice none 0 0, .slice none 0 0] 29 (0, 0)) (Goto.bx BK329) k_ hk_)⟩)) (below_size (Goto.hx HB))); replace HO334 := Goto.nqN HO334 (Kd.N_base ho9) hb; replace HO337 := Goto.nqN HO337 (Kd.N_base ho9) hb; replace BK329 := Goto.bb BK329 hb; replace HB := Goto.hs HB hb; clear hb ho9
        refine hK.out _ _ trivial (fun hHeld => ?_)
        clear hK K
        refine norm_ (a' := ?_) ?_ ?_
        rotate_left
        ·
         show Act.put _ (some 6) _ = _
         exact Goto.ap
        exact Goto.nm (hJ0_3 (v333, v336, v342) _ ⟨(Goto.fmN HO334), (Goto.fmN HO337), (by (with_reducible repeat (first | apply Kd.N_alloc | apply Kd.N_drewN | apply Kd.N_drew)); exact HO343.out), (Goto.bx BK329), (Goto.hx HB)⟩)
     ·
      skip
      rintro ⟨v339, v342⟩ w10 ⟨h0_, h1_, h2_, h3_⟩
      have n0_ : Aside0 (Kd.N (Kd.slice 59 k59) 48 w10 w.heap.size (fun k_ => (w.heap.size ≤ k_) ∧ some k_ ≠ (v342 : Value).ownBlock ∧ k_ ≠ gb329) v339 y338) := ⟨h0_⟩
      have n1_ : Aside0 (Kd.N (Kd.slice 63 k63) 50 w10 w.heap.size (fun k_ => (w.heap.size ≤ k_) ∧ some k_ ≠ (v339 : Value).ownBlock ∧ k_ ≠ gb329) v342 y341) := ⟨h1_⟩
      have n2_ : Aside0 (w10.heap[gb329]? = some (.cells #[.int .i64 0, .int .i64 0, .slice none 0 0, .slice none 0 0, .int .i64 0, .slice none 0 0, .slice none 0 0] 29 (0, 0))) := ⟨h2_⟩
      have n3_ : Aside0 (Below w.heap.size w w10) := ⟨h3_⟩
      clear BK329; clear HB; clear h0_ h1_ h2_ h3_; have HO340 := n0_; have HO343 := n1_; have BK329 := n2_; have HB := n3_; clear n0_ n1_ n2_ n3_; have hHeld := trivial
      refine norm_ (a' := ?_) ?_ ?_
      rotate_left
      ·
       simp only [putAll, Act.put, List.setIfInBounds_toArray, List.set_cons_zero, List.set_cons_succ]
       rfl
      refine one_ (i := 0) (N := some 3) #[true, true, true, true, false, false] rfl rfl (by kernel_rfl) (by decide) (fun K hK => ?_)
      refine goes_ Try.func25 (by kernel_rfl) rfl #[] (by rfl) rfl rfl (by (try simp only [List.map_toArray, List.map_cons, List.map_nil]); first | done | rfl | (simp only [List.length_drop, List.length_take]; rfl)) ?_
      with_reducible refine (tontinehelp_Base.calls  t330 t331 t332 t335 _ A2.out).mono ?_
      rintro e w11 ⟨v333, v336, rfl, ho0, ho1, hb⟩
      refine ⟨_, rfl, ?_⟩
      have HO334 := Goto.m0 (Kd.N_lower (Kd.N_mono (ok' := fun k_ => (w.heap.size ≤ k_) ∧ some k_ ≠ (v336 : Value).ownBlock ∧ some k_ ≠ (v339 : Value).ownBlock ∧ some k_ ≠ (v342 : Value).ownBlock ∧ k_ ≠ gb329) ho0 (fun k_ hk_ => ⟨(Nat.le_trans (below_size (Goto.hx HB)) hk_.1), hk_.2, (Kd.fresh' (Kd.N_lt (by (with_reducible repeat (first | apply Kd.N_alloc | apply Kd.N_drewN | apply Kd.N_drew)); exact HO340.out)) k_ hk_.1), (Kd.fresh' (Kd.N_lt (by (with_reducible repeat (first | apply Kd.N_alloc | apply Kd.N_drewN | apply Kd.N_drew)); exact HO343.out)) k_ hk_.1), (Kd.freshB (g := gb329) (o := .cells #[.int .i64 0, .int .i64 0, .slice none 0 0, .slice none 0 0, .int .i64 0, .slice none 0 0, .slice none 0 0] 29 (0, 0)) (Goto.bx BK329) k_ hk_.1)⟩)) (below_size (Goto.hx HB))); have HO337 := Goto.m0 (Kd.N_lower (Kd.N_mono (ok' := fun k_ => (w.heap.size ≤ k_) ∧ some k_ ≠ (v333 : Value).ownBlock ∧ some k_ ≠ (v339 : Value).ownBlock ∧ some k_ ≠ (v342 : Value).ownBlock ∧ k_ ≠ gb329) ho1 (fun k_ hk_ => ⟨(Nat.le_trans (below_size (Goto.hx HB)) hk_.1), hk_.2, (Kd.fresh' (Kd.N_lt (by (with_reducible repeat (first | apply Kd.N_alloc | apply Kd.N_drewN | apply Kd.N_drew)); exact HO340.out)) k_ hk_.1), (Kd.fresh' (Kd.N_lt (by (with_reducible repeat (first | apply Kd.N_alloc | apply Kd.N_drewN | apply Kd.N_drew)); exact HO343.out)) k_ hk_.1), (Kd.freshB (g := gb329) (o := .cells #[.int .i64 0, .int .i64 0, .slice none 0 0, .slice none 0 0, .int .i64 0, .slice none 0 0, .slice none 0 0] 29 (0, 0)) (Goto.bx BK329) k_ hk_.1)⟩)) (below_size (Goto.hx HB))); replace HO340 := Goto.m0 (Kd.N_mono (Kd.N_told (Kd.N_told (Kd.N_old (by (with_reducible repeat (first | apply Kd.N_alloc | apply Kd.N_drewN | apply Kd.N_drew)); exact HO340.out) hb) (Kd.N_base ho0)) (Kd.N_base ho1)) (fun _ h_ => h_.1)); replace HO343 := Goto.m0 (Kd.N_mono (Kd.N_told (Kd.N_told (Kd.N_old (by (with_reducible repeat (first | apply Kd.N_alloc | apply Kd.N_drewN | apply Kd.N_drew)); exact HO343.out) hb) (Kd.N_base ho0)) (Kd.N_base ho1)) (fun _ h_ => h_.1)); replace BK329 := Goto.bb BK329 hb; replace HB := Goto.hs HB hb
      (try clear hb)
      (try clear hb2)
      (try clear hk)
      (try clear hi)
      (try clear ho0)
      (try clear ho1)
      obtain ⟨Ao12, co12, eo12⟩ := Kd.N_slice HO343.out
      (first | subst eo12 | (injection eo12 with f1_ f2_ f3_; have f4_ := f1_.symm; have f5_ := f3_.symm; clear f1_ f2_ f3_; subst f4_; subst f5_))
      obtain ⟨Ao13, co13, eo13⟩ := Kd.N_slice HO340.out
      (first | subst eo13 | (injection eo13 with f1_ f2_ f3_; have f4_ := f1_.symm; have f5_ := f3_.symm; clear f1_ f2_ f3_; subst f4_; subst f5_))
      obtain ⟨Ao14, co14, eo14⟩ := Kd.N_slice HO337.out
      (first | subst eo14 | (injection eo14 with f1_ f2_ f3_; have f4_ := f1_.symm; have f5_ := f3_.symm; clear f1_ f2_ f3_; subst f4_; subst f5_))
      obtain ⟨Ao15, co15, eo15⟩ := Kd.N_slice HO334.out
      (first | subst eo15 | (injection eo15 with f1_ f2_ f3_; have f4_ := f1_.symm; have f5_ := f3_.symm; clear f1_ f2_ f3_; subst f4_; subst f5_))
      refine hK.out _ _ trivial (fun hHeld => ?_)
      clear hK K
      refine norm_ (a' := ?_) ?_ ?_
      rotate_left
      ·
       show Act.put _ (some 3) _ = _
       exact Goto.ap
      exact Goto.nm (hJ0_2_3 (.slice Ao15 t332.length co15, .slice Ao14 t335.length co14, .slice Ao13 y338.length co13, .slice Ao12 y341.length co12) _ ⟨(by (with_reducible repeat (first | apply Kd.N_alloc | apply Kd.N_drewN | apply Kd.N_drew)); exact HO334.out), (by (with_reducible repeat (first | apply Kd.N_alloc | apply Kd.N_drewN | apply Kd.N_drew)); exact HO337.out), (Goto.fmN HO340), (Goto.fmN HO343), (Goto.bx BK329), (Goto.hx HB)⟩)
    ·
     skip
     rintro ⟨v333, v336, v342⟩ w9 ⟨h0_, h1_, h2_, h3_, h4_⟩
     have n0_ : Aside0 (Kd.N (Kd.slice 3 (Kd.int .i64)) 44 w9 w.heap.size (fun k_ => (w.heap.size ≤ k_) ∧ some k_ ≠ (v336 : Value).ownBlock ∧ some k_ ≠ (v342 : Value).ownBlock ∧ k_ ≠ gb329) v333 t332) := ⟨h0_⟩
     have n1_ : Aside0 (Kd.N k46 46 w9 w.heap.size (fun k_ => (w.heap.size ≤ k_) ∧ some k_ ≠ (v333 : Value).ownBlock ∧ some k_ ≠ (v342 : Value).ownBlock ∧ k_ ≠ gb329) v336 t335) := ⟨h1_⟩
     have n2_ : Aside0 (Kd.N (Kd.slice 63 k63) 50 w9 w.heap.size (fun k_ => (w.heap.size ≤ k_) ∧ some k_ ≠ (v333 : Value).ownBlock ∧ some k_ ≠ (v336 : Value).ownBlock ∧ k_ ≠ gb329) v342 y341) := ⟨h2_⟩
     have n3_ : Aside0 (w9.heap[gb329]? = some (.cells #[.int .i64 0, .int .i64 0, .slice none 0 0, .slice none 0 0, .int .i64 0, .slice none 0 0, .slice none 0 0] 29 (0, 0))) := ⟨h3_⟩
     have n4_ : Aside0 (Below w.heap.size w w9) := ⟨h4_⟩
     clear BK329; clear HB; clear h0_ h1_ h2_ h3_ h4_; have HO334 := n0_; have HO337 := n1_; have HO343 := n2_; have BK329 := n3_; have HB := n4_; clear n0_ n1_ n2_ n3_ n4_; have hHeld := trivial
     refine norm_ (a' := ?_) ?_ ?_
     rotate_left
     ·
      simp only [putAll, Act.put, List.setIfInBounds_toArray, List.set_cons_zero, List.set_cons_succ]
      rfl
     refine one_ (i := 2) (N := some 5) #[true, true, true, true, false, false] rfl rfl (by kernel_rfl) (by decide) (fun K hK => ?_)
     refine Kd.N_make_step (Kd.slice 59 k59) _ 48 (by rfl) (N' := 5) rfl 26 _ _ rfl 4 rfl rfl Try.underlying26 (.slice none 0 0) 24 info48 rfl (by decide) (by omega) [] (ok := fun k_ => w9.heap.size ≤ k_) (okp := fun _ => False) (Kd.FK_slice_mk (Nat.le_refl _) (Kd.F_nil _ _ _)) (fun _ hk => hk.elim) (Nat.le_refl _) (by omega) (by omega) (Below.refl _ _) (Nat.le_refl _) ?_
     intro v339 w10 ho11 hb hg_ hnew_
     clear hg_ hnew_
     (first | rw [← Ny338.out] at ho11 | (simp only [Int.reduceToNat] at ho11; rw [← Ny338.out] at ho11))
     have HO340 := Goto.m0 (Kd.N_lower (Kd.N_mono (ok' := fun k_ => (w.heap.size ≤ k_) ∧ some k_ ≠ (v333 : Value).ownBlock ∧ some k_ ≠ (v336 : Value).ownBlock ∧ some k_ ≠ (v342 : Value).ownBlock ∧ k_ ≠ gb329) ho11 (fun k_ hk_ => ⟨(Nat.le_trans (below_size (Goto.hx HB)) hk_), (Goto.nl2 HO334 k_ hk_), (Goto.nl2 HO337 k_ hk_), (Goto.nl2 HO343 k_ hk_), (Kd.freshB (g := gb329) (o := .cells #[.int .i64 0, .int .i64 0, .slice none 0 0, .slice none 0 0, .int .i64 0, .slice none 0 0, .slice none 0 0] 29 (0, 0)) (Goto.bx BK329) k_ hk_)⟩)) (below_size (Goto.hx HB))); replace HO334 := Goto.nqN HO334 (Kd.N_base ho11) hb; replace HO337 := Goto.nqN HO337 (Kd.N_base ho11) hb; replace HO343 := Goto.nqN HO343 (Kd.N_base ho11) hb; replace BK329 := Goto.bb BK329 hb; replace HB := Goto.hs HB hb; clear hb ho11
     obtain ⟨Ao12, co12, eo12⟩ := Kd.N_slice HO343.out
     (first | subst eo12 | (injection eo12 with f1_ f2_ f3_; have f4_ := f1_.symm; have f5_ := f3_.symm; clear f1_ f2_ f3_; subst f4_; subst f5_))
     obtain ⟨Ao13, co13, eo13⟩ := Kd.N_slice HO340.out
     (first | subst eo13 | (injection eo13 with f1_ f2_ f3_; have f4_ := f1_.symm; have f5_ := f3_.symm; clear f1_ f2_ f3_; subst f4_; subst f5_))
     obtain ⟨Ao14, co14, eo14⟩ := Kd.N_slice HO337.out
     (first | subst eo14 | (injection eo14 with f1_ f2_ f3_; have f4_ := f1_.symm; have f5_ := f3_.symm; clear f1_ f2_ f3_; subst f4_; subst f5_))
     obtain ⟨Ao15, co15, eo15⟩ := Kd.N_slice HO334.out
     (first | subst eo15 | (injection eo15 with f1_ f2_ f3_; have f4_ := f1_.symm; have f5_ := f3_.symm; clear f1_ f2_ f3_; subst f4_; subst f5_))
     refine hK.out _ _ trivial (fun hHeld => ?_)
     clear hK K
     refine norm_ (a' := ?_) ?_ ?_
     rotate_left
     ·
      show Act.put _ (some 5) _ = _
      exact Goto.ap
     exact Goto.nm (hJ0_2_3 (.slice Ao15 t332.length co15, .slice Ao14 t335.length co14, .slice Ao13 y338.length co13, .slice Ao12 y341.length co12) _ ⟨(Goto.fmN HO334), (Goto.fmN HO337), (by (with_reducible repeat (first | apply Kd.N_alloc | apply Kd.N_drewN | apply Kd.N_drew)); exact HO340.out), (Goto.fmN HO343), (Goto.bx BK329), (Goto.hx HB)⟩)
   ·
    skip
    rintro ⟨v333, v336, v339⟩ w9 ⟨h0_, h1_, h2_, h3_, h4_⟩
    have n0_ : Aside0 (Kd.N (Kd.slice 3 (Kd.int .i64)) 44 w9 w.heap.size (fun k_ => (w.heap.size ≤ k_) ∧ some k_ ≠ (v336 : Value).ownBlock ∧ some k_ ≠ (v339 : Value).ownBlock ∧ k_ ≠ gb329) v333 t332) := ⟨h0_⟩
    have n1_ : Aside0 (Kd.N k46 46 w9 w.heap.size (fun k_ => (w.heap.size ≤ k_) ∧ some k_ ≠ (v333 : Value).ownBlock ∧ some k_ ≠ (v339 : Value).ownBlock ∧ k_ ≠ gb329) v336 t335) := ⟨h1_⟩
    have n2_ : Aside0 (Kd.N (Kd.slice 59 k59) 48 w9 w.heap.size (fun k_ => (w.heap.size ≤ k_) ∧ some k_ ≠ (v333 : Value).ownBlock ∧ some k_ ≠ (v336 : Value).ownBlock ∧ k_ ≠ gb329) v339 y338) := ⟨h2_⟩
    have n3_ : Aside0 (w9.heap[gb329]? = some (.cells #[.int .i64 0, .int .i64 0, .slice none 0 0, .slice none 0 0, .int .i64 0, .slice none 0 0, .slice none 0 0] 29 (0, 0))) := ⟨h3_⟩
    have n4_ : Aside0 (Below w.heap.size w w9) := ⟨h4_⟩
    clear BK329; clear HB; clear h0_ h1_ h2_ h3_ h4_; have HO334 := n0_; have HO337 := n1_; have HO340 := n2_; have BK329 := n3_; have HB := n4_; clear n0_ n1_ n2_ n3_ n4_; have hHeld := trivial
    refine norm_ (a' := ?_) ?_ ?_
    rotate_left
    ·
     simp only [putAll, Act.put, List.setIfInBounds_toArray, List.set_cons_zero, List.set_cons_succ]
     rfl
    refine one_ (i := 3) (N := some 6) #[true, true, true, true, false, false] rfl rfl (by kernel_rfl) (by decide) (fun K hK => ?_)
    refine Kd.N_make_step (Kd.slice 63 k63) _ 50 (by rfl) (N' := 6) rfl 27 _ _ rfl 4 rfl rfl Try.underlying27 (.slice none 0 0) 24 info50 rfl (by decide) (by omega) [] (ok := fun k_ => w9.heap.size ≤ k_) (okp := fun _ => False) (Kd.FK_slice_mk (Nat.le_refl _) (Kd.F_nil _ _ _)) (fun _ hk => hk.elim) (Nat.le_refl _) (by omega) (by omega) (Below.refl _ _) (Nat.le_refl _) ?_
    intro v342 w10 ho11 hb hg_ hnew_
    clear hg_ hnew_
    (first | rw [← Ny341.out] at ho11 | (simp only [Int.reduceToNat] at ho11; rw [← Ny341.out] at ho11))
    have HO343 := Goto.m0 (Kd.N_lower (Kd.N_mono (ok' := fun k_ => (w.heap.size ≤ k_) ∧ some k_ ≠ (v333 : Value).ownBlock ∧ some k_ ≠ (v336 : Value).ownBlock ∧ some k_ ≠ (v339 : Value).ownBlock ∧ k_ ≠ gb329) ho11 (fun k_ hk_ => ⟨(Nat.le_trans (below_size (Goto.hx HB)) hk_), (Goto.nl2 HO334 k_ hk_), (Goto.nl2 HO337 k_ hk_), (Goto.nl2 HO340 k_ hk_), (Kd.freshB (g := gb329) (o := .cells #[.int .i64 0, .int .i64 0, .slice none 0 0, .slice none 0 0, .int .i64 0, .slice none 0 0, .slice none 0 0] 29 (0, 0)) (Goto.bx BK329) k_ hk_)⟩)) (below_size (Goto.hx HB))); replace HO334 := Goto.nqN HO334 (Kd.N_base ho11) hb; replace HO337 := Goto.nqN HO337 (Kd.N_base ho11) hb; replace HO340 := Goto.nqN HO340 (Kd.N_base ho11) hb; replace BK329 := Goto.bb BK329 hb; replace HB := Goto.hs HB hb; clear hb ho11
    obtain ⟨Ao12, co12, eo12⟩ := Kd.N_slice HO343.out
    (first | subst eo12 | (injection eo12 with f1_ f2_ f3_; have f4_ := f1_.symm; have f5_ := f3_.symm; clear f1_ f2_ f3_; subst f4_; subst f5_))
    obtain ⟨Ao13, co13, eo13⟩ := Kd.N_slice HO340.out
    (first | subst eo13 | (injection eo13 with f1_ f2_ f3_; have f4_ := f1_.symm; have f5_ := f3_.symm; clear f1_ f2_ f3_; subst f4_; subst f5_))
    obtain ⟨Ao14, co14, eo14⟩ := Kd.N_slice HO337.out
    (first | subst eo14 | (injection eo14 with f1_ f2_ f3_; have f4_ := f1_.symm; have f5_ := f3_.symm; clear f1_ f2_ f3_; subst f4_; subst f5_))
    obtain ⟨Ao15, co15, eo15⟩ := Kd.N_slice HO334.out
    (first | subst eo15 | (injection eo15 with f1_ f2_ f3_; have f4_ := f1_.symm; have f5_ := f3_.symm; clear f1_ f2_ f3_; subst f4_; subst f5_))
    refine hK.out _ _ trivial (fun hHeld => ?_)
    clear hK K
    refine norm_ (a' := ?_) ?_ ?_
    rotate_left
    ·
     show Act.put _ (some 6) _ = _
     exact Goto.ap
    exact Goto.nm (hJ0_2_3 (.slice Ao15 t332.length co15, .slice Ao14 t335.length co14, .slice Ao13 y338.length co13, .slice Ao12 y341.length co12) _ ⟨(Goto.fmN HO334), (Goto.fmN HO337), (Goto.fmN HO340), (by (with_reducible repeat (first | apply Kd.N_alloc | apply Kd.N_drewN | apply Kd.N_drew)); exact HO343.out), (Goto.bx BK329), (Goto.hx HB)⟩)
  rintro ⟨v333, v336, v339, v342⟩ w15 ⟨h0_, h1_, h2_, h3_, h4_, h5_⟩
  have n0_ : Aside0 (Kd.N (Kd.slice 3 (Kd.int .i64)) 44 w15 w.heap.size (fun k_ => (w.heap.size ≤ k_) ∧ some k_ ≠ (v336 : Value).ownBlock ∧ some k_ ≠ (v339 : Value).ownBlock ∧ some k_ ≠ (v342 : Value).ownBlock ∧ k_ ≠ gb329) v333 t332) := ⟨h0_⟩
  have n1_ : Aside0 (Kd.N k46 46 w15 w.heap.size (fun k_ => (w.heap.size ≤ k_) ∧ some k_ ≠ (v333 : Value).ownBlock ∧ some k_ ≠ (v339 : Value).ownBlock ∧ some k_ ≠ (v342 : Value).ownBlock ∧ k_ ≠ gb329) v336 t335) := ⟨h1_⟩
  have n2_ : Aside0 (Kd.N (Kd.slice 59 k59) 48 w15 w.heap.size (fun k_ => (w.heap.size ≤ k_) ∧ some k_ ≠ (v333 : Value).ownBlock ∧ some k_ ≠ (v336 : Value).ownBlock ∧ some k_ ≠ (v342 : Value).ownBlock ∧ k_ ≠ gb329) v339 y338) := ⟨h2_⟩
  have n3_ : Aside0 (Kd.N (Kd.slice 63 k63) 50 w15 w.heap.size (fun k_ => (w.heap.size ≤ k_) ∧ some k_ ≠ (v333 : Value).ownBlock ∧ some k_ ≠ (v336 : Value).ownBlock ∧ some k_ ≠ (v339 : Value).ownBlock ∧ k_ ≠ gb329) v342 y341) := ⟨h3_⟩
  have n4_ : Aside0 (w15.heap[gb329]? = some (.cells #[.int .i64 0, .int .i64 0, .slice none 0 0, .slice none 0 0, .int .i64 0, .slice none 0 0, .slice none 0 0] 29 (0, 0))) := ⟨h4_⟩
  have n5_ : Aside0 (Below w.heap.size w w15) := ⟨h5_⟩
  clear BK329; clear HB; clear h0_ h1_ h2_ h3_ h4_ h5_; have HO334 := n0_; have HO337 := n1_; have HO340 := n2_; have HO343 := n3_; have BK329 := n4_; have HB := n5_; clear n0_ n1_ n2_ n3_ n4_ n5_; have hHeld := trivial
  obtain ⟨Ao16, co16, eo16⟩ := Kd.N_slice HO343.out
  (first | subst eo16 | (injection eo16 with f1_ f2_ f3_; have f4_ := f1_.symm; have f5_ := f3_.symm; clear f1_ f2_ f3_; subst f4_; subst f5_))
  obtain ⟨Ao17, co17, eo17⟩ := Kd.N_slice HO340.out
  (first | subst eo17 | (injection eo17 with f1_ f2_ f3_; have f4_ := f1_.symm; have f5_ := f3_.symm; clear f1_ f2_ f3_; subst f4_; subst f5_))
  obtain ⟨Ao18, co18, eo18⟩ := Kd.N_slice HO337.out
  (first | subst eo18 | (injection eo18 with f1_ f2_ f3_; have f4_ := f1_.symm; have f5_ := f3_.symm; clear f1_ f2_ f3_; subst f4_; subst f5_))
  obtain ⟨Ao19, co19, eo19⟩ := Kd.N_slice HO334.out
  (first | subst eo19 | (injection eo19 with f1_ f2_ f3_; have f4_ := f1_.symm; have f5_ := f3_.symm; clear f1_ f2_ f3_; subst f4_; subst f5_))
  refine norm_ (a' := ?_) ?_ ?_
  rotate_left
  ·
   simp only [putAll, Act.put, List.setIfInBounds_toArray, List.set_cons_zero, List.set_cons_succ]
   rfl
  refine pure_ (i := 4) (N := some 7) (v := ?_) (a' := ?_) #[true, true, true, true, true, false] rfl rfl (by kernel_rfl) (fun _ _ _ h => h) (Or.inl ⟨by rfl, ?_⟩) ?_ ?_
  rotate_left
  ·
   intro w'
   go_simp
   with_reducible rfl
  rotate_left
  ·
   exact Goto.ap
  refine one_ (i := 5) (N := none) #[true, true, true, true, true, true] rfl rfl (by kernel_rfl) (by decide) (fun K hK => ?_)
  have hs20 : w15.cell? ⟨gb329, 0, none⟩ = some (.int .i64 0) := (blk_cell BK329.out 0).trans rfl; have hfs20 := Goto.bf BK329 0; have hs21 : w15.cell? ⟨gb329, 1, none⟩ = some (.int .i64 0) := (blk_cell BK329.out 1).trans rfl; have hfs21 := Goto.bf BK329 1; have hs22 : w15.cell? ⟨gb329, 2, none⟩ = some (.slice none 0 0) := (blk_cell BK329.out 2).trans rfl; have hfs22 := Goto.bf BK329 2; have hs23 : w15.cell? ⟨gb329, 3, none⟩ = some (.slice none 0 0) := (blk_cell BK329.out 3).trans rfl; have hfs23 := Goto.bf BK329 3; have hs24 : w15.cell? ⟨gb329, 4, none⟩ = some (.int .i64 0) := (blk_cell BK329.out 4).trans rfl; have hfs24 := Goto.bf BK329 4; have hs25 : w15.cell? ⟨gb329, 5, none⟩ = some (.slice none 0 0) := (blk_cell BK329.out 5).trans rfl; have hfs25 := Goto.bf BK329 5; have hs26 : w15.cell? ⟨gb329, 6, none⟩ = some (.slice none 0 0) := (blk_cell BK329.out 6).trans rfl; have hfs26 := Goto.bf BK329 6
  refine skip_ (w1 := ?_) (by rfl) rfl ?_ ?_
  rotate_left
  ·
   go_simp
   rfl
  refine hK.out _ _ trivial (fun hHeld => ?_)
  clear hK K
  refine done_ (by kernel_rfl) ?_
  try go_wp2
  refine bodyPost_ret (results_cell_row rfl _ _ gb329 29 #[.int .i64 t330, .int .i64 t331, .slice Ao19 t332.length co19, .slice Ao18 t335.length co18, .int .i64 a0, .slice Ao17 y338.length co17, .slice Ao16 y341.length co16] (0, 0) _ rfl (Goto.bx BK329) Try.underlying29 rfl (by kernel_rfl)) rfl ?_
  exact ⟨_, _, _, _, Goto.er, by (with_reducible repeat (first | apply Kd.N_alloc | apply Kd.N_drewN | apply Kd.N_drew)); exact Kd.N_mono (Kd.N_far (p := ⟨gb329, 6, none⟩) (Kd.N_far (p := ⟨gb329, 5, none⟩) (Kd.N_far (p := ⟨gb329, 4, none⟩) (Kd.N_far (p := ⟨gb329, 3, none⟩) (Kd.N_far (p := ⟨gb329, 2, none⟩) (Kd.N_far (p := ⟨gb329, 1, none⟩) (Kd.N_far (p := ⟨gb329, 0, none⟩) (Kd.N_mono HO334.out (fun k_ hk => (⟨hk, hk.2.2.2.2⟩ : _ ∧ k_ ≠ gb329))) (fun _ hk => hk.2) (.int .i64 t330)) (fun _ hk => hk.2) (.int .i64 t331)) (fun _ hk => hk.2) (.slice Ao19 t332.length co19)) (fun _ hk => hk.2) (.slice Ao18 t335.length co18)) (fun _ hk => hk.2) (.int .i64 a0)) (fun _ hk => hk.2) (.slice Ao17 y338.length co17)) (fun _ hk => hk.2) (.slice Ao16 y341.length co16)) (fun _ hk => ⟨hk.1.1, ⟨hk.1.2.1, ⟨hk.1.2.2.1, hk.1.2.2.2.1⟩⟩⟩), by (with_reducible repeat (first | apply Kd.N_alloc | apply Kd.N_drewN | apply Kd.N_drew)); exact Kd.N_mono (Kd.N_far (p := ⟨gb329, 6, none⟩) (Kd.N_far (p := ⟨gb329, 5, none⟩) (Kd.N_far (p := ⟨gb329, 4, none⟩) (Kd.N_far (p := ⟨gb329, 3, none⟩) (Kd.N_far (p := ⟨gb329, 2, none⟩) (Kd.N_far (p := ⟨gb329, 1, none⟩) (Kd.N_far (p := ⟨gb329, 0, none⟩) (Kd.N_mono HO337.out (fun k_ hk => (⟨hk, hk.2.2.2.2⟩ : _ ∧ k_ ≠ gb329))) (fun _ hk => hk.2) (.int .i64 t330)) (fun _ hk => hk.2) (.int .i64 t331)) (fun _ hk => hk.2) (.slice Ao19 t332.length co19)) (fun _ hk => hk.2) (.slice Ao18 t335.length co18)) (fun _ hk => hk.2) (.int .i64 a0)) (fun _ hk => hk.2) (.slice Ao17 y338.length co17)) (fun _ hk => hk.2) (.slice Ao16 y341.length co16)) (fun _ hk => ⟨hk.1.1, ⟨hk.1.2.1, ⟨hk.1.2.2.1, hk.1.2.2.2.1⟩⟩⟩), by (with_reducible repeat (first | apply Kd.N_alloc | apply Kd.N_drewN | apply Kd.N_drew)); exact Kd.N_mono (Kd.N_far (p := ⟨gb329, 6, none⟩) (Kd.N_far (p := ⟨gb329, 5, none⟩) (Kd.N_far (p := ⟨gb329, 4, none⟩) (Kd.N_far (p := ⟨gb329, 3, none⟩) (Kd.N_far (p := ⟨gb329, 2, none⟩) (Kd.N_far (p := ⟨gb329, 1, none⟩) (Kd.N_far (p := ⟨gb329, 0, none⟩) (Kd.N_mono HO340.out (fun k_ hk => (⟨hk, hk.2.2.2.2⟩ : _ ∧ k_ ≠ gb329))) (fun _ hk => hk.2) (.int .i64 t330)) (fun _ hk => hk.2) (.int .i64 t331)) (fun _ hk => hk.2) (.slice Ao19 t332.length co19)) (fun _ hk => hk.2) (.slice Ao18 t335.length co18)) (fun _ hk => hk.2) (.int .i64 a0)) (fun _ hk => hk.2) (.slice Ao17 y338.length co17)) (fun _ hk => hk.2) (.slice Ao16 y341.length co16)) (fun _ hk => ⟨hk.1.1, ⟨hk.1.2.1, ⟨hk.1.2.2.1, hk.1.2.2.2.1⟩⟩⟩), by (with_reducible repeat (first | apply Kd.N_alloc | apply Kd.N_drewN | apply Kd.N_drew)); exact Kd.N_mono (Kd.N_far (p := ⟨gb329, 6, none⟩) (Kd.N_far (p := ⟨gb329, 5, none⟩) (Kd.N_far (p := ⟨gb329, 4, none⟩) (Kd.N_far (p := ⟨gb329, 3, none⟩) (Kd.N_far (p := ⟨gb329, 2, none⟩) (Kd.N_far (p := ⟨gb329, 1, none⟩) (Kd.N_far (p := ⟨gb329, 0, none⟩) (Kd.N_mono HO343.out (fun k_ hk => (⟨hk, hk.2.2.2.2⟩ : _ ∧ k_ ≠ gb329))) (fun _ hk => hk.2) (.int .i64 t330)) (fun _ hk => hk.2) (.int .i64 t331)) (fun _ hk => hk.2) (.slice Ao19 t332.length co19)) (fun _ hk => hk.2) (.slice Ao18 t335.length co18)) (fun _ hk => hk.2) (.int .i64 a0)) (fun _ hk => hk.2) (.slice Ao17 y338.length co17)) (fun _ hk => hk.2) (.slice Ao16 y341.length co16)) (fun _ hk => ⟨hk.1.1, ⟨hk.1.2.1, ⟨hk.1.2.2.1, hk.1.2.2.2.1⟩⟩⟩), by repeat (first | (with_reducible first | exact HB.out | apply below_alloc | apply pw_below_drewN | apply below_drew1 | refine below_set ?_ GE329.out) | exact HB.out)⟩
 ·
  rw [if_neg c3] at H
  exact absurd H (by simp)

end Go.Proofs.Ytnnkmkejcmdjpaa.P
