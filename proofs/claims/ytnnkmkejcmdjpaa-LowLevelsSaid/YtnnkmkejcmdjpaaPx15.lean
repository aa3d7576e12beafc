/- Printed by a program of this workplace (a turned copy of the kit's optional print), out of the translation; not trusted: Lean checks it. -/
import Derived.Test.YtnnkmkejcmdjpaaPx0
import Derived.Test.YtnnkmkejcmdjpaaPx10
namespace Go.Proofs.Ytnnkmkejcmdjpaa.P
open Go.RowKit Go.Proofs.YtnnkmkejcmdjpaaW.PrintWords Go.Proofs.YtnnkmkejcmdjpaaW.PrintLast Go.Proofs.YtnnkmkejcmdjpaaW.PrintMore
attribute [local go_sem] max2_int min2_int max_two min_two max_three min_three max_four min_four   -- for this text's walks alone
set_option linter.unusedVariables false
set_option linter.unusedSimpArgs false

/-! ### low_Levels: function 14 -/
mutual
def low_Levels.l0 : Nat → List (List Int) → List (List Int) → Int → Int → Int → Int → List (List Int) → List (S46) → Int → Int → Option (Bool)
  | 0, _, _, _, _, _, _, _, _, _, _ => none
  | k + 1, x1, x2, x17, x18, x277000, x277001, x277002, x277003, x278000, x278001 => if x18 < x17 then (low_Levels.l1 k x1 x2 x18 x17 x18 (x277003.length : Int) 0 x277000 x277001 x277002 x277003 x278000 x278001) else (some true)
def low_Levels.l1 : Nat → List (List Int) → List (List Int) → Int → Int → Int → Int → Int → Int → Int → List (List Int) → List (S46) → Int → Int → Option (Bool)
  | 0, _, _, _, _, _, _, _, _, _, _, _, _, _ => none
  | k + 1, x1, x2, x9, x17, x18, x23, x24, x277000, x277001, x277002, x277003, x278000, x278001 => if x24 < x23 then (if 0 ≤ x9 then (if x9 < (x1.length : Int) then (if x9 < (x2.length : Int) then (if x24 < (mn ((rd_L3 x1 x9).length : Int) ((rd_L3 x2 x9).length : Int)) then ((low_high.f x277000 x277001 x277002 x277003 x24 x278000 x278001).bind fun t280 => (if t280 = true then (if 0 ≤ x24 then (if x24 < ((rd_L3 x1 x9).length : Int) then (if x24 < ((rd_L3 x2 x9).length : Int) then (if (rd (rd_L3 x1 x9) x24) = (rd (rd_L3 x2 x9) x24) then (low_Levels.l1 k x1 x2 x9 x17 x18 x23 (wrap64 (x24 + 1)) x277000 x277001 x277002 x277003 x278000 x278001) else (some false)) else (none)) else (none)) else (none)) else (low_Levels.l1 k x1 x2 x9 x17 x18 x23 (wrap64 (x24 + 1)) x277000 x277001 x277002 x277003 x278000 x278001))) else (low_Levels.l1 k x1 x2 x9 x17 x18 x23 (wrap64 (x24 + 1)) x277000 x277001 x277002 x277003 x278000 x278001)) else (none)) else (none)) else (none)) else (low_Levels.l0 k x1 x2 x17 (wrap64 (x18 + 1)) x277000 x277001 x277002 x277003 x278000 x278001)
end
def low_Levels.f (k : Nat) (a0_0 : Int) (a0_1 : Int) (l0_2 : List (List Int)) (l0_3 : List (S46)) (l1 : List (List Int)) (l2 : List (List Int)) (a3_0 : Int) (a3_1 : Int) : Option (Bool) := if (l1.length : Int) = (l2.length : Int) then (low_Levels.l0 k l1 l2 (l1.length : Int) 0 a0_0 a0_1 l0_2 l0_3 a3_0 a3_1) else (some false)
theorem low_Levels.mono_l : ∀ k, (∀ y0 y1 y2 y3 y4 y5 y6 y7 y8 y9, LeO (low_Levels.l0 k y0 y1 y2 y3 y4 y5 y6 y7 y8 y9) (low_Levels.l0 (k + 1) y0 y1 y2 y3 y4 y5 y6 y7 y8 y9)) ∧ (∀ y0 y1 y2 y3 y4 y5 y6 y7 y8 y9 y10 y11 y12, LeO (low_Levels.l1 k y0 y1 y2 y3 y4 y5 y6 y7 y8 y9 y10 y11 y12) (low_Levels.l1 (k + 1) y0 y1 y2 y3 y4 y5 y6 y7 y8 y9 y10 y11 y12))
  | 0 => ⟨fun _ _ _ _ _ _ _ _ _ _ r h => by simp [low_Levels.l0] at h, fun _ _ _ _ _ _ _ _ _ _ _ _ _ r h => by simp [low_Levels.l1] at h⟩
  | k + 1 => by
    obtain ⟨ih0, ih1⟩ := low_Levels.mono_l k
    refine ⟨?_, ?_⟩
    · intro y0 y1 y2 y3 y4 y5 y6 y7 y8 y9
      unfold low_Levels.l0
      repeat' first
      | (with_reducible exact ih0 _ _ _ _ _ _ _ _ _ _)
      | (with_reducible exact ih1 _ _ _ _ _ _ _ _ _ _ _ _ _)
      | (with_reducible exact LeO.refl _)
      | (with_reducible exact LeO.none _)
      | (with_reducible refine LeO.ite ?_ ?_)
      | (with_reducible refine LeO.bind ?_ (fun _ => ?_))
      | exact ih0 _ _ _ _ _ _ _ _ _ _
      | exact ih1 _ _ _ _ _ _ _ _ _ _ _ _ _
      | exact LeO.none _
      | refine LeO.ite ?_ ?_
      | refine LeO.bind ?_ (fun _ => ?_)
    · intro y0 y1 y2 y3 y4 y5 y6 y7 y8 y9 y10 y11 y12
      unfold low_Levels.l1
      repeat' first
      | (with_reducible exact ih0 _ _ _ _ _ _ _ _ _ _)
      | (with_reducible exact ih1 _ _ _ _ _ _ _ _ _ _ _ _ _)
      | (with_reducible exact LeO.refl _)
      | (with_reducible exact LeO.none _)
      | (with_reducible refine LeO.ite ?_ ?_)
      | (with_reducible refine LeO.bind ?_ (fun _ => ?_))
      | exact ih0 _ _ _ _ _ _ _ _ _ _
      | exact ih1 _ _ _ _ _ _ _ _ _ _ _ _ _
      | exact LeO.none _
      | refine LeO.ite ?_ ?_
      | refine LeO.bind ?_ (fun _ => ?_)
theorem low_Levels.mono : ∀ a0 a1 a2 a3 a4 a5 a6 a7 k, LeO (low_Levels.f k a0 a1 a2 a3 a4 a5 a6 a7) (low_Levels.f (k + 1) a0 a1 a2 a3 a4 a5 a6 a7) := by
 intro a0 a1 a2 a3 a4 a5 a6 a7 k
 obtain ⟨ih0, ih1⟩ := low_Levels.mono_l k
 unfold low_Levels.f
 repeat' first
   | (with_reducible exact ih0 _ _ _ _ _ _ _ _ _ _)
   | (with_reducible exact ih1 _ _ _ _ _ _ _ _ _ _ _ _ _)
   | (with_reducible exact LeO.refl _)
   | (with_reducible exact LeO.none _)
   | (with_reducible refine LeO.ite ?_ ?_)
   | (with_reducible refine LeO.bind ?_ (fun _ => ?_))
   | exact ih0 _ _ _ _ _ _ _ _ _ _
   | exact ih1 _ _ _ _ _ _ _ _ _ _ _ _ _
   | exact LeO.none _
   | refine LeO.ite ?_ ?_
   | refine LeO.bind ?_ (fun _ => ?_)
def low_Levels.T9 : Bool × List (List Nat × List Nat) := (true, [([], []), ([], []), ([], []), ([1, 2], [1, 2]), ([3], [3]), ([4], [4]), ([], []), ([], []), ([6, 7], [6, 7]), ([8], [8]), ([9], [9]), ([5, 10], [5, 10]), ([0, 11], [0, 11]), ([12], [12]), ([13], [13]), ([13], [13]), ([13], [13]), ([14, 15, 16, 13, 13], [13, 14, 15, 16]), ([13, 17], [13, 17]), ([18, 17], [18]), ([19], [19]), ([19], [19]), ([20, 21, 19], [19, 20, 21]), ([22, 19], [19, 22]), ([19], [19]), ([23, 24, 19], [19, 23, 24]), ([25, 19], [19, 25]), ([19], [19]), ([19], [19]), ([27, 28, 19], [19, 27, 28]), ([29, 19], [19, 29]), ([19], [19]), ([30, 31, 19], [19, 30, 31]), ([32, 19], [19, 32]), ([26, 33, 19], [19, 26, 33]), ([19, 34], [19, 34])])
def low_Levels.B9 : List Nat := [0, 0, 0, 6, 14, 30, 0, 0, 192, 448, 960, 2046, 4095, 8191, 16383, 16383, 16383, 131071, 262143, 524287, 1048575, 1048575, 4194303, 8388607, 1048575, 33554431, 67108863, 1048575, 1048575, 403701759, 940572671, 1048575, 4161798143, 8456765439, 17179869183, 34359738367]
theorem low_Levels.tab9 : rtab .any (opsOf Try.f14 9) = low_Levels.T9 := by kernel_rfl
theorem low_Levels.bits9 : waitsOk low_Levels.T9.2 low_Levels.B9 = true := by kernel_rfl
set_option maxHeartbeats 8000000 in
set_option maxRecDepth 100000 in
theorem low_Levels.calls (k : Nat) (a0_0 : Int) (a0_1 : Int) (A0_2 : Option Addr) (c0_2 : Nat) (l0_2 : List (List Int)) (A0_3 : Option Addr) (c0_3 : Nat) (l0_3 : List (S46)) (A1 : Option Addr) (c1 : Nat) (l1 : List (List Int)) (A2 : Option Addr) (c2 : Nat) (l2 : List (List Int)) (a3_0 : Int) (a3_1 : Int) (r : Bool) (w : World) (hr0_2 : Kd.C (Kd.slice 3 (Kd.int .i64)) w A0_2 l0_2.length l0_2) (hc0_2 : l0_2.length ≤ c0_2) (hr0_3 : Kd.C k46 w A0_3 l0_3.length l0_3) (hc0_3 : l0_3.length ≤ c0_3) (hr1 : Kd.C (Kd.slice 3 (Kd.int .i64)) w A1 l1.length l1) (hc1 : l1.length ≤ c1) (hr2 : Kd.C (Kd.slice 3 (Kd.int .i64)) w A2 l2.length l2) (hc2 : l2.length ≤ c2) (h : low_Levels.f k a0_0 a0_1 l0_2 l0_3 l1 l2 a3_0 a3_1 = some r) :
    Calls Try.prog 14 #[.agg #[.int .i64 a0_0, .int .i64 a0_1, .slice A0_2 l0_2.length c0_2, .slice A0_3 l0_3.length c0_3], .slice A1 l1.length c1, .slice A2 l2.length c2, .agg #[.int .i64 a3_0, .int .u64 a3_1]] w fun e w' => e = .returned (.bool r) ∧ Below w.heap.size w w' := by
 have hu25 := Try.underlying25; have hu32 := Try.underlying32
 have HR0_2 := Goto.m0 hr0_2
 have HC0_2 := Goto.m0 hc0_2
 clear hr0_2 hc0_2
 have HR0_3 := Goto.m0 hr0_3
 have HC0_3 := Goto.m0 hc0_3
 clear hr0_3 hc0_3
 have HR1 := Goto.m0 hr1
 have HC1 := Goto.m0 hc1
 clear hr1 hc1
 have HR2 := Goto.m0 hr2
 have HC2 := Goto.m0 hc2
 clear hr2 hc2
 have HB := Goto.m0 (Below.refl w.heap.size w)
 have H : (if (l1.length : Int) = (l2.length : Int) then (low_Levels.l0 k l1 l2 (l1.length : Int) 0 a0_0 a0_1 l0_2 l0_3 a3_0 a3_1) else (some false)) = some r := h
 clear h
 by_cases c5 : (l1.length : Int) = (l2.length : Int)
 ·
  rw [if_pos c5] at H
  have c5b0 : ((l1.length : Int) == (l2.length : Int)) = true := beq_iff_eq.mpr c5
  have c5b1 : ((l1.length : Int) != (l2.length : Int)) = false := bne_eq_false_iff_eq.mpr c5
  have c5b2 : (l1.length == l2.length) = true := by first | simpa using c5 | (simp at c5 ⊢; omega)
  clear c5
  have H' := Goto.m0 H
  clear H
  go_enter Try.func14, Try.ntmps14
  go_wp2_with (first | ((with_reducible refine gate_dst (N := 4) rfl ?_); refine box_event ?hg (N := 4) ?hd (cs := #[.int .i64 a0_0, .int .i64 a0_1, .slice A0_2 l0_2.length c0_2, .slice A0_3 l0_3.length c0_3]) (t := 25) ?hr ?_; (case hd => rfl); (case hg => rfl); (case hr => first | (go_simp; done) | (go_simp; rfl)); intro gb276 hg w6 hbox hb; have BK276 := Goto.m0 (hbox); have GW276 := Goto.gs HB hg; have GE276 := Goto.gs HB hg; replace HB := Goto.hs HB hb; clear hb hbox hg) | ((with_reducible refine gate_dst (N := 7) rfl ?_); refine box_event ?hg (N := 7) ?hd (cs := #[.int .i64 a3_0, .int .u64 a3_1]) (t := 32) ?hr ?_; (case hd => rfl); (case hg => rfl); (case hr => first | (go_simp; done) | (go_simp; rfl)); intro gb277 hg w7 hbox hb; have BK277 := Goto.m0 (hbox); have GW277 := Goto.gs HB hg; have GE277 := Goto.gs HB hg; have NB276_277 := Goto.nl BK276 hg; have NB277_276 := Goto.nr BK276 hg; replace BK276 := Goto.bb BK276 hb; replace HB := Goto.hs HB hb; clear hb hbox hg))
  go_loopg [18] k (fun kq v18 w' => ∃ (x18_1 : Int), v18 = .int .i64 x18_1 ∧ Aside0 (low_Levels.l0 kq l1 l2 (l1.length : Int) x18_1 a0_0 a0_1 l0_2 l0_3 a3_0 a3_1 = some r) ∧ Aside0 (kq ≤ k) ∧ Aside0 (w'.heap[gb276]? = some (.cells #[.int .i64 a0_0, .int .i64 a0_1, (.slice A0_2 l0_2.length c0_2), (.slice A0_3 l0_3.length c0_3)] 25 (0, 0))) ∧ Aside0 (w'.heap[gb277]? = some (.cells #[.int .i64 a3_0, .int .u64 a3_1] 32 (0, 0))) ∧ Aside0 (Below w.heap.size w w'))
  case atStart => exact ⟨(0), (by first | rfl | (simp; done) | (simp [*]; done)), H', ⟨Nat.le_refl _⟩, ⟨Goto.bx BK276⟩, ⟨Goto.bx BK277⟩, ⟨Goto.hx HB⟩⟩
  case round =>
   clear H'
   try clear c1; try clear c2; try clear p2; try clear c5; try clear c5b0; try clear c5b1; try clear c5b2
   obtain ⟨x18_1, rfl, HA, HK1, BK276, BK277, HB⟩ := hrel
   cases gk with
   | zero => exact absurd HA.out (by simp [low_Levels.l0])
   | succ k1 =>
    have H := HA.out; clear HA
    simp only [low_Levels.l0] at H
    by_cases c8 : x18_1 < (l1.length : Int)
    ·
     rw [if_pos c8] at H
     have c8b0 : decide (x18_1 < (l1.length : Int)) = true := decide_eq_true c8
     clear c8
     have H' := Goto.m0 H
     clear H; have hnb9 := NB276_277.out; have hnc9 := NB277_276.out; have hcz10_0 := Goto.bc0 BK276; have hcz10_1 := Goto.bc1 BK276; have hcz10_2 := Goto.bc2 BK276; have hcz10_3 := Goto.bc3 BK276; have hfz10_0 := Goto.bf BK276 0; have hfz10_1 := Goto.bf BK276 1; have hfz10_2 := Goto.bf BK276 2; have hfz10_3 := Goto.bf BK276 3
     go_wp2
     go_loopg [24] k1 (fun kq v24 w' => ∃ (x24_2 : Int), v24 = .int .i64 x24_2 ∧ Aside0 (low_Levels.l1 kq l1 l2 x18_1 (l1.length : Int) x18_1 (l0_3.length : Int) x24_2 a0_0 a0_1 l0_2 l0_3 a3_0 a3_1 = some r) ∧ Aside0 (kq ≤ k1) ∧ Aside0 (w'.heap[gb276]? = some (.cells #[.int .i64 a0_0, .int .i64 a0_1, (.slice A0_2 l0_2.length c0_2), (.slice A0_3 l0_3.length c0_3)] 25 (0, 0))) ∧ Aside0 (w'.heap[gb277]? = some (.cells #[.int .i64 a3_0, .int .u64 a3_1] 32 (0, 0))) ∧ Aside0 (Below w.heap.size w w'))
     case atStart => exact ⟨(0), (by first | rfl | (simp; done) | (simp [*]; done)), H', ⟨Nat.le_refl _⟩, ⟨Goto.bx BK276⟩, ⟨Goto.bx BK277⟩, ⟨Goto.hx HB⟩⟩
     case round =>
      clear H'
      try clear c1; try clear c2; try clear p2; try clear c5; try clear c5b0; try clear c5b1; try clear c5b2; try clear c8; try clear c8b0; try clear c9; try clear hcz10_0; try clear hcz10_1; try clear hcz10_2; try clear hcz10_3; try clear hfz10_0; try clear hfz10_1; try clear hfz10_2; try clear hfz10_3; try clear p2
      obtain ⟨x24_2, rfl, HA, HK2, BK276, BK277, HB⟩ := hrel
      cases gk with
      | zero => exact absurd HA.out (by simp [low_Levels.l1])
      | succ k2 =>
       have H := HA.out; clear HA
       simp only [low_Levels.l1] at H
       by_cases c11 : x24_2 < (l0_3.length : Int)
       ·
        rw [if_pos c11] at H
        have c11b0 : decide (x24_2 < (l0_3.length : Int)) = true := decide_eq_true c11
        clear c11
        by_cases c12 : 0 ≤ x18_1
        ·
         rw [if_pos c12] at H
         have c12b0 : decide (0 ≤ x18_1) = true := decide_eq_true c12
         clear c12
         by_cases c13 : x18_1 < (l1.length : Int)
         ·
          rw [if_pos c13] at H
          have c13b0 : decide (x18_1 < (l1.length : Int)) = true := decide_eq_true c13
          clear c13
          by_cases c14 : x18_1 < (l2.length : Int)
          ·
           rw [if_pos c14] at H
           have c14b0 : decide (x18_1 < (l2.length : Int)) = true := decide_eq_true c14
           clear c14
           obtain ⟨ji15, hji15⟩ : ∃ j_ : Int, (mn ((rd_L3 l1 x18_1).length : Int) ((rd_L3 l2 x18_1).length : Int)) = j_ := ⟨_, rfl⟩
           replace H : (if x24_2 < (ji15) then ((low_high.f a0_0 a0_1 l0_2 l0_3 x24_2 a3_0 a3_1).bind fun t280 => (if t280 = true then (if 0 ≤ x24_2 then (if x24_2 < ((rd_L3 l1 x18_1).length : Int) then (if x24_2 < ((rd_L3 l2 x18_1).length : Int) then (if (rd (rd_L3 l1 x18_1) x24_2) = (rd (rd_L3 l2 x18_1) x24_2) then (low_Levels.l1 k2 l1 l2 x18_1 (l1.length : Int) x18_1 (l0_3.length : Int) (wrap64 (x24_2 + 1)) a0_0 a0_1 l0_2 l0_3 a3_0 a3_1) else (some false)) else (none)) else (none)) else (none)) else (low_Levels.l1 k2 l1 l2 x18_1 (l1.length : Int) x18_1 (l0_3.length : Int) (wrap64 (x24_2 + 1)) a0_0 a0_1 l0_2 l0_3 a3_0 a3_1))) else (low_Levels.l1 k2 l1 l2 x18_1 (l1.length : Int) x18_1 (l0_3.length : Int) (wrap64 (x24_2 + 1)) a0_0 a0_1 l0_2 l0_3 a3_0 a3_1)) = some r := by first | (rw [hji15] at H; exact H) | (simp only [hji15] at H ⊢; exact H)
           have hji15_ : (if ((rd_L3 l2 x18_1).length : Int) < ((rd_L3 l1 x18_1).length : Int) then ((rd_L3 l2 x18_1).length : Int) else ((rd_L3 l1 x18_1).length : Int)) = ji15 := hji15
           (try (have hji15n := hji15_; simp only [Int.ofNat_lt] at hji15n))
           by_cases c16 : x24_2 < (ji15)
           ·
            rw [if_pos c16] at H
            have c16b0 : decide (x24_2 < (ji15)) = true := decide_eq_true c16
            clear c16
            replace H := Option.bind_eq_some_iff.mp H
            obtain ⟨t280, A170, H⟩ := H
            have A17 := Goto.m0 A170
            clear A170
            by_cases c18 : t280 = true
            ·
             subst c18
             rw [if_pos rfl] at H
             by_cases c19 : 0 ≤ x24_2
             ·
              rw [if_pos c19] at H
              have c19b0 : decide (0 ≤ x24_2) = true := decide_eq_true c19
              clear c19
              by_cases c20 : x24_2 < ((rd_L3 l1 x18_1).length : Int)
              ·
               rw [if_pos c20] at H
               have c20b0 : decide (x24_2 < ((rd_L3 l1 x18_1).length : Int)) = true := decide_eq_true c20
               clear c20
               by_cases c21 : x24_2 < ((rd_L3 l2 x18_1).length : Int)
               ·
                rw [if_pos c21] at H
                have c21b0 : decide (x24_2 < ((rd_L3 l2 x18_1).length : Int)) = true := decide_eq_true c21
                clear c21
                by_cases c22 : (rd (rd_L3 l1 x18_1) x24_2) = (rd (rd_L3 l2 x18_1) x24_2)
                ·
                 rw [if_pos c22] at H
                 have c22b0 : ((rd (rd_L3 l1 x18_1) x24_2) == (rd (rd_L3 l2 x18_1) x24_2)) = true := beq_iff_eq.mpr c22
                 have c22b1 : ((rd (rd_L3 l1 x18_1) x24_2) != (rd (rd_L3 l2 x18_1) x24_2)) = false := bne_eq_false_iff_eq.mpr c22
                 clear c22
                 have H' := Goto.m0 H
                 clear H
                 try go_wp2
                 replace BK276 := Goto.m0 (blk_drew BK276.out); replace BK277 := Goto.m0 (blk_drew BK277.out); replace HB := Goto.m0 (below_drew1 HB.out)
                 have p278 : 0 ≤ (x18_1 : Int) := Goto.od
                 have q278 : x18_1 < (l1.length : Int) := Goto.od
                 obtain ⟨ad278, A278_0, c278_0, e278, hx278_0, hl278_0, hi278_0⟩ := at_L3 HR1.out x18_1 p278 q278
                 have hw278_0 := hx278_0
                 cases e278
                 replace hx278_0 := Goto.kc HB.out hx278_0
                 have HR278_0 := Goto.m0 hi278_0
                 have HC278_0 := Goto.m0 hl278_0
                 clear hi278_0 hl278_0; replace p278 := eq_true p278; replace q278 := eq_true q278
                 have p279 : 0 ≤ (x18_1 : Int) := Goto.od
                 have q279 : x18_1 < (l2.length : Int) := Goto.od
                 obtain ⟨ad279, A279_0, c279_0, e279, hx279_0, hl279_0, hi279_0⟩ := at_L3 HR2.out x18_1 p279 q279
                 have hw279_0 := hx279_0
                 cases e279
                 replace hx279_0 := Goto.kc HB.out hx279_0
                 have HR279_0 := Goto.m0 hi279_0
                 have HC279_0 := Goto.m0 hl279_0
                 clear hi279_0 hl279_0; replace p279 := eq_true p279; replace q279 := eq_true q279
                 have p281 : 0 ≤ (x18_1 : Int) := Goto.od
                 have q281 : x18_1 < (l1.length : Int) := Goto.od
                 obtain ⟨ad281, A281_0, c281_0, e281, hx281_0, hl281_0, hi281_0⟩ := at_L3 HR1.out x18_1 p281 q281
                 have hw281_0 := hx281_0
                 obtain rfl : ad278 = ad281 := (by injection e281)
                 replace hx281_0 := Goto.kc HB.out hx281_0
                 have HR281_0 := Goto.m0 hi281_0
                 have HC281_0 := Goto.m0 hl281_0
                 clear hi281_0 hl281_0; replace p281 := eq_true p281; replace q281 := eq_true q281
                 have ea_ := Option.some.inj (hw278_0.symm.trans hw281_0)
                 injection ea_ with ea_ en_ ec_
                 subst ea_
                 subst ec_
                 clear en_
                 have p282 : 0 ≤ (x24_2 : Int) := Goto.od
                 have q282 : x24_2 < ((rd_L3 l1 x18_1).length : Int) := Goto.od
                 obtain ⟨ad282, e282, hx282_0⟩ := Kd.at_int HR281_0.out x24_2 p282 q282
                 have hw282_0 := hx282_0
                 cases e282
                 replace hx282_0 := Goto.kc HB.out hx282_0
                 replace p282 := eq_true p282; replace q282 := eq_true q282
                 have p283 : 0 ≤ (x18_1 : Int) := Goto.od
                 have q283 : x18_1 < (l2.length : Int) := Goto.od
                 obtain ⟨ad283, A283_0, c283_0, e283, hx283_0, hl283_0, hi283_0⟩ := at_L3 HR2.out x18_1 p283 q283
                 have hw283_0 := hx283_0
                 obtain rfl : ad279 = ad283 := (by injection e283)
                 replace hx283_0 := Goto.kc HB.out hx283_0
                 have HR283_0 := Goto.m0 hi283_0
                 have HC283_0 := Goto.m0 hl283_0
                 clear hi283_0 hl283_0; replace p283 := eq_true p283; replace q283 := eq_true q283
                 have ea_ := Option.some.inj (hw279_0.symm.trans hw283_0)
                 injection ea_ with ea_ en_ ec_
                 subst ea_
                 subst ec_
                 clear en_
                 have p284 : 0 ≤ (x24_2 : Int) := Goto.od
                 have q284 : x24_2 < ((rd_L3 l2 x18_1).length : Int) := Goto.od
                 obtain ⟨ad284, e284, hx284_0⟩ := Kd.at_int HR283_0.out x24_2 p284 q284
                 have hw284_0 := hx284_0
                 cases e284
                 replace hx284_0 := Goto.kc HB.out hx284_0
                 replace p284 := eq_true p284; replace q284 := eq_true q284
                 refine start_ (n := 36) (S := fun w' => w'.cell? ⟨gb276, 0, none⟩ = some (.int .i64 a0_0) ∧ w'.cell? ⟨gb276, 1, none⟩ = some (.int .i64 a0_1) ∧ w'.cell? ⟨gb276, 2, none⟩ = some (.slice A0_2 l0_2.length c0_2) ∧ w'.cell? ⟨gb276, 3, none⟩ = some (.slice A0_3 l0_3.length c0_3) ∧ w'.cell? ⟨gb277, 0, none⟩ = some (.int .i64 a3_0) ∧ w'.cell? ⟨gb277, 1, none⟩ = some (.int .u64 a3_1) ∧ w'.cell? (ad278.add (x18_1).toNat) = some (.slice (some ad282) (rd_L3 l1 x18_1).length c278_0) ∧ w'.cell? (ad279.add (x18_1).toNat) = some (.slice (some ad284) (rd_L3 l2 x18_1).length c279_0) ∧ w'.cell? (ad278.add (x18_1).toNat) = some (.slice (some ad282) (rd_L3 l1 x18_1).length c278_0) ∧ w'.cell? (ad282.add (x24_2).toNat) = some (.int .i64 (rd (rd_L3 l1 x18_1) x24_2)) ∧ w'.cell? (ad279.add (x18_1).toNat) = some (.slice (some ad284) (rd_L3 l2 x18_1).length c279_0) ∧ w'.cell? (ad284.add (x24_2).toNat) = some (.int .i64 (rd (rd_L3 l2 x18_1) x24_2))) (ds := []) (.replicate 36 false) (by kernel_rfl) rfl rfl ⟨(blk_cell BK276.out 0).trans rfl, (blk_cell BK276.out 1).trans rfl, (blk_cell BK276.out 2).trans rfl, (blk_cell BK276.out 3).trans rfl, (blk_cell BK277.out 0).trans rfl, (blk_cell BK277.out 1).trans rfl, (Goto.kc HB.out hw278_0), (Goto.kc HB.out hw279_0), (Goto.kc HB.out hw281_0), (Goto.kc HB.out hw282_0), (Goto.kc HB.out hw283_0), (Goto.kc HB.out hw284_0)⟩ (fun hHeld => ?_); refine with_tabW low_Levels.tab9 low_Levels.bits9 (fun HT_ HW_ => ?_)
                 generalize wr.drew = w23 at BK276 BK277 HB HR278_0 HR279_0 HR281_0 HR283_0 hx278_0 hx279_0 hx281_0 hx282_0 hx283_0 hx284_0 hHeld ⊢
                 refine Goto.pu 0 27 36 1 ?_
                 refine Goto.pu 1 28 36 3 ?_
                 refine Goto.pu 2 29 36 7 ?_
                 refine Goto.pu 3 30 36 15 ?_
                 refine Goto.pu 6 33 36 79 ?_
                 refine Goto.pu 7 34 36 207 ?_
                 refine Goto.pu 8 35 36 463 ?_
                 refine take_ (i := 4) (N := some 31) (v := ?_) (a' := ?_) (Goto.bs 36 479) rfl rfl (take_ofW HT_.out HW_.out (by kernel_rfl)) (fun _ _ _ h => h) (Or.inl ⟨by rfl, ?_⟩) hHeld ?_ ?_
                 rotate_left
                 ·
                  rintro w' ⟨s0, s1, s2, s3, s4, s5, s6, s7, s8, s9, s10, s11⟩
                  go_simp
                  with_reducible rfl
                 rotate_left
                 ·
                  exact Goto.ap
                 refine Goto.pu 5 32 36 511 ?_
                 refine take_ (i := 9) (N := some 36) (v := ?_) (a' := ?_) (Goto.bs 36 1023) rfl rfl (take_ofW HT_.out HW_.out (by kernel_rfl)) (fun _ _ _ h => h) (Or.inl ⟨by rfl, ?_⟩) hHeld ?_ ?_
                 rotate_left
                 ·
                  rintro w' ⟨s0, s1, s2, s3, s4, s5, s6, s7, s8, s9, s10, s11⟩
                  go_simp
                  with_reducible rfl
                 rotate_left
                 ·
                  exact Goto.ap
                 refine Goto.pu 10 37 36 2047 ?_
                 refine Goto.pu 11 38 36 4095 ?_
                 refine Goto.pu 12 39 36 8191 ?_
                 refine Goto.pu 13 40 36 16383 ?_
                 refine Goto.pu 15 42 36 49151 ?_
                 refine take_ (i := 14) (N := some 41) (v := ?_) (a' := ?_) (Goto.bs 36 65535) rfl rfl (take_ofW HT_.out HW_.out (by kernel_rfl)) (fun _ _ _ h => h) (Or.inl ⟨by rfl, ?_⟩) hHeld ?_ ?_
                 rotate_left
                 ·
                  rintro w' ⟨s0, s1, s2, s3, s4, s5, s6, s7, s8, s9, s10, s11⟩
                  go_simp
                  with_reducible rfl
                 rotate_left
                 ·
                  exact Goto.ap
                 refine take_ (i := 16) (N := some 43) (v := ?_) (a' := ?_) (Goto.bs 36 131071) rfl rfl (take_ofW HT_.out HW_.out (by kernel_rfl)) (fun _ _ _ h => h) (Or.inl ⟨by rfl, ?_⟩) hHeld ?_ ?_
                 rotate_left
                 ·
                  rintro w' ⟨s0, s1, s2, s3, s4, s5, s6, s7, s8, s9, s10, s11⟩
                  go_simp
                  with_reducible rfl
                 rotate_left
                 ·
                  exact Goto.ap
                 refine one_ (i := 17) (N := some 44) (Goto.bs 36 262143) rfl rfl (one_of HT_.out (by kernel_rfl)) (by decide) (fun K hK => ?_)
                 refine goes_ Try.func30 (by kernel_rfl) rfl #[.agg #[.int .i64 a0_0, .int .i64 a0_1, .slice A0_2 l0_2.length c0_2, .slice A0_3 l0_3.length c0_3], .int .i64 x24_2, .agg #[.int .i64 a3_0, .int .u64 a3_1]] (by rfl) rfl rfl (by (try simp only [List.map_toArray, List.map_cons, List.map_nil]); first | done | rfl | (simp only [List.length_drop, List.length_take]; rfl)) ?_
                 with_reducible refine (low_high.calls a0_0 a0_1 _ _ l0_2 _ _ l0_3 x24_2 a3_0 a3_1 true _ ?side1 ?side2 ?side3 ?side4 A17.out).mono ?_
                 (case side1 => repeat (first | exact (Kd.C_below HR0_2.out HB.out) | (with_reducible refine Kd.C_alloc ?_ _) | (with_reducible refine Kd.C_drewN ?_ _) | (with_reducible refine Kd.C_drew ?_)))
                 (case side2 => exact HC0_2.out)
                 (case side3 => repeat (first | exact (Kd.C_below HR0_3.out HB.out) | (with_reducible refine Kd.C_alloc ?_ _) | (with_reducible refine Kd.C_drewN ?_ _) | (with_reducible refine Kd.C_drew ?_)))
                 (case side4 => exact HC0_3.out)
                 rintro e w24 ⟨rfl, hb⟩
                 refine ⟨_, rfl, ?_⟩
                 replace BK276 := Goto.bb BK276 hb; replace BK277 := Goto.bb BK277 hb; replace HB := Goto.hs HB hb
                 (try clear hb)
                 (try clear hb2)
                 (try clear hk)
                 (try clear hi)
                 refine hK.out _ _ ⟨(blk_cell BK276.out 0).trans rfl, (blk_cell BK276.out 1).trans rfl, (blk_cell BK276.out 2).trans rfl, (blk_cell BK276.out 3).trans rfl, (blk_cell BK277.out 0).trans rfl, (blk_cell BK277.out 1).trans rfl, (Goto.kc HB.out hw278_0), (Goto.kc HB.out hw279_0), (Goto.kc HB.out hw281_0), (Goto.kc HB.out hw282_0), (Goto.kc HB.out hw283_0), (Goto.kc HB.out hw284_0)⟩ (fun hHeld => ?_)
                 clear hK K
                 refine norm_ (a' := ?_) ?_ ?_
                 rotate_left
                 ·
                  show Act.put _ (some 44) _ = _
                  exact Goto.ap
                 refine Goto.pu 18 45 36 524287 ?_
                 refine Goto.pu 19 46 36 1048575 ?_
                 refine Goto.pu 20 47 36 2097151 ?_
                 refine Goto.pu 21 48 36 4194303 ?_
                 refine Goto.pu 22 49 36 8388607 ?_
                 refine Goto.pu 24 51 36 25165823 ?_
                 refine Goto.pu 27 54 36 159383551 ?_
                 refine Goto.pu 28 55 36 427819007 ?_
                 refine Goto.pu 29 56 36 964689919 ?_
                 refine Goto.pu 31 58 36 3112173567 ?_
                 refine take_ (i := 23) (N := some 50) (v := ?_) (a' := ?_) (Goto.bs 36 3120562175) rfl rfl (take_ofW HT_.out HW_.out (by kernel_rfl)) (fun _ _ _ h => h) (Or.inl ⟨by rfl, ?_⟩) hHeld ?_ ?_
                 rotate_left
                 ·
                  rintro w' ⟨s0, s1, s2, s3, s4, s5, s6, s7, s8, s9, s10, s11⟩
                  go_simp
                  with_reducible rfl
                 rotate_left
                 ·
                  exact Goto.ap
                 refine Goto.pu 25 52 36 3154116607 ?_
                 refine take_ (i := 26) (N := some 53) (v := ?_) (a' := ?_) (Goto.bs 36 3221225471) rfl rfl (take_ofW HT_.out HW_.out (by kernel_rfl)) (fun _ _ _ h => h) (Or.inl ⟨by rfl, ?_⟩) hHeld ?_ ?_
                 rotate_left
                 ·
                  rintro w' ⟨s0, s1, s2, s3, s4, s5, s6, s7, s8, s9, s10, s11⟩
                  go_simp
                  with_reducible rfl
                 rotate_left
                 ·
                  exact Goto.ap
                 refine take_ (i := 30) (N := some 57) (v := ?_) (a' := ?_) (Goto.bs 36 4294967295) rfl rfl (take_ofW HT_.out HW_.out (by kernel_rfl)) (fun _ _ _ h => h) (Or.inl ⟨by rfl, ?_⟩) hHeld ?_ ?_
                 rotate_left
                 ·
                  rintro w' ⟨s0, s1, s2, s3, s4, s5, s6, s7, s8, s9, s10, s11⟩
                  go_simp
                  with_reducible rfl
                 rotate_left
                 ·
                  exact Goto.ap
                 refine Goto.pu 32 59 36 8589934591 ?_
                 refine take_ (i := 33) (N := some 60) (v := ?_) (a' := ?_) (Goto.bs 36 17179869183) rfl rfl (take_ofW HT_.out HW_.out (by kernel_rfl)) (fun _ _ _ h => h) (Or.inl ⟨by rfl, ?_⟩) hHeld ?_ ?_
                 rotate_left
                 ·
                  rintro w' ⟨s0, s1, s2, s3, s4, s5, s6, s7, s8, s9, s10, s11⟩
                  go_simp
                  with_reducible rfl
                 rotate_left
                 ·
                  exact Goto.ap
                 refine Goto.pu 34 61 36 34359738367 ?_
                 refine Goto.pu 35 62 36 68719476735 ?_
                 refine done_ (done_of HT_.out (by kernel_rfl)) ?_
                 try go_wp2
                 go_roundg k2
                 case measure => have := HK1.out; have := HK2.out; omega
                 case rel => exact ⟨(wrap64 (x24_2 + 1)), (by first | rfl | (simp; done) | (simp [*]; done)), H', ⟨by have := HK1.out; have := HK2.out; omega⟩, ⟨Goto.bx BK276⟩, ⟨Goto.bx BK277⟩, ⟨Goto.hx HB⟩⟩
                ·
                 rw [if_neg c22] at H
                 have c22b0 : ((rd (rd_L3 l1 x18_1) x24_2) == (rd (rd_L3 l2 x18_1) x24_2)) = false := beq_eq_false_iff_ne.mpr c22
                 have c22b1 : ((rd (rd_L3 l1 x18_1) x24_2) != (rd (rd_L3 l2 x18_1) x24_2)) = true := bne_iff_ne.mpr c22
                 obtain rfl := Option.some.inj H
                 try go_wp2
                 replace BK276 := Goto.m0 (blk_drew BK276.out); replace BK277 := Goto.m0 (blk_drew BK277.out); replace HB := Goto.m0 (below_drew1 HB.out)
                 have p278 : 0 ≤ (x18_1 : Int) := Goto.od
                 have q278 : x18_1 < (l1.length : Int) := Goto.od
                 obtain ⟨ad278, A278_0, c278_0, e278, hx278_0, hl278_0, hi278_0⟩ := at_L3 HR1.out x18_1 p278 q278
                 have hw278_0 := hx278_0
                 cases e278
                 replace hx278_0 := Goto.kc HB.out hx278_0
                 have HR278_0 := Goto.m0 hi278_0
                 have HC278_0 := Goto.m0 hl278_0
                 clear hi278_0 hl278_0; replace p278 := eq_true p278; replace q278 := eq_true q278
                 have p279 : 0 ≤ (x18_1 : Int) := Goto.od
                 have q279 : x18_1 < (l2.length : Int) := Goto.od
                 obtain ⟨ad279, A279_0, c279_0, e279, hx279_0, hl279_0, hi279_0⟩ := at_L3 HR2.out x18_1 p279 q279
                 have hw279_0 := hx279_0
                 cases e279
                 replace hx279_0 := Goto.kc HB.out hx279_0
                 have HR279_0 := Goto.m0 hi279_0
                 have HC279_0 := Goto.m0 hl279_0
                 clear hi279_0 hl279_0; replace p279 := eq_true p279; replace q279 := eq_true q279
                 have p281 : 0 ≤ (x18_1 : Int) := Goto.od
                 have q281 : x18_1 < (l1.length : Int) := Goto.od
                 obtain ⟨ad281, A281_0, c281_0, e281, hx281_0, hl281_0, hi281_0⟩ := at_L3 HR1.out x18_1 p281 q281
                 have hw281_0 := hx281_0
                 obtain rfl : ad278 = ad281 := (by injection e281)
                 replace hx281_0 := Goto.kc HB.out hx281_0
                 have HR281_0 := Goto.m0 hi281_0
                 have HC281_0 := Goto.m0 hl281_0
                 clear hi281_0 hl281_0; replace p281 := eq_true p281; replace q281 := eq_true q281
                 have ea_ := Option.some.inj (hw278_0.symm.trans hw281_0)
                 injection ea_ with ea_ en_ ec_
                 subst ea_
                 subst ec_
                 clear en_
                 have p282 : 0 ≤ (x24_2 : Int) := Goto.od
                 have q282 : x24_2 < ((rd_L3 l1 x18_1).length : Int) := Goto.od
                 obtain ⟨ad282, e282, hx282_0⟩ := Kd.at_int HR281_0.out x24_2 p282 q282
                 have hw282_0 := hx282_0
                 cases e282
                 replace hx282_0 := Goto.kc HB.out hx282_0
                 replace p282 := eq_true p282; replace q282 := eq_true q282
                 have p283 : 0 ≤ (x18_1 : Int) := Goto.od
                 have q283 : x18_1 < (l2.length : Int) := Goto.od
                 obtain ⟨ad283, A283_0, c283_0, e283, hx283_0, hl283_0, hi283_0⟩ := at_L3 HR2.out x18_1 p283 q283
                 have hw283_0 := hx283_0
                 obtain rfl : ad279 = ad283 := (by injection e283)
                 replace hx283_0 := Goto.kc HB.out hx283_0
                 have HR283_0 := Goto.m0 hi283_0
                 have HC283_0 := Goto.m0 hl283_0
                 clear hi283_0 hl283_0; replace p283 := eq_true p283; replace q283 := eq_true q283
                 have ea_ := Option.some.inj (hw279_0.symm.trans hw283_0)
                 injection ea_ with ea_ en_ ec_
                 subst ea_
                 subst ec_
                 clear en_
                 have p284 : 0 ≤ (x24_2 : Int) := Goto.od
                 have q284 : x24_2 < ((rd_L3 l2 x18_1).length : Int) := Goto.od
                 obtain ⟨ad284, e284, hx284_0⟩ := Kd.at_int HR283_0.out x24_2 p284 q284
                 have hw284_0 := hx284_0
                 cases e284
                 replace hx284_0 := Goto.kc HB.out hx284_0
                 replace p284 := eq_true p284; replace q284 := eq_true q284
                 refine start_ (n := 36) (S := fun w' => w'.cell? ⟨gb276, 0, none⟩ = some (.int .i64 a0_0) ∧ w'.cell? ⟨gb276, 1, none⟩ = some (.int .i64 a0_1) ∧ w'.cell? ⟨gb276, 2, none⟩ = some (.slice A0_2 l0_2.length c0_2) ∧ w'.cell? ⟨gb276, 3, none⟩ = some (.slice A0_3 l0_3.length c0_3) ∧ w'.cell? ⟨gb277, 0, none⟩ = some (.int .i64 a3_0) ∧ w'.cell? ⟨gb277, 1, none⟩ = some (.int .u64 a3_1) ∧ w'.cell? (ad278.add (x18_1).toNat) = some (.slice (some ad282) (rd_L3 l1 x18_1).length c278_0) ∧ w'.cell? (ad279.add (x18_1).toNat) = some (.slice (some ad284) (rd_L3 l2 x18_1).length c279_0) ∧ w'.cell? (ad278.add (x18_1).toNat) = some (.slice (some ad282) (rd_L3 l1 x18_1).length c278_0) ∧ w'.cell? (ad282.add (x24_2).toNat) = some (.int .i64 (rd (rd_L3 l1 x18_1) x24_2)) ∧ w'.cell? (ad279.add (x18_1).toNat) = some (.slice (some ad284) (rd_L3 l2 x18_1).length c279_0) ∧ w'.cell? (ad284.add (x24_2).toNat) = some (.int .i64 (rd (rd_L3 l2 x18_1) x24_2))) (ds := []) (.replicate 36 false) (by kernel_rfl) rfl rfl ⟨(blk_cell BK276.out 0).trans rfl, (blk_cell BK276.out 1).trans rfl, (blk_cell BK276.out 2).trans rfl, (blk_cell BK276.out 3).trans rfl, (blk_cell BK277.out 0).trans rfl, (blk_cell BK277.out 1).trans rfl, (Goto.kc HB.out hw278_0), (Goto.kc HB.out hw279_0), (Goto.kc HB.out hw281_0), (Goto.kc HB.out hw282_0), (Goto.kc HB.out hw283_0), (Goto.kc HB.out hw284_0)⟩ (fun hHeld => ?_); refine with_tabW low_Levels.tab9 low_Levels.bits9 (fun HT_ HW_ => ?_)
                 generalize wr.drew = w25 at BK276 BK277 HB HR278_0 HR279_0 HR281_0 HR283_0 hx278_0 hx279_0 hx281_0 hx282_0 hx283_0 hx284_0 hHeld ⊢
                 refine Goto.pu 0 27 36 1 ?_
                 refine Goto.pu 1 28 36 3 ?_
                 refine Goto.pu 2 29 36 7 ?_
                 refine Goto.pu 3 30 36 15 ?_
                 refine Goto.pu 6 33 36 79 ?_
                 refine Goto.pu 7 34 36 207 ?_
                 refine Goto.pu 8 35 36 463 ?_
                 refine take_ (i := 4) (N := some 31) (v := ?_) (a' := ?_) (Goto.bs 36 479) rfl rfl (take_ofW HT_.out HW_.out (by kernel_rfl)) (fun _ _ _ h => h) (Or.inl ⟨by rfl, ?_⟩) hHeld ?_ ?_
                 rotate_left
                 ·
                  rintro w' ⟨s0, s1, s2, s3, s4, s5, s6, s7, s8, s9, s10, s11⟩
                  go_simp
                  with_reducible rfl
                 rotate_left
                 ·
                  exact Goto.ap
                 refine Goto.pu 5 32 36 511 ?_
                 refine take_ (i := 9) (N := some 36) (v := ?_) (a' := ?_) (Goto.bs 36 1023) rfl rfl (take_ofW HT_.out HW_.out (by kernel_rfl)) (fun _ _ _ h => h) (Or.inl ⟨by rfl, ?_⟩) hHeld ?_ ?_
                 rotate_left
                 ·
                  rintro w' ⟨s0, s1, s2, s3, s4, s5, s6, s7, s8, s9, s10, s11⟩
                  go_simp
                  with_reducible rfl
                 rotate_left
                 ·
                  exact Goto.ap
                 refine Goto.pu 10 37 36 2047 ?_
                 refine Goto.pu 11 38 36 4095 ?_
                 refine Goto.pu 12 39 36 8191 ?_
                 refine Goto.pu 13 40 36 16383 ?_
                 refine Goto.pu 15 42 36 49151 ?_
                 refine take_ (i := 14) (N := some 41) (v := ?_) (a' := ?_) (Goto.bs 36 65535) rfl rfl (take_ofW HT_.out HW_.out (by kernel_rfl)) (fun _ _ _ h => h) (Or.inl ⟨by rfl, ?_⟩) hHeld ?_ ?_
                 rotate_left
                 ·
                  rintro w' ⟨s0, s1, s2, s3, s4, s5, s6, s7, s8, s9, s10, s11⟩
                  go_simp
                  with_reducible rfl
                 rotate_left
                 ·
                  exact Goto.ap
                 refine take_ (i := 16) (N := some 43) (v := ?_) (a' := ?_) (Goto.bs 36 131071) rfl rfl (take_ofW HT_.out HW_.out (by kernel_rfl)) (fun _ _ _ h => h) (Or.inl ⟨by rfl, ?_⟩) hHeld ?_ ?_
                 rotate_left
                 ·
                  rintro w' ⟨s0, s1, s2, s3, s4, s5, s6, s7, s8, s9, s10, s11⟩
                  go_simp
                  with_reducible rfl
                 rotate_left
                 ·
                  exact Goto.ap
                 refine one_ (i := 17) (N := some 44) (Goto.bs 36 262143) rfl rfl (one_of HT_.out (by kernel_rfl)) (by decide) (fun K hK => ?_)
                 refine goes_ Try.func30 (by kernel_rfl) rfl #[.agg #[.int .i64 a0_0, .int .i64 a0_1, .slice A0_2 l0_2.length c0_2, .slice A0_3 l0_3.length c0_3], .int .i64 x24_2, .agg #[.int .i64 a3_0, .int .u64 a3_1]] (by rfl) rfl rfl (by (try simp only [List.map_toArray, List.map_cons, List.map_nil]); first | done | rfl | (simp only [List.length_drop, List.length_take]; rfl)) ?_
                 with_reducible refine (low_high.calls a0_0 a0_1 _ _ l0_2 _ _ l0_3 x24_2 a3_0 a3_1 true _ ?side1 ?side2 ?side3 ?side4 A17.out).mono ?_
                 (case side1 => repeat (first | exact (Kd.C_below HR0_2.out HB.out) | (with_reducible refine Kd.C_alloc ?_ _) | (with_reducible refine Kd.C_drewN ?_ _) | (with_reducible refine Kd.C_drew ?_)))
                 (case side2 => exact HC0_2.out)
                 (case side3 => repeat (first | exact (Kd.C_below HR0_3.out HB.out) | (with_reducible refine Kd.C_alloc ?_ _) | (with_reducible refine Kd.C_drewN ?_ _) | (with_reducible refine Kd.C_drew ?_)))
                 (case side4 => exact HC0_3.out)
                 rintro e w26 ⟨rfl, hb⟩
                 refine ⟨_, rfl, ?_⟩
                 replace BK276 := Goto.bb BK276 hb; replace BK277 := Goto.bb BK277 hb; replace HB := Goto.hs HB hb
                 (try clear hb)
                 (try clear hb2)
                 (try clear hk)
                 (try clear hi)
                 refine hK.out _ _ ⟨(blk_cell BK276.out 0).trans rfl, (blk_cell BK276.out 1).trans rfl, (blk_cell BK276.out 2).trans rfl, (blk_cell BK276.out 3).trans rfl, (blk_cell BK277.out 0).trans rfl, (blk_cell BK277.out 1).trans rfl, (Goto.kc HB.out hw278_0), (Goto.kc HB.out hw279_0), (Goto.kc HB.out hw281_0), (Goto.kc HB.out hw282_0), (Goto.kc HB.out hw283_0), (Goto.kc HB.out hw284_0)⟩ (fun hHeld => ?_)
                 clear hK K
                 refine norm_ (a' := ?_) ?_ ?_
                 rotate_left
                 ·
                  show Act.put _ (some 44) _ = _
                  exact Goto.ap
                 refine Goto.pu 18 45 36 524287 ?_
                 refine Goto.pu 19 46 36 1048575 ?_
                 refine Goto.pu 20 47 36 2097151 ?_
                 refine Goto.pu 21 48 36 4194303 ?_
                 refine Goto.pu 22 49 36 8388607 ?_
                 refine Goto.pu 24 51 36 25165823 ?_
                 refine Goto.pu 27 54 36 159383551 ?_
                 refine Goto.pu 28 55 36 427819007 ?_
                 refine Goto.pu 29 56 36 964689919 ?_
                 refine Goto.pu 31 58 36 3112173567 ?_
                 refine take_ (i := 23) (N := some 50) (v := ?_) (a' := ?_) (Goto.bs 36 3120562175) rfl rfl (take_ofW HT_.out HW_.out (by kernel_rfl)) (fun _ _ _ h => h) (Or.inl ⟨by rfl, ?_⟩) hHeld ?_ ?_
                 rotate_left
                 ·
                  rintro w' ⟨s0, s1, s2, s3, s4, s5, s6, s7, s8, s9, s10, s11⟩
                  go_simp
                  with_reducible rfl
                 rotate_left
                 ·
                  exact Goto.ap
                 refine Goto.pu 25 52 36 3154116607 ?_
                 refine take_ (i := 26) (N := some 53) (v := ?_) (a' := ?_) (Goto.bs 36 3221225471) rfl rfl (take_ofW HT_.out HW_.out (by kernel_rfl)) (fun _ _ _ h => h) (Or.inl ⟨by rfl, ?_⟩) hHeld ?_ ?_
                 rotate_left
                 ·
                  rintro w' ⟨s0, s1, s2, s3, s4, s5, s6, s7, s8, s9, s10, s11⟩
                  go_simp
                  with_reducible rfl
                 rotate_left
                 ·
                  exact Goto.ap
                 refine take_ (i := 30) (N := some 57) (v := ?_) (a' := ?_) (Goto.bs 36 4294967295) rfl rfl (take_ofW HT_.out HW_.out (by kernel_rfl)) (fun _ _ _ h => h) (Or.inl ⟨by rfl, ?_⟩) hHeld ?_ ?_
                 rotate_left
                 ·
                  rintro w' ⟨s0, s1, s2, s3, s4, s5, s6, s7, s8, s9, s10, s11⟩
                  go_simp
                  with_reducible rfl
                 rotate_left
                 ·
                  exact Goto.ap
                 refine Goto.pu 32 59 36 8589934591 ?_
                 refine take_ (i := 33) (N := some 60) (v := ?_) (a' := ?_) (Goto.bs 36 17179869183) rfl rfl (take_ofW HT_.out HW_.out (by kernel_rfl)) (fun _ _ _ h => h) (Or.inl ⟨by rfl, ?_⟩) hHeld ?_ ?_
                 rotate_left
                 ·
                  rintro w' ⟨s0, s1, s2, s3, s4, s5, s6, s7, s8, s9, s10, s11⟩
                  go_simp
                  with_reducible rfl
                 rotate_left
                 ·
                  exact Goto.ap
                 refine Goto.pu 34 61 36 34359738367 ?_
                 refine Goto.pu 35 62 36 68719476735 ?_
                 refine done_ (done_of HT_.out (by kernel_rfl)) ?_
                 try go_wp2
                 go_ret
                 exact ⟨by first | rfl | (simp [errW_none, errW_some] <;> rfl) | (simp only [← hji15]; first | rfl | (simp [errW_none, errW_some] <;> rfl)) | (simp [*, errW_none, errW_some] <;> rfl), by repeat (first | (with_reducible first | exact HB.out | apply below_alloc | apply pw_below_drewN | apply below_drew1 | refine below_set ?_ GE276.out | refine below_set ?_ GE277.out) | exact HB.out)⟩
               ·
                rw [if_neg c21] at H
                exact absurd H (by simp)
              ·
               rw [if_neg c20] at H
               exact absurd H (by simp)
             ·
              rw [if_neg c19] at H
              exact absurd H (by simp)
            ·
             replace c18 := Bool.eq_false_iff.mpr c18
             subst c18
             rw [if_neg (show ¬ (false = true) by decide)] at H
             have H' := Goto.m0 H
             clear H
             try go_wp2
             replace BK276 := Goto.m0 (blk_drew BK276.out); replace BK277 := Goto.m0 (blk_drew BK277.out); replace HB := Goto.m0 (below_drew1 HB.out)
             have p278 : 0 ≤ (x18_1 : Int) := Goto.od
             have q278 : x18_1 < (l1.length : Int) := Goto.od
             obtain ⟨ad278, A278_0, c278_0, e278, hx278_0, hl278_0, hi278_0⟩ := at_L3 HR1.out x18_1 p278 q278
             have hw278_0 := hx278_0
             cases e278
             replace hx278_0 := Goto.kc HB.out hx278_0
             have HR278_0 := Goto.m0 hi278_0
             have HC278_0 := Goto.m0 hl278_0
             clear hi278_0 hl278_0; replace p278 := eq_true p278; replace q278 := eq_true q278
             have p279 : 0 ≤ (x18_1 : Int) := Goto.od
             have q279 : x18_1 < (l2.length : Int) := Goto.od
             obtain ⟨ad279, A279_0, c279_0, e279, hx279_0, hl279_0, hi279_0⟩ := at_L3 HR2.out x18_1 p279 q279
             have hw279_0 := hx279_0
             cases e279
             replace hx279_0 := Goto.kc HB.out hx279_0
             have HR279_0 := Goto.m0 hi279_0
             have HC279_0 := Goto.m0 hl279_0
             clear hi279_0 hl279_0; replace p279 := eq_true p279; replace q279 := eq_true q279
             refine start_ (n := 36) (S := fun w' => w'.cell? ⟨gb276, 0, none⟩ = some (.int .i64 a0_0) ∧ w'.cell? ⟨gb276, 1, none⟩ = some (.int .i64 a0_1) ∧ w'.cell? ⟨gb276, 2, none⟩ = some (.slice A0_2 l0_2.length c0_2) ∧ w'.cell? ⟨gb276, 3, none⟩ = some (.slice A0_3 l0_3.length c0_3) ∧ w'.cell? ⟨gb277, 0, none⟩ = some (.int .i64 a3_0) ∧ w'.cell? ⟨gb277, 1, none⟩ = some (.int .u64 a3_1) ∧ w'.cell? (ad278.add (x18_1).toNat) = some (.slice A278_0 (rd_L3 l1 x18_1).length c278_0) ∧ w'.cell? (ad279.add (x18_1).toNat) = some (.slice A279_0 (rd_L3 l2 x18_1).length c279_0)) (ds := []) (.replicate 36 false) (by kernel_rfl) rfl rfl ⟨(blk_cell BK276.out 0).trans rfl, (blk_cell BK276.out 1).trans rfl, (blk_cell BK276.out 2).trans rfl, (blk_cell BK276.out 3).trans rfl, (blk_cell BK277.out 0).trans rfl, (blk_cell BK277.out 1).trans rfl, (Goto.kc HB.out hw278_0), (Goto.kc HB.out hw279_0)⟩ (fun hHeld => ?_); refine with_tabW low_Levels.tab9 low_Levels.bits9 (fun HT_ HW_ => ?_)
             generalize wr.drew = w27 at BK276 BK277 HB HR278_0 HR279_0 hx278_0 hx279_0 hHeld ⊢
             refine Goto.pu 0 27 36 1 ?_
             refine Goto.pu 1 28 36 3 ?_
             refine Goto.pu 2 29 36 7 ?_
             refine Goto.pu 3 30 36 15 ?_
             refine Goto.pu 6 33 36 79 ?_
             refine Goto.pu 7 34 36 207 ?_
             refine Goto.pu 8 35 36 463 ?_
             refine take_ (i := 4) (N := some 31) (v := ?_) (a' := ?_) (Goto.bs 36 479) rfl rfl (take_ofW HT_.out HW_.out (by kernel_rfl)) (fun _ _ _ h => h) (Or.inl ⟨by rfl, ?_⟩) hHeld ?_ ?_
             rotate_left
             ·
              rintro w' ⟨s0, s1, s2, s3, s4, s5, s6, s7⟩
              go_simp
              with_reducible rfl
             rotate_left
             ·
              exact Goto.ap
             refine Goto.pu 5 32 36 511 ?_
             refine take_ (i := 9) (N := some 36) (v := ?_) (a' := ?_) (Goto.bs 36 1023) rfl rfl (take_ofW HT_.out HW_.out (by kernel_rfl)) (fun _ _ _ h => h) (Or.inl ⟨by rfl, ?_⟩) hHeld ?_ ?_
             rotate_left
             ·
              rintro w' ⟨s0, s1, s2, s3, s4, s5, s6, s7⟩
              go_simp
              with_reducible rfl
             rotate_left
             ·
              exact Goto.ap
             refine Goto.pu 10 37 36 2047 ?_
             refine Goto.pu 11 38 36 4095 ?_
             refine Goto.pu 12 39 36 8191 ?_
             refine Goto.pu 13 40 36 16383 ?_
             refine Goto.pu 15 42 36 49151 ?_
             refine take_ (i := 14) (N := some 41) (v := ?_) (a' := ?_) (Goto.bs 36 65535) rfl rfl (take_ofW HT_.out HW_.out (by kernel_rfl)) (fun _ _ _ h => h) (Or.inl ⟨by rfl, ?_⟩) hHeld ?_ ?_
             rotate_left
             ·
              rintro w' ⟨s0, s1, s2, s3, s4, s5, s6, s7⟩
              go_simp
              with_reducible rfl
             rotate_left
             ·
              exact Goto.ap
             refine take_ (i := 16) (N := some 43) (v := ?_) (a' := ?_) (Goto.bs 36 131071) rfl rfl (take_ofW HT_.out HW_.out (by kernel_rfl)) (fun _ _ _ h => h) (Or.inl ⟨by rfl, ?_⟩) hHeld ?_ ?_
             rotate_left
             ·
              rintro w' ⟨s0, s1, s2, s3, s4, s5, s6, s7⟩
              go_simp
              with_reducible rfl
             rotate_left
             ·
              exact Goto.ap
             refine one_ (i := 17) (N := some 44) (Goto.bs 36 262143) rfl rfl (one_of HT_.out (by kernel_rfl)) (by decide) (fun K hK => ?_)
             refine goes_ Try.func30 (by kernel_rfl) rfl #[.agg #[.int .i64 a0_0, .int .i64 a0_1, .slice A0_2 l0_2.length c0_2, .slice A0_3 l0_3.length c0_3], .int .i64 x24_2, .agg #[.int .i64 a3_0, .int .u64 a3_1]] (by rfl) rfl rfl (by (try simp only [List.map_toArray, List.map_cons, List.map_nil]); first | done | rfl | (simp only [List.length_drop, List.length_take]; rfl)) ?_
             with_reducible refine (low_high.calls a0_0 a0_1 _ _ l0_2 _ _ l0_3 x24_2 a3_0 a3_1 false _ ?side1 ?side2 ?side3 ?side4 A17.out).mono ?_
             (case side1 => repeat (first | exact (Kd.C_below HR0_2.out HB.out) | (with_reducible refine Kd.C_alloc ?_ _) | (with_reducible refine Kd.C_drewN ?_ _) | (with_reducible refine Kd.C_drew ?_)))
             (case side2 => exact HC0_2.out)
             (case side3 => repeat (first | exact (Kd.C_below HR0_3.out HB.out) | (with_reducible refine Kd.C_alloc ?_ _) | (with_reducible refine Kd.C_drewN ?_ _) | (with_reducible refine Kd.C_drew ?_)))
             (case side4 => exact HC0_3.out)
             rintro e w28 ⟨rfl, hb⟩
             refine ⟨_, rfl, ?_⟩
             replace BK276 := Goto.bb BK276 hb; replace BK277 := Goto.bb BK277 hb; replace HB := Goto.hs HB hb
             (try clear hb)
             (try clear hb2)
             (try clear hk)
             (try clear hi)
             refine hK.out _ _ ⟨(blk_cell BK276.out 0).trans rfl, (blk_cell BK276.out 1).trans rfl, (blk_cell BK276.out 2).trans rfl, (blk_cell BK276.out 3).trans rfl, (blk_cell BK277.out 0).trans rfl, (blk_cell BK277.out 1).trans rfl, (Goto.kc HB.out hw278_0), (Goto.kc HB.out hw279_0)⟩ (fun hHeld => ?_)
             clear hK K
             refine norm_ (a' := ?_) ?_ ?_
             rotate_left
             ·
              show Act.put _ (some 44) _ = _
              exact Goto.ap
             refine Goto.pu 18 45 36 524287 ?_
             refine Goto.pu 19 46 36 1048575 ?_
             refine pure_ (i := 20) (N := some 47) (v := undef) (a' := ?_) (Goto.bs 36 2097151) rfl rfl (any_of HT_.out (by kernel_rfl)) (fun _ _ _ h => h) (Or.inr ⟨by rfl, rfl⟩) ?_ ?_
             rotate_left
             ·
              exact Goto.ap
             refine pure_ (i := 21) (N := some 48) (v := undef) (a' := ?_) (Goto.bs 36 4194303) rfl rfl (any_of HT_.out (by kernel_rfl)) (fun _ _ _ h => h) (Or.inr ⟨by rfl, rfl⟩) ?_ ?_
             rotate_left
             ·
              exact Goto.ap
             refine pure_ (i := 22) (N := some 49) (v := undef) (a' := ?_) (Goto.bs 36 8388607) rfl rfl (any_of HT_.out (by kernel_rfl)) (fun _ _ _ h => h) (Or.inr ⟨by rfl, rfl⟩) ?_ ?_
             rotate_left
             ·
              exact Goto.ap
             refine pure_ (i := 23) (N := some 50) (v := undef) (a' := ?_) (Goto.bs 36 16777215) rfl rfl (any_of HT_.out (by kernel_rfl)) (fun _ _ _ h => h) (Or.inr ⟨by rfl, rfl⟩) ?_ ?_
             rotate_left
             ·
              exact Goto.ap
             refine pure_ (i := 24) (N := some 51) (v := undef) (a' := ?_) (Goto.bs 36 33554431) rfl rfl (any_of HT_.out (by kernel_rfl)) (fun _ _ _ h => h) (Or.inr ⟨by rfl, rfl⟩) ?_ ?_
             rotate_left
             ·
              exact Goto.ap
             refine pure_ (i := 25) (N := some 52) (v := undef) (a' := ?_) (Goto.bs 36 67108863) rfl rfl (any_of HT_.out (by kernel_rfl)) (fun _ _ _ h => h) (Or.inr ⟨by rfl, rfl⟩) ?_ ?_
             rotate_left
             ·
              exact Goto.ap
             refine pure_ (i := 26) (N := some 53) (v := undef) (a' := ?_) (Goto.bs 36 134217727) rfl rfl (any_of HT_.out (by kernel_rfl)) (fun _ _ _ h => h) (Or.inr ⟨by rfl, rfl⟩) ?_ ?_
             rotate_left
             ·
              exact Goto.ap
             refine pure_ (i := 27) (N := some 54) (v := undef) (a' := ?_) (Goto.bs 36 268435455) rfl rfl (any_of HT_.out (by kernel_rfl)) (fun _ _ _ h => h) (Or.inr ⟨by rfl, rfl⟩) ?_ ?_
             rotate_left
             ·
              exact Goto.ap
             refine pure_ (i := 28) (N := some 55) (v := undef) (a' := ?_) (Goto.bs 36 536870911) rfl rfl (any_of HT_.out (by kernel_rfl)) (fun _ _ _ h => h) (Or.inr ⟨by rfl, rfl⟩) ?_ ?_
             rotate_left
             ·
              exact Goto.ap
             refine pure_ (i := 29) (N := some 56) (v := undef) (a' := ?_) (Goto.bs 36 1073741823) rfl rfl (any_of HT_.out (by kernel_rfl)) (fun _ _ _ h => h) (Or.inr ⟨by rfl, rfl⟩) ?_ ?_
             rotate_left
             ·
              exact Goto.ap
             refine pure_ (i := 30) (N := some 57) (v := undef) (a' := ?_) (Goto.bs 36 2147483647) rfl rfl (any_of HT_.out (by kernel_rfl)) (fun _ _ _ h => h) (Or.inr ⟨by rfl, rfl⟩) ?_ ?_
             rotate_left
             ·
              exact Goto.ap
             refine pure_ (i := 31) (N := some 58) (v := undef) (a' := ?_) (Goto.bs 36 4294967295) rfl rfl (any_of HT_.out (by kernel_rfl)) (fun _ _ _ h => h) (Or.inr ⟨by rfl, rfl⟩) ?_ ?_
             rotate_left
             ·
              exact Goto.ap
             refine pure_ (i := 32) (N := some 59) (v := undef) (a' := ?_) (Goto.bs 36 8589934591) rfl rfl (any_of HT_.out (by kernel_rfl)) (fun _ _ _ h => h) (Or.inr ⟨by rfl, rfl⟩) ?_ ?_
             rotate_left
             ·
              exact Goto.ap
             refine pure_ (i := 33) (N := some 60) (v := undef) (a' := ?_) (Goto.bs 36 17179869183) rfl rfl (any_of HT_.out (by kernel_rfl)) (fun _ _ _ h => h) (Or.inr ⟨by rfl, rfl⟩) ?_ ?_
             rotate_left
             ·
              exact Goto.ap
             refine pure_ (i := 34) (N := some 61) (v := undef) (a' := ?_) (Goto.bs 36 34359738367) rfl rfl (any_of HT_.out (by kernel_rfl)) (fun _ _ _ h => h) (Or.inr ⟨by rfl, rfl⟩) ?_ ?_
             rotate_left
             ·
              exact Goto.ap
             refine Goto.pu 35 62 36 68719476735 ?_
             refine done_ (done_of HT_.out (by kernel_rfl)) ?_
             try go_wp2
             go_roundg k2
             case measure => have := HK1.out; have := HK2.out; omega
             case rel => exact ⟨(wrap64 (x24_2 + 1)), (by first | rfl | (simp; done) | (simp [*]; done)), H', ⟨by have := HK1.out; have := HK2.out; omega⟩, ⟨Goto.bx BK276⟩, ⟨Goto.bx BK277⟩, ⟨Goto.hx HB⟩⟩
           ·
            rw [if_neg c16] at H
            have c16b0 : decide (x24_2 < (ji15)) = false := decide_eq_false c16
            clear c16
            have H' := Goto.m0 H
            clear H
            try go_wp2
            replace BK276 := Goto.m0 (blk_drew BK276.out); replace BK277 := Goto.m0 (blk_drew BK277.out); replace HB := Goto.m0 (below_drew1 HB.out)
            have p278 : 0 ≤ (x18_1 : Int) := Goto.od
            have q278 : x18_1 < (l1.length : Int) := Goto.od
            obtain ⟨ad278, A278_0, c278_0, e278, hx278_0, hl278_0, hi278_0⟩ := at_L3 HR1.out x18_1 p278 q278
            have hw278_0 := hx278_0
            cases e278
            replace hx278_0 := Goto.kc HB.out hx278_0
            have HR278_0 := Goto.m0 hi278_0
            have HC278_0 := Goto.m0 hl278_0
            clear hi278_0 hl278_0; replace p278 := eq_true p278; replace q278 := eq_true q278
            have p279 : 0 ≤ (x18_1 : Int) := Goto.od
            have q279 : x18_1 < (l2.length : Int) := Goto.od
            obtain ⟨ad279, A279_0, c279_0, e279, hx279_0, hl279_0, hi279_0⟩ := at_L3 HR2.out x18_1 p279 q279
            have hw279_0 := hx279_0
            cases e279
            replace hx279_0 := Goto.kc HB.out hx279_0
            have HR279_0 := Goto.m0 hi279_0
            have HC279_0 := Goto.m0 hl279_0
            clear hi279_0 hl279_0; replace p279 := eq_true p279; replace q279 := eq_true q279
            refine start_ (n := 36) (S := fun w' => w'.cell? (ad278.add (x18_1).toNat) = some (.slice A278_0 (rd_L3 l1 x18_1).length c278_0) ∧ w'.cell? (ad279.add (x18_1).toNat) = some (.slice A279_0 (rd_L3 l2 x18_1).length c279_0)) (ds := []) (.replicate 36 false) (by kernel_rfl) rfl rfl ⟨(Goto.kc HB.out hw278_0), (Goto.kc HB.out hw279_0)⟩ (fun hHeld => ?_); refine with_tabW low_Levels.tab9 low_Levels.bits9 (fun HT_ HW_ => ?_)
            generalize wr.drew = w29 at BK276 BK277 HB HR278_0 HR279_0 hx278_0 hx279_0 hHeld ⊢
            refine Goto.pu 0 27 36 1 ?_
            refine Goto.pu 1 28 36 3 ?_
            refine Goto.pu 2 29 36 7 ?_
            refine Goto.pu 3 30 36 15 ?_
            refine Goto.pu 6 33 36 79 ?_
            refine Goto.pu 7 34 36 207 ?_
            refine Goto.pu 8 35 36 463 ?_
            refine take_ (i := 4) (N := some 31) (v := ?_) (a' := ?_) (Goto.bs 36 479) rfl rfl (take_ofW HT_.out HW_.out (by kernel_rfl)) (fun _ _ _ h => h) (Or.inl ⟨by rfl, ?_⟩) hHeld ?_ ?_
            rotate_left
            ·
             rintro w' ⟨s0, s1⟩
             go_simp
             with_reducible rfl
            rotate_left
            ·
             exact Goto.ap
            refine Goto.pu 5 32 36 511 ?_
            refine take_ (i := 9) (N := some 36) (v := ?_) (a' := ?_) (Goto.bs 36 1023) rfl rfl (take_ofW HT_.out HW_.out (by kernel_rfl)) (fun _ _ _ h => h) (Or.inl ⟨by rfl, ?_⟩) hHeld ?_ ?_
            rotate_left
            ·
             rintro w' ⟨s0, s1⟩
             go_simp
             with_reducible rfl
            rotate_left
            ·
             exact Goto.ap
            refine Goto.pu 10 37 36 2047 ?_
            refine Goto.pu 11 38 36 4095 ?_
            refine Goto.pu 12 39 36 8191 ?_
            refine Goto.pu 13 40 36 16383 ?_
            refine pure_ (i := 14) (N := some 41) (v := undef) (a' := ?_) (Goto.bs 36 32767) rfl rfl (any_of HT_.out (by kernel_rfl)) (fun _ _ _ h => h) (Or.inr ⟨by rfl, rfl⟩) ?_ ?_
            rotate_left
            ·
             exact Goto.ap
            refine pure_ (i := 15) (N := some 42) (v := undef) (a' := ?_) (Goto.bs 36 65535) rfl rfl (any_of HT_.out (by kernel_rfl)) (fun _ _ _ h => h) (Or.inr ⟨by rfl, rfl⟩) ?_ ?_
            rotate_left
            ·
             exact Goto.ap
            refine pure_ (i := 16) (N := some 43) (v := undef) (a' := ?_) (Goto.bs 36 131071) rfl rfl (any_of HT_.out (by kernel_rfl)) (fun _ _ _ h => h) (Or.inr ⟨by rfl, rfl⟩) ?_ ?_
            rotate_left
            ·
             exact Goto.ap
            refine pure_ (i := 17) (N := some 44) (v := undef) (a' := ?_) (Goto.bs 36 262143) rfl rfl (any_of HT_.out (by kernel_rfl)) (fun _ _ _ h => h) (Or.inr ⟨by rfl, rfl⟩) ?_ ?_
            rotate_left
            ·
             exact Goto.ap
            refine Goto.pu 18 45 36 524287 ?_
            refine Goto.pu 19 46 36 1048575 ?_
            refine pure_ (i := 20) (N := some 47) (v := undef) (a' := ?_) (Goto.bs 36 2097151) rfl rfl (any_of HT_.out (by kernel_rfl)) (fun _ _ _ h => h) (Or.inr ⟨by rfl, rfl⟩) ?_ ?_
            rotate_left
            ·
             exact Goto.ap
            refine pure_ (i := 21) (N := some 48) (v := undef) (a' := ?_) (Goto.bs 36 4194303) rfl rfl (any_of HT_.out (by kernel_rfl)) (fun _ _ _ h => h) (Or.inr ⟨by rfl, rfl⟩) ?_ ?_
            rotate_left
            ·
             exact Goto.ap
            refine pure_ (i := 22) (N := some 49) (v := undef) (a' := ?_) (Goto.bs 36 8388607) rfl rfl (any_of HT_.out (by kernel_rfl)) (fun _ _ _ h => h) (Or.inr ⟨by rfl, rfl⟩) ?_ ?_
            rotate_left
            ·
             exact Goto.ap
            refine pure_ (i := 23) (N := some 50) (v := undef) (a' := ?_) (Goto.bs 36 16777215) rfl rfl (any_of HT_.out (by kernel_rfl)) (fun _ _ _ h => h) (Or.inr ⟨by rfl, rfl⟩) ?_ ?_
            rotate_left
            ·
             exact Goto.ap
            refine pure_ (i := 24) (N := some 51) (v := undef) (a' := ?_) (Goto.bs 36 33554431) rfl rfl (any_of HT_.out (by kernel_rfl)) (fun _ _ _ h => h) (Or.inr ⟨by rfl, rfl⟩) ?_ ?_
            rotate_left
            ·
             exact Goto.ap
            refine pure_ (i := 25) (N := some 52) (v := undef) (a' := ?_) (Goto.bs 36 67108863) rfl rfl (any_of HT_.out (by kernel_rfl)) (fun _ _ _ h => h) (Or.inr ⟨by rfl, rfl⟩) ?_ ?_
            rotate_left
            ·
             exact Goto.ap
            refine pure_ (i := 26) (N := some 53) (v := undef) (a' := ?_) (Goto.bs 36 134217727) rfl rfl (any_of HT_.out (by kernel_rfl)) (fun _ _ _ h => h) (Or.inr ⟨by rfl, rfl⟩) ?_ ?_
            rotate_left
            ·
             exact Goto.ap
            refine pure_ (i := 27) (N := some 54) (v := undef) (a' := ?_) (Goto.bs 36 268435455) rfl rfl (any_of HT_.out (by kernel_rfl)) (fun _ _ _ h => h) (Or.inr ⟨by rfl, rfl⟩) ?_ ?_
            rotate_left
            ·
             exact Goto.ap
            refine pure_ (i := 28) (N := some 55) (v := undef) (a' := ?_) (Goto.bs 36 536870911) rfl rfl (any_of HT_.out (by kernel_rfl)) (fun _ _ _ h => h) (Or.inr ⟨by rfl, rfl⟩) ?_ ?_
            rotate_left
            ·
             exact Goto.ap
            refine pure_ (i := 29) (N := some 56) (v := undef) (a' := ?_) (Goto.bs 36 1073741823) rfl rfl (any_of HT_.out (by kernel_rfl)) (fun _ _ _ h => h) (Or.inr ⟨by rfl, rfl⟩) ?_ ?_
            rotate_left
            ·
             exact Goto.ap
            refine pure_ (i := 30) (N := some 57) (v := undef) (a' := ?_) (Goto.bs 36 2147483647) rfl rfl (any_of HT_.out (by kernel_rfl)) (fun _ _ _ h => h) (Or.inr ⟨by rfl, rfl⟩) ?_ ?_
            rotate_left
            ·
             exact Goto.ap
            refine pure_ (i := 31) (N := some 58) (v := undef) (a' := ?_) (Goto.bs 36 4294967295) rfl rfl (any_of HT_.out (by kernel_rfl)) (fun _ _ _ h => h) (Or.inr ⟨by rfl, rfl⟩) ?_ ?_
            rotate_left
            ·
             exact Goto.ap
            refine pure_ (i := 32) (N := some 59) (v := undef) (a' := ?_) (Goto.bs 36 8589934591) rfl rfl (any_of HT_.out (by kernel_rfl)) (fun _ _ _ h => h) (Or.inr ⟨by rfl, rfl⟩) ?_ ?_
            rotate_left
            ·
             exact Goto.ap
            refine pure_ (i := 33) (N := some 60) (v := undef) (a' := ?_) (Goto.bs 36 17179869183) rfl rfl (any_of HT_.out (by kernel_rfl)) (fun _ _ _ h => h) (Or.inr ⟨by rfl, rfl⟩) ?_ ?_
            rotate_left
            ·
             exact Goto.ap
            refine pure_ (i := 34) (N := some 61) (v := undef) (a' := ?_) (Goto.bs 36 34359738367) rfl rfl (any_of HT_.out (by kernel_rfl)) (fun _ _ _ h => h) (Or.inr ⟨by rfl, rfl⟩) ?_ ?_
            rotate_left
            ·
             exact Goto.ap
            refine Goto.pu 35 62 36 68719476735 ?_
            refine done_ (done_of HT_.out (by kernel_rfl)) ?_
            try go_wp2
            go_roundg k2
            case measure => have := HK1.out; have := HK2.out; omega
            case rel => exact ⟨(wrap64 (x24_2 + 1)), (by first | rfl | (simp; done) | (simp [*]; done)), H', ⟨by have := HK1.out; have := HK2.out; omega⟩, ⟨Goto.bx BK276⟩, ⟨Goto.bx BK277⟩, ⟨Goto.hx HB⟩⟩
          ·
           rw [if_neg c14] at H
           exact absurd H (by simp)
         ·
          rw [if_neg c13] at H
          exact absurd H (by simp)
        ·
         rw [if_neg c12] at H
         exact absurd H (by simp)
       ·
        rw [if_neg c11] at H
        have c11b0 : decide (x24_2 < (l0_3.length : Int)) = false := decide_eq_false c11
        clear c11
        have H' := Goto.m0 H
        clear H
        go_wp2
        go_roundg k2
        case measure => have := HK1.out; have := HK2.out; omega
        case rel => exact ⟨(wrap64 (x18_1 + 1)), (by first | rfl | (simp; done) | (simp [*]; done)), H', ⟨by have := HK1.out; have := HK2.out; omega⟩, ⟨Goto.bx BK276⟩, ⟨Goto.bx BK277⟩, ⟨Goto.hx HB⟩⟩
    ·
     rw [if_neg c8] at H
     have c8b0 : decide (x18_1 < (l1.length : Int)) = false := decide_eq_false c8
     clear c8
     obtain rfl := Option.some.inj H
     go_wp2
     go_ret
     exact ⟨Goto.er, by repeat (first | (with_reducible first | exact HB.out | apply below_alloc | apply pw_below_drewN | apply below_drew1 | refine below_set ?_ GE276.out | refine below_set ?_ GE277.out) | exact HB.out)⟩
 ·
  rw [if_neg c5] at H
  have c5b0 : ((l1.length : Int) == (l2.length : Int)) = false := beq_eq_false_iff_ne.mpr c5
  have c5b1 : ((l1.length : Int) != (l2.length : Int)) = true := bne_iff_ne.mpr c5
  have c5b2 : (l1.length == l2.length) = false := by first | simpa using c5 | (simp at c5 ⊢; omega)
  obtain rfl := Option.some.inj H
  go_enter Try.func14, Try.ntmps14
  go_wp2_with (first | ((with_reducible refine gate_dst (N := 4) rfl ?_); refine box_event ?hg (N := 4) ?hd (cs := #[.int .i64 a0_0, .int .i64 a0_1, .slice A0_2 l0_2.length c0_2, .slice A0_3 l0_3.length c0_3]) (t := 25) ?hr ?_; (case hd => rfl); (case hg => rfl); (case hr => first | (go_simp; done) | (go_simp; rfl)); intro gb276 hg w30 hbox hb; have BK276 := Goto.m0 (hbox); have GW276 := Goto.gs HB hg; have GE276 := Goto.gs HB hg; replace HB := Goto.hs HB hb; clear hb hbox hg) | ((with_reducible refine gate_dst (N := 7) rfl ?_); refine box_event ?hg (N := 7) ?hd (cs := #[.int .i64 a3_0, .int .u64 a3_1]) (t := 32) ?hr ?_; (case hd => rfl); (case hg => rfl); (case hr => first | (go_simp; done) | (go_simp; rfl)); intro gb277 hg w31 hbox hb; have BK277 := Goto.m0 (hbox); have GW277 := Goto.gs HB hg; have GE277 := Goto.gs HB hg; have NB276_277 := Goto.nl BK276 hg; have NB277_276 := Goto.nr BK276 hg; replace BK276 := Goto.bb BK276 hb; replace HB := Goto.hs HB hb; clear hb hbox hg))
  go_ret
  exact ⟨Goto.er, by repeat (first | (with_reducible first | exact HB.out | apply below_alloc | apply pw_below_drewN | apply below_drew1 | refine below_set ?_ GE276.out | refine below_set ?_ GE277.out) | exact HB.out)⟩

end Go.Proofs.Ytnnkmkejcmdjpaa.P
