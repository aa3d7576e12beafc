/- Printed by a program of this workplace (a turned copy of the kit's optional print), out of the translation; not trusted: Lean checks it. -/
import Derived.Test.YtiejhnijfgdapaaDoorPx0
import Derived.Test.YtiejhnijfgdapaaDoorPx6
namespace Go.Proofs.YtiejhnijfgdapaaDoor.P
open Go.RowKit Go.Proofs.YtiejhnijfgdapaaDoorW.PrintWords Go.Proofs.YtiejhnijfgdapaaDoorW.PrintLast Go.Proofs.YtiejhnijfgdapaaDoorW.PrintMore
attribute [local go_sem] max2_int min2_int max_two min_two max_three min_three max_four min_four   -- for this text's walks alone
set_option linter.unusedVariables false
set_option linter.unusedSimpArgs false

/-! ### tontineref1_Reader_Num: function 14 -/
mutual
def tontineref1_Reader_Num.l0 : Nat → Int → Int → Int → Int → ByteArray → Int → Option (Int × ByteArray × Int)
  | 0, _, _, _, _, _, _ => none
  | k + 1, x1, x5, x6, x7, x1000, x1001 => if x1001 = 0 then (if x7 ≥ (x1000.size : Int) then ((tontineref1_Reader_fails.f x1000 x1001 11).bind fun bt179 => (some (0, bt179.1, bt179.2))) else (if 0 ≤ x7 then (if x7 < (x1000.size : Int) then (if x7 > 0 then (if (wrap64 (bt x1000 x7)) = 0 then (tontineref1_Reader_Num.j1 k x1 x5 x6 x7 (wrap64 (bt x1000 x7)) true x1000 x1001) else (if x7 = 3 then (tontineref1_Reader_Num.j1 k x1 x5 x6 x7 (wrap64 (bt x1000 x7)) (decide ((wrap64 (bt x1000 x7)) ≥ 128)) x1000 x1001) else (tontineref1_Reader_Num.j1 k x1 x5 x6 x7 (wrap64 (bt x1000 x7)) false x1000 x1001))) else (if x7 = 3 then (tontineref1_Reader_Num.j1 k x1 x5 x6 x7 (wrap64 (bt x1000 x7)) (decide ((wrap64 (bt x1000 x7)) ≥ 128)) x1000 x1001) else (tontineref1_Reader_Num.j1 k x1 x5 x6 x7 (wrap64 (bt x1000 x7)) false x1000 x1001))) else (none)) else (none))) else (some (0, x1000, x1001))
def tontineref1_Reader_Num.j1 : Nat → Int → Int → Int → Int → Int → Bool → ByteArray → Int → Option (Int × ByteArray × Int)
  | 0, _, _, _, _, _, _, _, _ => none
  | k + 1, x1, x5, x6, x7, x8, x45, x1000, x1001 => if x45 = true then ((tontineref1_Reader_fails.f x1000 x1001 10).bind fun bt181 => (some (0, bt181.1, bt181.2))) else (if x8 < 128 then (if (wrap64 ((wrap64 (x5 + (wrap64 ((Int.tmod x8 128) * x6)))) - 1)) > x1 then ((tontineref1_Reader_fails.f x1000 x1001 12).bind fun bt183 => (some (0, bt183.1, bt183.2))) else (if 0 ≤ (wrap64 (x7 + 1)) then (if (wrap64 (x7 + 1)) ≤ (x1000.size : Int) then (some (wrap64 ((wrap64 (x5 + (wrap64 ((Int.tmod x8 128) * x6)))) - 1), x1000.extract ((wrap64 (x7 + 1)) : Int).toNat x1000.size, x1001)) else (none)) else (none))) else (tontineref1_Reader_Num.l0 k x1 (wrap64 (x5 + (wrap64 ((Int.tmod x8 128) * x6)))) (wrap64 (x6 * 128)) (wrap64 (x7 + 1)) x1000 x1001))
end
def tontineref1_Reader_Num.f (k : Nat) (a0_0 : ByteArray) (a0_1 : Int) (a1 : Int) : Option (Int × ByteArray × Int) := tontineref1_Reader_Num.l0 k a1 0 1 0 a0_0 a0_1
theorem tontineref1_Reader_Num.mono_l : ∀ k, (∀ y0 y1 y2 y3 y4 y5, LeO (tontineref1_Reader_Num.l0 k y0 y1 y2 y3 y4 y5) (tontineref1_Reader_Num.l0 (k + 1) y0 y1 y2 y3 y4 y5)) ∧ (∀ y0 y1 y2 y3 y4 y5 y6 y7, LeO (tontineref1_Reader_Num.j1 k y0 y1 y2 y3 y4 y5 y6 y7) (tontineref1_Reader_Num.j1 (k + 1) y0 y1 y2 y3 y4 y5 y6 y7))
  | 0 => ⟨fun _ _ _ _ _ _ r h => by simp [tontineref1_Reader_Num.l0] at h, fun _ _ _ _ _ _ _ _ r h => by simp [tontineref1_Reader_Num.j1] at h⟩
  | k + 1 => by
    obtain ⟨ih0, ih1⟩ := tontineref1_Reader_Num.mono_l k
    refine ⟨?_, ?_⟩
    · intro y0 y1 y2 y3 y4 y5
      unfold tontineref1_Reader_Num.l0
      repeat' first
      | (with_reducible exact ih0 _ _ _ _ _ _)
      | (with_reducible exact ih1 _ _ _ _ _ _ _ _)
      | (with_reducible exact LeO.refl _)
      | (with_reducible exact LeO.none _)
      | (with_reducible refine LeO.ite ?_ ?_)
      | (with_reducible refine LeO.bind ?_ (fun _ => ?_))
      | exact ih0 _ _ _ _ _ _
      | exact ih1 _ _ _ _ _ _ _ _
      | exact LeO.none _
      | refine LeO.ite ?_ ?_
      | refine LeO.bind ?_ (fun _ => ?_)
    · intro y0 y1 y2 y3 y4 y5 y6 y7
      unfold tontineref1_Reader_Num.j1
      repeat' first
      | (with_reducible exact ih0 _ _ _ _ _ _)
      | (with_reducible exact ih1 _ _ _ _ _ _ _ _)
      | (with_reducible exact LeO.refl _)
      | (with_reducible exact LeO.none _)
      | (with_reducible refine LeO.ite ?_ ?_)
      | (with_reducible refine LeO.bind ?_ (fun _ => ?_))
      | exact ih0 _ _ _ _ _ _
      | exact ih1 _ _ _ _ _ _ _ _
      | exact LeO.none _
      | refine LeO.ite ?_ ?_
      | refine LeO.bind ?_ (fun _ => ?_)
theorem tontineref1_Reader_Num.mono : ∀ a0 a1 a2 k, LeO (tontineref1_Reader_Num.f k a0 a1 a2) (tontineref1_Reader_Num.f (k + 1) a0 a1 a2) := by
 intro a0 a1 a2 k
 obtain ⟨ih0, ih1⟩ := tontineref1_Reader_Num.mono_l k
 unfold tontineref1_Reader_Num.f
 repeat' first
   | (with_reducible exact ih0 _ _ _ _ _ _)
   | (with_reducible exact ih1 _ _ _ _ _ _ _ _)
   | (with_reducible exact LeO.refl _)
   | (with_reducible exact LeO.none _)
   | (with_reducible refine LeO.ite ?_ ?_)
   | (with_reducible refine LeO.bind ?_ (fun _ => ?_))
   | exact ih0 _ _ _ _ _ _
   | exact ih1 _ _ _ _ _ _ _ _
   | exact LeO.none _
   | refine LeO.ite ?_ ?_
   | refine LeO.bind ?_ (fun _ => ?_)
set_option maxHeartbeats 8000000 in
set_option maxRecDepth 100000 in
theorem tontineref1_Reader_Num.calls (k : Nat) (g : Nat) (a0_0 : ByteArray) (a0_1 : Int) (a1 : Int) (r1 : Int) (r2 : ByteArray) (r3 : Int) (w0 w : World) (hI : w.heap[g]? = some (.cells #[.string a0_0, .int .i64 a0_1] 36 (0, 0))) (hG : w0.heap.size ≤ g) (hB : Below w0.heap.size w0 w) (h : tontineref1_Reader_Num.f k a0_0 a0_1 a1 = some (r1, r2, r3)) :
    Calls Tryd.prog 14 #[.pointer (some ⟨g, 0, none⟩), .int .i64 a1] w fun e w' => e = .returned (.int .i64 r1) ∧ w'.heap[g]? = some (.cells #[.string r2, .int .i64 r3] 36 (0, 0)) ∧ Below w0.heap.size w0 w' ∧ Kept w w' (fun k_ => (Goto.None_ k_) ∨ k_ = g) := by
 have BK0 := Goto.m0 hI
 have GE0 := Goto.m0 hG
 clear hI hG
 have HK := Goto.m0 (Kept.refl w (fun k_ => (Goto.None_ k_) ∨ k_ = g))
 have HW0 := Goto.m0 hB.size
 have HB := Goto.m0 hB
 clear hB
 have H : (tontineref1_Reader_Num.l0 k a1 0 1 0 a0_0 a0_1) = some (r1, r2, r3) := h
 clear h
 have H' := Goto.m0 H
 clear H
 go_enter Tryd.func14, Tryd.ntmps14
 go_wp2
 go_loopg [5, 6, 7] k (fun kq v5 v6 v7 w' => ∃ (x5_1 : Int) (x6_1 : Int) (x7_1 : Int) (x1000_1 : ByteArray) (x1001_1 : Int), v5 = .int .i64 x5_1 ∧ v6 = .int .i64 x6_1 ∧ v7 = .int .i64 x7_1 ∧ Aside0 (tontineref1_Reader_Num.l0 kq a1 x5_1 x6_1 x7_1 x1000_1 x1001_1 = some (r1, r2, r3)) ∧ Aside0 (kq ≤ k) ∧ Aside0 (w'.heap[g]? = some (.cells #[.string x1000_1, .int .i64 x1001_1] 36 (0, 0))) ∧ Aside0 (Kept w w' (fun k_ => (Goto.None_ k_) ∨ k_ = g)) ∧ Aside0 (Below w0.heap.size w0 w'))
 case atStart => exact ⟨(0), (1), (0), (a0_0), (a0_1), (by first | rfl | (simp; done) | (simp [*]; done)), (by first | rfl | (simp; done) | (simp [*]; done)), (by first | rfl | (simp; done) | (simp [*]; done)), H', ⟨Nat.le_refl _⟩, ⟨Goto.bx BK0⟩, ⟨by repeat (first | (with_reducible first | exact HK.out | apply Kept.alloc | apply Kept.drewN | apply Kept.drew | refine Kept.setCell ?_ (.inl (.inr rfl)) _) | exact HK.out)⟩, ⟨Goto.hx HB⟩⟩
 case round =>
  clear H'
  try clear c1; try clear p2
  obtain ⟨x5_1, x6_1, x7_1, x1000_1, x1001_1, rfl, rfl, rfl, HA, HK1, BK0, HK, HB⟩ := hrel
  cases gk with
  | zero => exact absurd HA.out (by simp [tontineref1_Reader_Num.l0])
  | succ k1 =>
   have H := HA.out; clear HA
   simp only [tontineref1_Reader_Num.l0] at H
   by_cases c3 : x1001_1 = 0
   ·
    rw [if_pos c3] at H
    have c3b0 : (x1001_1 == 0) = true := beq_iff_eq.mpr c3
    have c3b1 : (x1001_1 != 0) = false := bne_eq_false_iff_eq.mpr c3
    clear c3
    by_cases c4 : x7_1 ≥ (x1000_1.size : Int)
    ·
     rw [if_pos c4] at H
     have c4b0 : decide ((x1000_1.size : Int) ≤ x7_1) = true := decide_eq_true c4
     clear c4
     replace H := Option.bind_eq_some_iff.mp H
     obtain ⟨⟨t179, t180⟩, A50, H⟩ := H
     replace H : (some (0, t179, t180)) = some (r1, r2, r3) := H
     have A5 := Goto.m0 A50
     clear A50
     simp only [Option.some.injEq, Prod.mk.injEq] at H
     obtain ⟨rfl, rfl, rfl⟩ := H
     have hcz6_0 := Goto.bc0 BK0; have hcz6_1 := Goto.bc1 BK0; have hfz6_0 := Goto.bf BK0 0; have hfz6_1 := Goto.bf BK0 1
     go_wp2_with (first | ((with_reducible refine gate_callee (f := 34) rfl ?_); refine goesL_ (some 24) rfl rfl Tryd.func34 (by kernel_rfl) rfl #[.pointer (some ⟨g, 0, none⟩), .int .i64 11] rfl (by (try simp only [List.map_toArray, List.map_cons, List.map_nil]); first | done | rfl | (simp only [List.length_drop, List.length_take]; rfl)) ?_; (with_reducible refine (tontineref1_Reader_fails.calls g x1000_1 x1001_1 11 t179 t180 w0 _ ?side1 ?side2 ?side3 A5.out).mono ?_); (case side1 => exact by (with_reducible repeat first | refine blk_drewN ?_ _ | refine blk_drew ?_ | refine blk_alloc ?_ _); exact BK0.out); (case side2 => exact GE0.out); (case side3 => repeat (first | (with_reducible first | exact HB.out | apply below_alloc | apply pw_below_drewN | apply below_drew1 | refine below_set ?_ GE0.out) | exact HB.out)); rintro e w7 ⟨rfl, hi, hb, hkp⟩; refine ⟨_, rfl, ?_⟩; replace BK0 := Goto.m0 (hi); replace HK := Goto.m0 (Kept.then_ (S := (fun k_ => (Goto.None_ k_) ∨ k_ = g)) (by repeat (first | (with_reducible first | exact HK.out | apply Kept.alloc | apply Kept.drewN | apply Kept.drew | refine Kept.setCell ?_ (.inl (.inr rfl)) _) | exact HK.out)) hkp (fun k_ hs_ => Or.elim hs_ (fun hs_ => False.elim (show False from hs_)) (fun e_ => .inl (.inr e_)))); replace HB := Goto.m0 (hb); (try clear hb); (try clear hkp)))
     go_ret
     (try simp only [← exists_and_left])
     exact ⟨Goto.er, by (with_reducible repeat first | refine blk_drewN ?_ _ | refine blk_drew ?_ | refine blk_alloc ?_ _); exact BK0.out, by repeat (first | (with_reducible first | exact HB.out | apply below_alloc | apply pw_below_drewN | apply below_drew1 | refine below_set ?_ GE0.out) | exact HB.out), by repeat (first | (with_reducible first | exact HK.out | apply Kept.alloc | apply Kept.drewN | apply Kept.drew | refine Kept.setCell ?_ (.inl (.inr rfl)) _) | exact HK.out)⟩
    ·
     rw [if_neg c4] at H
     have c4b0 : decide ((x1000_1.size : Int) ≤ x7_1) = false := decide_eq_false c4
     clear c4
     by_cases c8 : 0 ≤ x7_1
     ·
      rw [if_pos c8] at H
      have c8b0 : decide (0 ≤ x7_1) = true := decide_eq_true c8
      clear c8
      by_cases c9 : x7_1 < (x1000_1.size : Int)
      ·
       rw [if_pos c9] at H
       have c9b0 : decide (x7_1 < (x1000_1.size : Int)) = true := decide_eq_true c9
       clear c9
       have HC11 := Goto.m0 H
       clear H; have hcz12_0 := Goto.bc0 BK0; have hcz12_1 := Goto.bc1 BK0; have hfz12_0 := Goto.bf BK0 0; have hfz12_1 := Goto.bf BK0 1
       have p10 : 0 ≤ (x7_1 : Int) := Goto.od
       have q10 : x7_1 < (x1000_1.size : Int) := Goto.od
       have hx10 := bt_at x1000_1 x7_1
       replace p10 := eq_true p10; replace q10 := eq_true q10
       go_upto_region 8 with (fail)
       go_cut [8, 13, 21, 22, 30, 31, 33, 34, 37, 38, 45] (fun v8 v13 v21 v22 v30 v31 v33 v34 v37 v38 v45 wc => ∃ (kq : Nat) (x8_10 : Int) (x45_10 : Bool), v8 = .int .i64 x8_10 ∧ v45 = .bool x45_10 ∧ Aside0 (tontineref1_Reader_Num.j1 kq a1 x5_1 x6_1 x7_1 x8_10 x45_10 x1000_1 x1001_1 = some (r1, r2, r3)) ∧ Aside0 (kq ≤ k1) ∧ Aside0 (wc.heap[g]? = some (.cells #[.string x1000_1, .int .i64 x1001_1] 36 (0, 0))) ∧ Aside0 (Kept w wc (fun k_ => (Goto.None_ k_) ∨ k_ = g)) ∧ Aside0 (Below w0.heap.size w0 wc))
       case first =>
        have H := HC11.out; clear HC11
        by_cases c13 : x7_1 > 0
        ·
         rw [if_pos c13] at H
         have c13b0 : decide (0 < x7_1) = true := decide_eq_true c13
         clear c13
         (first | rw [c13b0] | (simp only [i64_w, i32_w]; rw [c13b0]) | skip)
         by_cases c14 : (wrap64 (bt x1000_1 x7_1)) = 0
         ·
          rw [if_pos c14] at H
          have c14b0 : ((wrap64 (bt x1000_1 x7_1)) == 0) = true := beq_iff_eq.mpr c14
          have c14b1 : ((wrap64 (bt x1000_1 x7_1)) != 0) = false := bne_eq_false_iff_eq.mpr c14
          clear c14
          have H' := Goto.m0 H
          clear H
          go_wp2
          go_meet
          case rel => exact ⟨_, (wrap64 (bt x1000_1 x7_1)), (true), (by first | rfl | (simp; done) | (simp [*]; done)), (by first | rfl | (simp; done) | (simp [*]; done)), H', ⟨by have := HK1.out; first | omega | exact Nat.le_refl _⟩, ⟨Goto.bx BK0⟩, ⟨by repeat (first | (with_reducible first | exact HK.out | apply Kept.alloc | apply Kept.drewN | apply Kept.drew | refine Kept.setCell ?_ (.inl (.inr rfl)) _) | exact HK.out)⟩, ⟨Goto.hx HB⟩⟩
         ·
          rw [if_neg c14] at H
          have c14b0 : ((wrap64 (bt x1000_1 x7_1)) == 0) = false := beq_eq_false_iff_ne.mpr c14
          have c14b1 : ((wrap64 (bt x1000_1 x7_1)) != 0) = true := bne_iff_ne.mpr c14
          by_cases c15 : x7_1 = 3
          ·
           rw [if_pos c15] at H
           have c15b0 : (x7_1 == 3) = true := beq_iff_eq.mpr c15
           have c15b1 : (x7_1 != 3) = false := bne_eq_false_iff_eq.mpr c15
           clear c15
           have H' := Goto.m0 H
           clear H
           go_wp2
           go_meet
           case rel => exact ⟨_, (wrap64 (bt x1000_1 x7_1)), (decide ((wrap64 (bt x1000_1 x7_1)) ≥ 128)), (by first | rfl | (simp; done) | (simp [*]; done)), (by first | rfl | (simp; done) | (simp [*]; done)), H', ⟨by have := HK1.out; first | omega | exact Nat.le_refl _⟩, ⟨Goto.bx BK0⟩, ⟨by repeat (first | (with_reducible first | exact HK.out | apply Kept.alloc | apply Kept.drewN | apply Kept.drew | refine Kept.setCell ?_ (.inl (.inr rfl)) _) | exact HK.out)⟩, ⟨Goto.hx HB⟩⟩
          ·
           rw [if_neg c15] at H
           have c15b0 : (x7_1 == 3) = false := beq_eq_false_iff_ne.mpr c15
           have c15b1 : (x7_1 != 3) = true := bne_iff_ne.mpr c15
           have H' := Goto.m0 H
           clear H
           go_wp2
           go_meet
           case rel => exact ⟨_, (wrap64 (bt x1000_1 x7_1)), (false), (by first | rfl | (simp; done) | (simp [*]; done)), (by first | rfl | (simp; done) | (simp [*]; done)), H', ⟨by have := HK1.out; first | omega | exact Nat.le_refl _⟩, ⟨Goto.bx BK0⟩, ⟨by repeat (first | (with_reducible first | exact HK.out | apply Kept.alloc | apply Kept.drewN | apply Kept.drew | refine Kept.setCell ?_ (.inl (.inr rfl)) _) | exact HK.out)⟩, ⟨Goto.hx HB⟩⟩
        ·
         rw [if_neg c13] at H
         have c13b0 : decide (0 < x7_1) = false := decide_eq_false c13
         clear c13
         (first | rw [c13b0] | (simp only [i64_w, i32_w]; rw [c13b0]) | skip)
         by_cases c16 : x7_1 = 3
         ·
          rw [if_pos c16] at H
          have c16b0 : (x7_1 == 3) = true := beq_iff_eq.mpr c16
          have c16b1 : (x7_1 != 3) = false := bne_eq_false_iff_eq.mpr c16
          clear c16
          have H' := Goto.m0 H
          clear H
          go_wp2
          go_meet
          case rel => exact ⟨_, (wrap64 (bt x1000_1 x7_1)), (decide ((wrap64 (bt x1000_1 x7_1)) ≥ 128)), (by first | rfl | (simp; done) | (simp [*]; done)), (by first | rfl | (simp; done) | (simp [*]; done)), H', ⟨by have := HK1.out; first | omega | exact Nat.le_refl _⟩, ⟨Goto.bx BK0⟩, ⟨by repeat (first | (with_reducible first | exact HK.out | apply Kept.alloc | apply Kept.drewN | apply Kept.drew | refine Kept.setCell ?_ (.inl (.inr rfl)) _) | exact HK.out)⟩, ⟨Goto.hx HB⟩⟩
         ·
          rw [if_neg c16] at H
          have c16b0 : (x7_1 == 3) = false := beq_eq_false_iff_ne.mpr c16
          have c16b1 : (x7_1 != 3) = true := bne_iff_ne.mpr c16
          have H' := Goto.m0 H
          clear H
          go_wp2
          go_meet
          case rel => exact ⟨_, (wrap64 (bt x1000_1 x7_1)), (false), (by first | rfl | (simp; done) | (simp [*]; done)), (by first | rfl | (simp; done) | (simp [*]; done)), H', ⟨by have := HK1.out; first | omega | exact Nat.le_refl _⟩, ⟨Goto.bx BK0⟩, ⟨by repeat (first | (with_reducible first | exact HK.out | apply Kept.alloc | apply Kept.drewN | apply Kept.drew | refine Kept.setCell ?_ (.inl (.inr rfl)) _) | exact HK.out)⟩, ⟨Goto.hx HB⟩⟩
       case rest =>
        clear HC11; try clear c1; try clear p1; try clear q1; try clear hx1; try clear p2; try clear c3; try clear c3b0; try clear c3b1; try clear c4; try clear c4b0; try clear p6; try clear c8; try clear c8b0; try clear c9; try clear c9b0; try clear p10; try clear q10; try clear hx10; try clear c13; try clear c13b0; try clear c14; try clear c14b0; try clear c14b1; try clear c15; try clear c15b0; try clear c15b1; try clear c16; try clear c16b0; try clear c16b1; try clear hcz12_0; try clear hcz12_1; try clear hcz6_0; try clear hcz6_1; try clear hfz12_0; try clear hfz12_1; try clear hfz6_0; try clear hfz6_1; try clear p10; try clear p2; try clear q10
        obtain ⟨kq, x8_10, x45_10, rfl, rfl, HA, HJ10, BK0, HK, HB⟩ := hcut
        cases kq with
        | zero => exact absurd HA.out (by simp [tontineref1_Reader_Num.j1])
        | succ kj10 =>
         have H := HA.out; clear HA
         simp only [tontineref1_Reader_Num.j1] at H
         by_cases c17 : x45_10 = true
         ·
          subst c17
          rw [if_pos rfl] at H
          replace H := Option.bind_eq_some_iff.mp H
          obtain ⟨⟨t181, t182⟩, A180, H⟩ := H
          replace H : (some (0, t181, t182)) = some (r1, r2, r3) := H
          have A18 := Goto.m0 A180
          clear A180
          simp only [Option.some.injEq, Prod.mk.injEq] at H
          obtain ⟨rfl, rfl, rfl⟩ := H
          go_wp2_with (first | ((with_reducible refine gate_callee (f := 34) rfl ?_); refine goesL_ (some 47) rfl rfl Tryd.func34 (by kernel_rfl) rfl #[.pointer (some ⟨g, 0, none⟩), .int .i64 10] rfl (by (try simp only [List.map_toArray, List.map_cons, List.map_nil]); first | done | rfl | (simp only [List.length_drop, List.length_take]; rfl)) ?_; (with_reducible refine (tontineref1_Reader_fails.calls g x1000_1 x1001_1 10 t181 t182 w0 _ ?side1 ?side2 ?side3 A18.out).mono ?_); (case side1 => exact by (with_reducible repeat first | refine blk_drewN ?_ _ | refine blk_drew ?_ | refine blk_alloc ?_ _); exact BK0.out); (case side2 => exact GE0.out); (case side3 => repeat (first | (with_reducible first | exact HB.out | apply below_alloc | apply pw_below_drewN | apply below_drew1 | refine below_set ?_ GE0.out) | exact HB.out)); rintro e w19 ⟨rfl, hi, hb, hkp⟩; refine ⟨_, rfl, ?_⟩; replace BK0 := Goto.m0 (hi); replace HK := Goto.m0 (Kept.then_ (S := (fun k_ => (Goto.None_ k_) ∨ k_ = g)) (by repeat (first | (with_reducible first | exact HK.out | apply Kept.alloc | apply Kept.drewN | apply Kept.drew | refine Kept.setCell ?_ (.inl (.inr rfl)) _) | exact HK.out)) hkp (fun k_ hs_ => Or.elim hs_ (fun hs_ => False.elim (show False from hs_)) (fun e_ => .inl (.inr e_)))); replace HB := Goto.m0 (hb); (try clear hb); (try clear hkp)))
          go_ret
          (try simp only [← exists_and_left])
          exact ⟨Goto.er, by (with_reducible repeat first | refine blk_drewN ?_ _ | refine blk_drew ?_ | refine blk_alloc ?_ _); exact BK0.out, by repeat (first | (with_reducible first | exact HB.out | apply below_alloc | apply pw_below_drewN | apply below_drew1 | refine below_set ?_ GE0.out) | exact HB.out), by repeat (first | (with_reducible first | exact HK.out | apply Kept.alloc | apply Kept.drewN | apply Kept.drew | refine Kept.setCell ?_ (.inl (.inr rfl)) _) | exact HK.out)⟩
         ·
          replace c17 := Bool.eq_false_iff.mpr c17
          subst c17
          rw [if_neg (show ¬ (false = true) by decide)] at H
          by_cases c20 : x8_10 < 128
          ·
           rw [if_pos c20] at H
           have c20b0 : decide (x8_10 < 128) = true := decide_eq_true c20
           clear c20
           by_cases c21 : (wrap64 ((wrap64 (x5_1 + (wrap64 ((Int.tmod x8_10 128) * x6_1)))) - 1)) > a1
           ·
            rw [if_pos c21] at H
            have c21b0 : decide (a1 < (wrap64 ((wrap64 (x5_1 + (wrap64 ((Int.tmod x8_10 128) * x6_1)))) - 1))) = true := decide_eq_true c21
            clear c21
            replace H := Option.bind_eq_some_iff.mp H
            obtain ⟨⟨t183, t184⟩, A220, H⟩ := H
            replace H : (some (0, t183, t184)) = some (r1, r2, r3) := H
            have A22 := Goto.m0 A220
            clear A220
            simp only [Option.some.injEq, Prod.mk.injEq] at H
            obtain ⟨rfl, rfl, rfl⟩ := H
            go_wp2_with (first | ((with_reducible refine gate_callee (f := 34) rfl ?_); refine goesL_ (some 63) rfl rfl Tryd.func34 (by kernel_rfl) rfl #[.pointer (some ⟨g, 0, none⟩), .int .i64 12] rfl (by (try simp only [List.map_toArray, List.map_cons, List.map_nil]); first | done | rfl | (simp only [List.length_drop, List.length_take]; rfl)) ?_; (with_reducible refine (tontineref1_Reader_fails.calls g x1000_1 x1001_1 12 t183 t184 w0 _ ?side1 ?side2 ?side3 A22.out).mono ?_); (case side1 => exact by (with_reducible repeat first | refine blk_drewN ?_ _ | refine blk_drew ?_ | refine blk_alloc ?_ _); exact BK0.out); (case side2 => exact GE0.out); (case side3 => repeat (first | (with_reducible first | exact HB.out | apply below_alloc | apply pw_below_drewN | apply below_drew1 | refine below_set ?_ GE0.out) | exact HB.out)); rintro e w23 ⟨rfl, hi, hb, hkp⟩; refine ⟨_, rfl, ?_⟩; replace BK0 := Goto.m0 (hi); replace HK := Goto.m0 (Kept.then_ (S := (fun k_ => (Goto.None_ k_) ∨ k_ = g)) (by repeat (first | (with_reducible first | exact HK.out | apply Kept.alloc | apply Kept.drewN | apply Kept.drew | refine Kept.setCell ?_ (.inl (.inr rfl)) _) | exact HK.out)) hkp (fun k_ hs_ => Or.elim hs_ (fun hs_ => False.elim (show False from hs_)) (fun e_ => .inl (.inr e_)))); replace HB := Goto.m0 (hb); (try clear hb); (try clear hkp)))
            go_ret
            (try simp only [← exists_and_left])
            exact ⟨Goto.er, by (with_reducible repeat first | refine blk_drewN ?_ _ | refine blk_drew ?_ | refine blk_alloc ?_ _); exact BK0.out, by repeat (first | (with_reducible first | exact HB.out | apply below_alloc | apply pw_below_drewN | apply below_drew1 | refine below_set ?_ GE0.out) | exact HB.out), by repeat (first | (with_reducible first | exact HK.out | apply Kept.alloc | apply Kept.drewN | apply Kept.drew | refine Kept.setCell ?_ (.inl (.inr rfl)) _) | exact HK.out)⟩
           ·
            rw [if_neg c21] at H
            have c21b0 : decide (a1 < (wrap64 ((wrap64 (x5_1 + (wrap64 ((Int.tmod x8_10 128) * x6_1)))) - 1))) = false := decide_eq_false c21
            clear c21
            obtain ⟨ji24, hji24⟩ : ∃ j_ : Int, (wrap64 (x7_1 + 1)) = j_ := ⟨_, rfl⟩
            replace H : (if 0 ≤ (ji24) then (if (ji24) ≤ (x1000_1.size : Int) then (some (wrap64 ((wrap64 (x5_1 + (wrap64 ((Int.tmod x8_10 128) * x6_1)))) - 1), x1000_1.extract ((ji24) : Int).toNat x1000_1.size, x1001_1)) else (none)) else (none)) = some (r1, r2, r3) := by first | (rw [hji24] at H; exact H) | (simp only [hji24] at H ⊢; exact H)
            have hji24w : (IntKind.i64.wrap (x7_1 + 1)) = ji24 := (i64_w _).trans hji24
            by_cases c25 : 0 ≤ (ji24)
            ·
             rw [if_pos c25] at H
             have c25b0 := eq_true c25
             have c25b1 : decide (0 ≤ (ji24)) = true := decide_eq_true c25
             clear c25
             by_cases c26 : (ji24) ≤ (x1000_1.size : Int)
             ·
              rw [if_pos c26] at H
              have c26b0 := eq_true c26
              have c26b1 : decide ((ji24) ≤ (x1000_1.size : Int)) = true := decide_eq_true c26
              clear c26
              simp only [Option.some.injEq, Prod.mk.injEq] at H
              obtain ⟨rfl, rfl, rfl⟩ := H
              have hcz27_0 := Goto.bc0 BK0; have hcz27_1 := Goto.bc1 BK0; have hfz27_0 := Goto.bf BK0 0; have hfz27_1 := Goto.bf BK0 1
              go_wp2_with (first | ((with_reducible refine gate_store (t := 9) (p := 73) rfl ?_); refine store_event (t := 9) (p := 73) (v := ?vo_w28) (w1 := (wc.setCell ⟨g, 0, none⟩ (.string (x1000_1.extract ((ji24) : Int).toNat x1000_1.size)))) ?hg ?ho ?hn ?hr ?_; (case ho => rfl); (case hg => rfl); (case hn => rfl); (case hr => first | (go_simp; done) | (go_simp; rfl)); intro w28 hw; have n0_ : Aside0 (w28.heap[g]? = some (.cells #[.string (x1000_1.extract ((ji24) : Int).toNat x1000_1.size), .int .i64 x1001_1] 36 (0, 0))) := ⟨(by rw [hw]; exact (Goto.bx BK0))⟩; have n1_ : Aside0 (Kept w w28 (fun k_ => (Goto.None_ k_) ∨ k_ = g)) := ⟨(by rw [hw]; exact (by repeat (first | (with_reducible first | exact HK.out | apply Kept.alloc | apply Kept.drewN | apply Kept.drew | refine Kept.setCell ?_ (.inl (.inr rfl)) _) | exact HK.out)))⟩; have n2_ : Aside0 (Below w0.heap.size w0 w28) := ⟨(by rw [hw]; exact (Goto.hx HB))⟩; clear hw; clear BK0; clear HK; clear HB; have BK0 := n0_; have HK := n1_; have HB := n2_; clear n0_ n1_ n2_))
              go_ret
              (try simp only [← exists_and_left])
              exact ⟨by first | rfl | (simp [errW_none, errW_some] <;> rfl) | (simp only [← hji24]; first | rfl | (simp [errW_none, errW_some] <;> rfl)) | (simp [*, errW_none, errW_some] <;> rfl), by (with_reducible repeat first | refine blk_drewN ?_ _ | refine blk_drew ?_ | refine blk_alloc ?_ _); exact BK0.out, by repeat (first | (with_reducible first | exact HB.out | apply below_alloc | apply pw_below_drewN | apply below_drew1 | refine below_set ?_ GE0.out) | exact HB.out), by repeat (first | (with_reducible first | exact HK.out | apply Kept.alloc | apply Kept.drewN | apply Kept.drew | refine Kept.setCell ?_ (.inl (.inr rfl)) _) | exact HK.out)⟩
             ·
              rw [if_neg c26] at H
              exact absurd H (by simp)
            ·
             rw [if_neg c25] at H
             exact absurd H (by simp)
          ·
           rw [if_neg c20] at H
           have c20b0 : decide (x8_10 < 128) = false := decide_eq_false c20
           clear c20
           have H' := Goto.m0 H
           clear H
           go_wp2
           go_roundg kj10
           case measure => have := HK1.out; have := HJ10.out; omega
           case rel => exact ⟨(wrap64 (x5_1 + (wrap64 ((Int.tmod x8_10 128) * x6_1)))), (wrap64 (x6_1 * 128)), (wrap64 (x7_1 + 1)), (x1000_1), (x1001_1), (by first | rfl | (simp; done) | (simp [*]; done)), (by first | rfl | (simp; done) | (simp [*]; done)), (by first | rfl | (simp; done) | (simp [*]; done)), H', ⟨by have := HK1.out; have := HJ10.out; omega⟩, ⟨Goto.bx BK0⟩, ⟨by repeat (first | (with_reducible first | exact HK.out | apply Kept.alloc | apply Kept.drewN | apply Kept.drew | refine Kept.setCell ?_ (.inl (.inr rfl)) _) | exact HK.out)⟩, ⟨Goto.hx HB⟩⟩
      ·
       rw [if_neg c9] at H
       exact absurd H (by simp)
     ·
      rw [if_neg c8] at H
      exact absurd H (by simp)
   ·
    rw [if_neg c3] at H
    have c3b0 : (x1001_1 == 0) = false := beq_eq_false_iff_ne.mpr c3
    have c3b1 : (x1001_1 != 0) = true := bne_iff_ne.mpr c3
    simp only [Option.some.injEq, Prod.mk.injEq] at H
    obtain ⟨rfl, rfl, rfl⟩ := H
    have hcz29_0 := Goto.bc0 BK0; have hcz29_1 := Goto.bc1 BK0; have hfz29_0 := Goto.bf BK0 0; have hfz29_1 := Goto.bf BK0 1
    go_wp2
    go_ret
    (try simp only [← exists_and_left])
    exact ⟨Goto.er, by (with_reducible repeat first | refine blk_drewN ?_ _ | refine blk_drew ?_ | refine blk_alloc ?_ _); exact BK0.out, by repeat (first | (with_reducible first | exact HB.out | apply below_alloc | apply pw_below_drewN | apply below_drew1 | refine below_set ?_ GE0.out) | exact HB.out), by repeat (first | (with_reducible first | exact HK.out | apply Kept.alloc | apply Kept.drewN | apply Kept.drew | refine Kept.setCell ?_ (.inl (.inr rfl)) _) | exact HK.out)⟩

end Go.Proofs.YtiejhnijfgdapaaDoor.P
