/- Printed by a program of this workplace (a turned copy of the kit's optional print), out of the translation; not trusted: Lean checks it. -/
import Derived.Test.YtiejhnijfgdapaaDoorPx0
import Derived.Test.YtiejhnijfgdapaaDoorPx6
namespace Go.Proofs.YtiejhnijfgdapaaDoor.P
open Go.RowKit Go.Proofs.YtiejhnijfgdapaaDoorW.PrintWords Go.Proofs.YtiejhnijfgdapaaDoorW.PrintLast Go.Proofs.YtiejhnijfgdapaaDoorW.PrintMore
attribute [local go_sem] max2_int min2_int max_two min_two max_three min_three max_four min_four   -- for this text's walks alone
set_option linter.unusedVariables false
set_option linter.unusedSimpArgs false

/-! ### tontineref1_Reader_Bits: function 16 -/
mutual
def tontineref1_Reader_Bits.j0 : Nat → Bool → ByteArray → Int → Option (Int × ByteArray × Int)
  | 0, _, _, _ => none
  | k + 1, x17, x1000, x1001 => if x17 = true then ((tontineref1_Reader_fails.f x1000 x1001 11).bind fun bt185 => (tontineref1_Reader_Bits.j1 k bt185.1 bt185.2)) else (tontineref1_Reader_Bits.j1 k x1000 x1001)
def tontineref1_Reader_Bits.j1 : Nat → ByteArray → Int → Option (Int × ByteArray × Int)
  | 0, _, _ => none
  | k + 1, x1000, x1001 => if x1001 = 0 then (tontineref1_Reader_Bits.l0 k 0 7 x1000 x1001) else (some (0, x1000, x1001))
def tontineref1_Reader_Bits.l0 : Nat → Int → Int → ByteArray → Int → Option (Int × ByteArray × Int)
  | 0, _, _, _, _ => none
  | k + 1, x3, x4, x1000, x1001 => if x4 ≥ 0 then (if 0 ≤ x4 then (if x4 < (x1000.size : Int) then (tontineref1_Reader_Bits.l0 k (Go.bits .or .u64 (IntKind.u64.wrap (x3 * 256)) (IntKind.u64.wrap (bt x1000 x4))) (wrap64 (x4 - 1)) x1000 x1001) else (none)) else (none)) else (if 8 ≤ (x1000.size : Int) then (some (x3, x1000.extract 8 x1000.size, x1001)) else (none))
end
def tontineref1_Reader_Bits.f (k : Nat) (a0_0 : ByteArray) (a0_1 : Int) : Option (Int × ByteArray × Int) := if a0_1 = 0 then (tontineref1_Reader_Bits.j0 k (decide ((a0_0.size : Int) < 8)) a0_0 a0_1) else (tontineref1_Reader_Bits.j0 k false a0_0 a0_1)
theorem tontineref1_Reader_Bits.mono_l : ∀ k, (∀ y0 y1 y2, LeO (tontineref1_Reader_Bits.j0 k y0 y1 y2) (tontineref1_Reader_Bits.j0 (k + 1) y0 y1 y2)) ∧ (∀ y0 y1, LeO (tontineref1_Reader_Bits.j1 k y0 y1) (tontineref1_Reader_Bits.j1 (k + 1) y0 y1)) ∧ (∀ y0 y1 y2 y3, LeO (tontineref1_Reader_Bits.l0 k y0 y1 y2 y3) (tontineref1_Reader_Bits.l0 (k + 1) y0 y1 y2 y3))
  | 0 => ⟨fun _ _ _ r h => by simp [tontineref1_Reader_Bits.j0] at h, fun _ _ r h => by simp [tontineref1_Reader_Bits.j1] at h, fun _ _ _ _ r h => by simp [tontineref1_Reader_Bits.l0] at h⟩
  | k + 1 => by
    obtain ⟨ih0, ih1, ih2⟩ := tontineref1_Reader_Bits.mono_l k
    refine ⟨?_, ?_, ?_⟩
    · intro y0 y1 y2
      unfold tontineref1_Reader_Bits.j0
      repeat' first
      | (with_reducible exact ih0 _ _ _)
      | (with_reducible exact ih1 _ _)
      | (with_reducible exact ih2 _ _ _ _)
      | (with_reducible exact LeO.refl _)
      | (with_reducible exact LeO.none _)
      | (with_reducible refine LeO.ite ?_ ?_)
      | (with_reducible refine LeO.bind ?_ (fun _ => ?_))
      | exact ih0 _ _ _
      | exact ih1 _ _
      | exact ih2 _ _ _ _
      | exact LeO.none _
      | refine LeO.ite ?_ ?_
      | refine LeO.bind ?_ (fun _ => ?_)
    · intro y0 y1
      unfold tontineref1_Reader_Bits.j1
      repeat' first
      | (with_reducible exact ih0 _ _ _)
      | (with_reducible exact ih1 _ _)
      | (with_reducible exact ih2 _ _ _ _)
      | (with_reducible exact LeO.refl _)
      | (with_reducible exact LeO.none _)
      | (with_reducible refine LeO.ite ?_ ?_)
      | (with_reducible refine LeO.bind ?_ (fun _ => ?_))
      | exact ih0 _ _ _
      | exact ih1 _ _
      | exact ih2 _ _ _ _
      | exact LeO.none _
      | refine LeO.ite ?_ ?_
      | refine LeO.bind ?_ (fun _ => ?_)
    · intro y0 y1 y2 y3
      unfold tontineref1_Reader_Bits.l0
      repeat' first
      | (with_reducible exact ih0 _ _ _)
      | (with_reducible exact ih1 _ _)
      | (with_reducible exact ih2 _ _ _ _)
      | (with_reducible exact LeO.refl _)
      | (with_reducible exact LeO.none _)
      | (with_reducible refine LeO.ite ?_ ?_)
      | (with_reducible refine LeO.bind ?_ (fun _ => ?_))
      | exact ih0 _ _ _
      | exact ih1 _ _
      | exact ih2 _ _ _ _
      | exact LeO.none _
      | refine LeO.ite ?_ ?_
      | refine LeO.bind ?_ (fun _ => ?_)
theorem tontineref1_Reader_Bits.mono : ∀ a0 a1 k, LeO (tontineref1_Reader_Bits.f k a0 a1) (tontineref1_Reader_Bits.f (k + 1) a0 a1) := by
 intro a0 a1 k
 obtain ⟨ih0, ih1, ih2⟩ := tontineref1_Reader_Bits.mono_l k
 unfold tontineref1_Reader_Bits.f
 repeat' first
   | (with_reducible exact ih0 _ _ _)
   | (with_reducible exact ih1 _ _)
   | (with_reducible exact ih2 _ _ _ _)
   | (with_reducible exact LeO.refl _)
   | (with_reducible exact LeO.none _)
   | (with_reducible refine LeO.ite ?_ ?_)
   | (with_reducible refine LeO.bind ?_ (fun _ => ?_))
   | exact ih0 _ _ _
   | exact ih1 _ _
   | exact ih2 _ _ _ _
   | exact LeO.none _
   | refine LeO.ite ?_ ?_
   | refine LeO.bind ?_ (fun _ => ?_)
set_option maxHeartbeats 8000000 in
set_option maxRecDepth 100000 in
theorem tontineref1_Reader_Bits.calls (k : Nat) (g : Nat) (a0_0 : ByteArray) (a0_1 : Int) (r1 : Int) (r2 : ByteArray) (r3 : Int) (w0 w : World) (hI : w.heap[g]? = some (.cells #[.string a0_0, .int .i64 a0_1] 36 (0, 0))) (hG : w0.heap.size ≤ g) (hB : Below w0.heap.size w0 w) (h : tontineref1_Reader_Bits.f k a0_0 a0_1 = some (r1, r2, r3)) :
    Calls Tryd.prog 16 #[.pointer (some ⟨g, 0, none⟩)] w fun e w' => e = .returned (.int .u64 r1) ∧ w'.heap[g]? = some (.cells #[.string r2, .int .i64 r3] 36 (0, 0)) ∧ Below w0.heap.size w0 w' ∧ Kept w w' (fun k_ => (Goto.None_ k_) ∨ k_ = g) := by
 have BK0 := Goto.m0 hI
 have GE0 := Goto.m0 hG
 clear hI hG
 have HK := Goto.m0 (Kept.refl w (fun k_ => (Goto.None_ k_) ∨ k_ = g))
 have HW0 := Goto.m0 hB.size
 have HB := Goto.m0 hB
 clear hB
 have H : (if a0_1 = 0 then (tontineref1_Reader_Bits.j0 k (decide ((a0_0.size : Int) < 8)) a0_0 a0_1) else (tontineref1_Reader_Bits.j0 k false a0_0 a0_1)) = some (r1, r2, r3) := h
 clear h
 have HC2 := Goto.m0 H
 clear H
 go_enter Tryd.func16, Tryd.ntmps16
 go_upto_region 1 with (fail)
 go_cut [9, 10, 17] (fun v9 v10 v17 wc => ∃ (kq : Nat) (x17_1 : Bool), v17 = .bool x17_1 ∧ Aside0 (tontineref1_Reader_Bits.j0 kq x17_1 a0_0 a0_1 = some (r1, r2, r3)) ∧ Aside0 (kq ≤ k) ∧ Aside0 (wc.heap[g]? = some (.cells #[.string a0_0, .int .i64 a0_1] 36 (0, 0))) ∧ Aside0 (Kept w wc (fun k_ => (Goto.None_ k_) ∨ k_ = g)) ∧ Aside0 (Below w0.heap.size w0 wc))
 case first =>
  have H := HC2.out; clear HC2
  by_cases c3 : a0_1 = 0
  ·
   rw [if_pos c3] at H
   have c3b0 : (a0_1 == 0) = true := beq_iff_eq.mpr c3
   have c3b1 : (a0_1 != 0) = false := bne_eq_false_iff_eq.mpr c3
   clear c3
   (first | rw [c3b0] | (simp only [i64_w, i32_w]; rw [c3b0]) | skip)
   have H' := Goto.m0 H
   clear H; have hcz4_0 := Goto.bc0 BK0; have hcz4_1 := Goto.bc1 BK0; have hfz4_0 := Goto.bf BK0 0; have hfz4_1 := Goto.bf BK0 1
   go_wp2
   go_meet
   case rel => exact ⟨_, (decide ((a0_0.size : Int) < 8)), (by first | rfl | (simp; done) | (simp [*]; done)), H', ⟨by first | omega | exact Nat.le_refl _⟩, ⟨Goto.bx BK0⟩, ⟨by repeat (first | (with_reducible first | exact HK.out | apply Kept.alloc | apply Kept.drewN | apply Kept.drew | refine Kept.setCell ?_ (.inl (.inr rfl)) _) | exact HK.out)⟩, ⟨Goto.hx HB⟩⟩
  ·
   rw [if_neg c3] at H
   have c3b0 : (a0_1 == 0) = false := beq_eq_false_iff_ne.mpr c3
   have c3b1 : (a0_1 != 0) = true := bne_iff_ne.mpr c3
   (first | rw [c3b0] | (simp only [i64_w, i32_w]; rw [c3b0]) | skip)
   have H' := Goto.m0 H
   clear H; have hcz5_0 := Goto.bc0 BK0; have hcz5_1 := Goto.bc1 BK0; have hfz5_0 := Goto.bf BK0 0; have hfz5_1 := Goto.bf BK0 1
   go_wp2
   go_meet
   case rel => exact ⟨_, (false), (by first | rfl | (simp; done) | (simp [*]; done)), H', ⟨by first | omega | exact Nat.le_refl _⟩, ⟨Goto.bx BK0⟩, ⟨by repeat (first | (with_reducible first | exact HK.out | apply Kept.alloc | apply Kept.drewN | apply Kept.drew | refine Kept.setCell ?_ (.inl (.inr rfl)) _) | exact HK.out)⟩, ⟨Goto.hx HB⟩⟩
 case rest =>
  clear HC2; try clear c1; try clear p2; try clear c3; try clear c3b0; try clear c3b1; try clear hcz4_0; try clear hcz4_1; try clear hcz5_0; try clear hcz5_1; try clear hfz4_0; try clear hfz4_1; try clear hfz5_0; try clear hfz5_1
  obtain ⟨kq, x17_1, rfl, HA, HJ1, BK0, HK, HB⟩ := hcut
  cases kq with
  | zero => exact absurd HA.out (by simp [tontineref1_Reader_Bits.j0])
  | succ kj1 =>
   have H := HA.out; clear HA
   simp only [tontineref1_Reader_Bits.j0] at H
   have HC6 := Goto.m0 H
   clear H
   go_upto_if 17 with (fail)
   go_cut [] (fun wc => ∃ (kq : Nat) (x1000_5 : ByteArray) (x1001_5 : Int), Aside0 (tontineref1_Reader_Bits.j1 kq x1000_5 x1001_5 = some (r1, r2, r3)) ∧ Aside0 (kq ≤ kj1) ∧ Aside0 (wc.heap[g]? = some (.cells #[.string x1000_5, .int .i64 x1001_5] 36 (0, 0))) ∧ Aside0 (Kept w wc (fun k_ => (Goto.None_ k_) ∨ k_ = g)) ∧ Aside0 (Below w0.heap.size w0 wc))
   case first =>
    have H := HC6.out; clear HC6
    by_cases c7 : x17_1 = true
    ·
     subst c7
     rw [if_pos rfl] at H
     replace H := Option.bind_eq_some_iff.mp H
     obtain ⟨⟨t185, t186⟩, A80, H⟩ := H
     replace H : (tontineref1_Reader_Bits.j1 kj1 t185 t186) = some (r1, r2, r3) := H
     have A8 := Goto.m0 A80
     clear A80
     have H' := Goto.m0 H
     clear H
     go_wp2_with (first | ((with_reducible refine gate_callee (f := 34) rfl ?_); refine goesL_ (some 19) rfl rfl Tryd.func34 (by kernel_rfl) rfl #[.pointer (some ⟨g, 0, none⟩), .int .i64 11] rfl (by (try simp only [List.map_toArray, List.map_cons, List.map_nil]); first | done | rfl | (simp only [List.length_drop, List.length_take]; rfl)) ?_; (with_reducible refine (tontineref1_Reader_fails.calls g a0_0 a0_1 11 t185 t186 w0 _ ?side1 ?side2 ?side3 A8.out).mono ?_); (case side1 => exact by (with_reducible repeat first | refine blk_drewN ?_ _ | refine blk_drew ?_ | refine blk_alloc ?_ _); exact BK0.out); (case side2 => exact GE0.out); (case side3 => repeat (first | (with_reducible first | exact HB.out | apply below_alloc | apply pw_below_drewN | apply below_drew1 | refine below_set ?_ GE0.out) | exact HB.out)); rintro e w9 ⟨rfl, hi, hb, hkp⟩; refine ⟨_, rfl, ?_⟩; replace BK0 := Goto.m0 (hi); replace HK := Goto.m0 (Kept.then_ (S := (fun k_ => (Goto.None_ k_) ∨ k_ = g)) (by repeat (first | (with_reducible first | exact HK.out | apply Kept.alloc | apply Kept.drewN | apply Kept.drew | refine Kept.setCell ?_ (.inl (.inr rfl)) _) | exact HK.out)) hkp (fun k_ hs_ => Or.elim hs_ (fun hs_ => False.elim (show False from hs_)) (fun e_ => .inl (.inr e_)))); replace HB := Goto.m0 (hb); (try clear hb); (try clear hkp)))
     go_meet
     case rel => exact ⟨_, (t185), (t186), H', ⟨by have := HJ1.out; first | omega | exact Nat.le_refl _⟩, ⟨Goto.bx BK0⟩, ⟨by repeat (first | (with_reducible first | exact HK.out | apply Kept.alloc | apply Kept.drewN | apply Kept.drew | refine Kept.setCell ?_ (.inl (.inr rfl)) _) | exact HK.out)⟩, ⟨Goto.hx HB⟩⟩
    ·
     replace c7 := Bool.eq_false_iff.mpr c7
     subst c7
     rw [if_neg (show ¬ (false = true) by decide)] at H
     have H' := Goto.m0 H
     clear H
     go_wp2
     go_meet
     case rel => exact ⟨_, (a0_0), (a0_1), H', ⟨by have := HJ1.out; first | omega | exact Nat.le_refl _⟩, ⟨Goto.bx BK0⟩, ⟨by repeat (first | (with_reducible first | exact HK.out | apply Kept.alloc | apply Kept.drewN | apply Kept.drew | refine Kept.setCell ?_ (.inl (.inr rfl)) _) | exact HK.out)⟩, ⟨Goto.hx HB⟩⟩
   case rest =>
    clear HC6; try clear c1; try clear p2; try clear c3; try clear c3b0; try clear c3b1; try clear c7; try clear hcz4_0; try clear hcz4_1; try clear hcz5_0; try clear hcz5_1; try clear hfz4_0; try clear hfz4_1; try clear hfz5_0; try clear hfz5_1; try clear p2
    obtain ⟨kq, x1000_5, x1001_5, HA, HJ5, BK0, HK, HB⟩ := hcut
    cases kq with
    | zero => exact absurd HA.out (by simp [tontineref1_Reader_Bits.j1])
    | succ kj5 =>
     have H := HA.out; clear HA
     simp only [tontineref1_Reader_Bits.j1] at H
     by_cases c10 : x1001_5 = 0
     ·
      rw [if_pos c10] at H
      have c10b0 : (x1001_5 == 0) = true := beq_iff_eq.mpr c10
      have c10b1 : (x1001_5 != 0) = false := bne_eq_false_iff_eq.mpr c10
      clear c10
      have H' := Goto.m0 H
      clear H; have hcz11_0 := Goto.bc0 BK0; have hcz11_1 := Goto.bc1 BK0; have hfz11_0 := Goto.bf BK0 0; have hfz11_1 := Goto.bf BK0 1
      go_wp2
      go_loopg [3, 4] kj5 (fun kq v3 v4 w' => ∃ (x3_3 : Int) (x4_3 : Int), v3 = .int .u64 x3_3 ∧ v4 = .int .i64 x4_3 ∧ Aside0 (tontineref1_Reader_Bits.l0 kq x3_3 x4_3 x1000_5 x1001_5 = some (r1, r2, r3)) ∧ Aside0 (kq ≤ kj5) ∧ Aside0 (w'.heap[g]? = some (.cells #[.string x1000_5, .int .i64 x1001_5] 36 (0, 0))) ∧ Aside0 (Kept w w' (fun k_ => (Goto.None_ k_) ∨ k_ = g)) ∧ Aside0 (Below w0.heap.size w0 w'))
      case atStart => exact ⟨(0), (7), (by first | rfl | (simp; done) | (simp [*]; done)), (by first | rfl | (simp; done) | (simp [*]; done)), H', ⟨Nat.le_refl _⟩, ⟨Goto.bx BK0⟩, ⟨by repeat (first | (with_reducible first | exact HK.out | apply Kept.alloc | apply Kept.drewN | apply Kept.drew | refine Kept.setCell ?_ (.inl (.inr rfl)) _) | exact HK.out)⟩, ⟨Goto.hx HB⟩⟩
      case round =>
       clear H'
       try clear c1; try clear p2; try clear c3; try clear c3b0; try clear c3b1; try clear c7; try clear c10; try clear c10b0; try clear c10b1; try clear hcz11_0; try clear hcz11_1; try clear hcz4_0; try clear hcz4_1; try clear hcz5_0; try clear hcz5_1; try clear hfz11_0; try clear hfz11_1; try clear hfz4_0; try clear hfz4_1; try clear hfz5_0; try clear hfz5_1; try clear p2
       obtain ⟨x3_3, x4_3, rfl, rfl, HA, HK3, BK0, HK, HB⟩ := hrel
       cases gk with
       | zero => exact absurd HA.out (by simp [tontineref1_Reader_Bits.l0])
       | succ k3 =>
        have H := HA.out; clear HA
        simp only [tontineref1_Reader_Bits.l0] at H
        by_cases c12 : x4_3 ≥ 0
        ·
         rw [if_pos c12] at H
         have c12b0 : decide (0 ≤ x4_3) = true := decide_eq_true c12
         clear c12
         by_cases c13 : 0 ≤ x4_3
         ·
          rw [if_pos c13] at H
          have c13b0 : decide (0 ≤ x4_3) = true := decide_eq_true c13
          clear c13
          by_cases c14 : x4_3 < (x1000_5.size : Int)
          ·
           rw [if_pos c14] at H
           have c14b0 : decide (x4_3 < (x1000_5.size : Int)) = true := decide_eq_true c14
           clear c14
           have H' := Goto.m0 H
           clear H; have hcz16_0 := Goto.bc0 BK0; have hcz16_1 := Goto.bc1 BK0; have hfz16_0 := Goto.bf BK0 0; have hfz16_1 := Goto.bf BK0 1
           have p15 : 0 ≤ (x4_3 : Int) := Goto.od
           have q15 : x4_3 < (x1000_5.size : Int) := Goto.od
           have hx15 := bt_at x1000_5 x4_3
           replace p15 := eq_true p15; replace q15 := eq_true q15
           go_wp2
           go_roundg k3
           case measure => have := HJ1.out; have := HJ5.out; have := HK3.out; omega
           case rel => exact ⟨(Go.bits .or .u64 (IntKind.u64.wrap (x3_3 * 256)) (IntKind.u64.wrap (bt x1000_5 x4_3))), (wrap64 (x4_3 - 1)), (by first | rfl | (simp; done) | (simp [*]; done)), (by first | rfl | (simp; done) | (simp [*]; done)), H', ⟨by have := HJ1.out; have := HJ5.out; have := HK3.out; omega⟩, ⟨Goto.bx BK0⟩, ⟨by repeat (first | (with_reducible first | exact HK.out | apply Kept.alloc | apply Kept.drewN | apply Kept.drew | refine Kept.setCell ?_ (.inl (.inr rfl)) _) | exact HK.out)⟩, ⟨Goto.hx HB⟩⟩
          ·
           rw [if_neg c14] at H
           exact absurd H (by simp)
         ·
          rw [if_neg c13] at H
          exact absurd H (by simp)
        ·
         rw [if_neg c12] at H
         have c12b0 : decide (0 ≤ x4_3) = false := decide_eq_false c12
         clear c12
         by_cases c17 : 8 ≤ (x1000_5.size : Int)
         ·
          rw [if_pos c17] at H
          have c17b0 := eq_true c17
          have c17b1 : decide (8 ≤ (x1000_5.size : Int)) = true := decide_eq_true c17
          clear c17
          simp only [Option.some.injEq, Prod.mk.injEq] at H
          obtain ⟨rfl, rfl, rfl⟩ := H
          have hcz18_0 := Goto.bc0 BK0; have hcz18_1 := Goto.bc1 BK0; have hfz18_0 := Goto.bf BK0 0; have hfz18_1 := Goto.bf BK0 1
          go_wp2_with (first | ((with_reducible refine gate_store (t := 9) (p := 46) rfl ?_); refine store_event (t := 9) (p := 46) (v := ?vo_w19) (w1 := (wr.setCell ⟨g, 0, none⟩ (.string (x1000_5.extract 8 x1000_5.size)))) ?hg ?ho ?hn ?hr ?_; (case ho => rfl); (case hg => rfl); (case hn => rfl); (case hr => first | (go_simp; done) | (go_simp; rfl)); intro w19 hw; have n0_ : Aside0 (w19.heap[g]? = some (.cells #[.string (x1000_5.extract 8 x1000_5.size), .int .i64 x1001_5] 36 (0, 0))) := ⟨(by rw [hw]; exact (Goto.bx BK0))⟩; have n1_ : Aside0 (Kept w w19 (fun k_ => (Goto.None_ k_) ∨ k_ = g)) := ⟨(by rw [hw]; exact (by repeat (first | (with_reducible first | exact HK.out | apply Kept.alloc | apply Kept.drewN | apply Kept.drew | refine Kept.setCell ?_ (.inl (.inr rfl)) _) | exact HK.out)))⟩; have n2_ : Aside0 (Below w0.heap.size w0 w19) := ⟨(by rw [hw]; exact (Goto.hx HB))⟩; clear hw; clear BK0; clear HK; clear HB; have BK0 := n0_; have HK := n1_; have HB := n2_; clear n0_ n1_ n2_))
          go_ret
          (try simp only [← exists_and_left])
          exact ⟨Goto.er, by (with_reducible repeat first | refine blk_drewN ?_ _ | refine blk_drew ?_ | refine blk_alloc ?_ _); exact BK0.out, by repeat (first | (with_reducible first | exact HB.out | apply below_alloc | apply pw_below_drewN | apply below_drew1 | refine below_set ?_ GE0.out) | exact HB.out), by repeat (first | (with_reducible first | exact HK.out | apply Kept.alloc | apply Kept.drewN | apply Kept.drew | refine Kept.setCell ?_ (.inl (.inr rfl)) _) | exact HK.out)⟩
         ·
          rw [if_neg c17] at H
          exact absurd H (by simp)
     ·
      rw [if_neg c10] at H
      have c10b0 : (x1001_5 == 0) = false := beq_eq_false_iff_ne.mpr c10
      have c10b1 : (x1001_5 != 0) = true := bne_iff_ne.mpr c10
      simp only [Option.some.injEq, Prod.mk.injEq] at H
      obtain ⟨rfl, rfl, rfl⟩ := H
      have hcz20_0 := Goto.bc0 BK0; have hcz20_1 := Goto.bc1 BK0; have hfz20_0 := Goto.bf BK0 0; have hfz20_1 := Goto.bf BK0 1
      go_wp2
      go_ret
      (try simp only [← exists_and_left])
      exact ⟨Goto.er, by (with_reducible repeat first | refine blk_drewN ?_ _ | refine blk_drew ?_ | refine blk_alloc ?_ _); exact BK0.out, by repeat (first | (with_reducible first | exact HB.out | apply below_alloc | apply pw_below_drewN | apply below_drew1 | refine below_set ?_ GE0.out) | exact HB.out), by repeat (first | (with_reducible first | exact HK.out | apply Kept.alloc | apply Kept.drewN | apply Kept.drew | refine Kept.setCell ?_ (.inl (.inr rfl)) _) | exact HK.out)⟩

-- NOT PRINTED: function 46 (reflectlite_ValueOf)

-- NOT PRINTED: function 47 (reflectlite_Value_Type)

-- NOT PRINTED: function 48 (reflectlite_Value_IsNil)

-- NOT PRINTED: function 52 (reflectlite_Value_Elem)

-- NOT PRINTED: function 53 (reflectlite_Value_Set)

-- NOT PRINTED: function 49 (errors_as)

-- NOT PRINTED: function 35 (errors_As)

end Go.Proofs.YtiejhnijfgdapaaDoor.P
