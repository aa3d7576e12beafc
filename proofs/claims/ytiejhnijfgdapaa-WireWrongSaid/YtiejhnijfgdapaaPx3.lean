/- Printed by a program of this workplace (a turned copy of the kit's optional print), out of the translation; not trusted: Lean checks it. -/
import Derived.Test.YtiejhnijfgdapaaPx0
import Derived.Test.YtiejhnijfgdapaaPx2
namespace Go.Proofs.Ytiejhnijfgdapaa.P
open Go.RowKit Go.Proofs.YtiejhnijfgdapaaW.PrintWords Go.Proofs.YtiejhnijfgdapaaW.PrintLast Go.Proofs.YtiejhnijfgdapaaW.PrintMore
attribute [local go_sem] max2_int min2_int max_two min_two max_three min_three max_four min_four   -- for this text's walks alone
set_option linter.unusedVariables false
set_option linter.unusedSimpArgs false

/-! ### wire_Reader_Num: function 15 -/
mutual
def wire_Reader_Num.j0 : Nat → Int → Int → Option Int → Bool → ByteArray → Option Int → Option (Int × ByteArray × Option Int)
  | 0, _, _, _, _, _, _ => none
  | k + 1, x5, x6, x7, x28, x1000, x1001 => if x28 = true then (wire_Reader_Num.j1 k x5 x6 (some 12) x1000 x1001) else (wire_Reader_Num.j1 k x5 x6 x7 x1000 x1001)
def wire_Reader_Num.j1 : Nat → Int → Int → Option Int → ByteArray → Option Int → Option (Int × ByteArray × Option Int)
  | 0, _, _, _, _, _ => none
  | k + 1, x5, x6, x7, x1000, x1001 => if x7.isNone = true then (if 0 ≤ x6 then (if x6 ≤ (x1000.size : Int) then (some (x5, x1000.extract (x6 : Int).toNat x1000.size, x1001)) else (none)) else (none)) else (some (0, x1000, some (x7.getD 0)))
end
def wire_Reader_Num.f (k : Nat) (a0_0 : ByteArray) (a0_1 : Option Int) (a1 : Int) : Option (Int × ByteArray × Option Int) := if a0_1.isNone = true then ((wire_number.f k a0_0).bind fun bt113 => (if bt113.2.2.isNone = true then (wire_Reader_Num.j0 k bt113.1 bt113.2.1 none (decide (bt113.1 > a1)) a0_0 none) else (wire_Reader_Num.j0 k bt113.1 bt113.2.1 (some (bt113.2.2.getD 0)) false a0_0 none))) else (some (0, a0_0, some (a0_1.getD 0)))
theorem wire_Reader_Num.mono_l : ∀ k, (∀ y0 y1 y2 y3 y4 y5, LeO (wire_Reader_Num.j0 k y0 y1 y2 y3 y4 y5) (wire_Reader_Num.j0 (k + 1) y0 y1 y2 y3 y4 y5)) ∧ (∀ y0 y1 y2 y3 y4, LeO (wire_Reader_Num.j1 k y0 y1 y2 y3 y4) (wire_Reader_Num.j1 (k + 1) y0 y1 y2 y3 y4))
  | 0 => ⟨fun _ _ _ _ _ _ r h => by simp [wire_Reader_Num.j0] at h, fun _ _ _ _ _ r h => by simp [wire_Reader_Num.j1] at h⟩
  | k + 1 => by
    obtain ⟨ih0, ih1⟩ := wire_Reader_Num.mono_l k
    refine ⟨?_, ?_⟩
    · intro y0 y1 y2 y3 y4 y5
      unfold wire_Reader_Num.j0
      repeat' first
      | (with_reducible exact ih0 _ _ _ _ _ _)
      | (with_reducible exact ih1 _ _ _ _ _)
      | (with_reducible exact wire_number.mono _ _)
      | (with_reducible exact LeO.refl _)
      | (with_reducible exact LeO.none _)
      | (with_reducible refine LeO.ite ?_ ?_)
      | (with_reducible refine LeO.bind ?_ (fun _ => ?_))
      | exact ih0 _ _ _ _ _ _
      | exact ih1 _ _ _ _ _
      | exact wire_number.mono _ _
      | exact LeO.none _
      | refine LeO.ite ?_ ?_
      | refine LeO.bind ?_ (fun _ => ?_)
    · intro y0 y1 y2 y3 y4
      unfold wire_Reader_Num.j1
      repeat' first
      | (with_reducible exact ih0 _ _ _ _ _ _)
      | (with_reducible exact ih1 _ _ _ _ _)
      | (with_reducible exact wire_number.mono _ _)
      | (with_reducible exact LeO.refl _)
      | (with_reducible exact LeO.none _)
      | (with_reducible refine LeO.ite ?_ ?_)
      | (with_reducible refine LeO.bind ?_ (fun _ => ?_))
      | exact ih0 _ _ _ _ _ _
      | exact ih1 _ _ _ _ _
      | exact wire_number.mono _ _
      | exact LeO.none _
      | refine LeO.ite ?_ ?_
      | refine LeO.bind ?_ (fun _ => ?_)
theorem wire_Reader_Num.mono : ∀ a0 a1 a2 k, LeO (wire_Reader_Num.f k a0 a1 a2) (wire_Reader_Num.f (k + 1) a0 a1 a2) := by
 intro a0 a1 a2 k
 obtain ⟨ih0, ih1⟩ := wire_Reader_Num.mono_l k
 unfold wire_Reader_Num.f
 repeat' first
   | (with_reducible exact ih0 _ _ _ _ _ _)
   | (with_reducible exact ih1 _ _ _ _ _)
   | (with_reducible exact wire_number.mono _ _)
   | (with_reducible exact LeO.refl _)
   | (with_reducible exact LeO.none _)
   | (with_reducible refine LeO.ite ?_ ?_)
   | (with_reducible refine LeO.bind ?_ (fun _ => ?_))
   | exact ih0 _ _ _ _ _ _
   | exact ih1 _ _ _ _ _
   | exact wire_number.mono _ _
   | exact LeO.none _
   | refine LeO.ite ?_ ?_
   | refine LeO.bind ?_ (fun _ => ?_)
set_option maxHeartbeats 8000000 in
set_option maxRecDepth 100000 in
theorem wire_Reader_Num.calls (k : Nat) (g : Nat) (a0_0 : ByteArray) (a0_1 : Option Int) (a1 : Int) (r1 : Int) (r2 : ByteArray) (r3 : Option Int) (w0 w : World) (hI : w.heap[g]? = some (.cells #[.string a0_0, errW a0_1] 68 (0, 0))) (hG : w0.heap.size ≤ g) (hB : Below w0.heap.size w0 w) (h : wire_Reader_Num.f k a0_0 a0_1 a1 = some (r1, r2, r3)) :
    Calls Try.prog 15 #[.pointer (some ⟨g, 0, none⟩), .int .i64 a1] w fun e w' => e = .returned (.int .i64 r1) ∧ w'.heap[g]? = some (.cells #[.string r2, errW r3] 68 (0, 0)) ∧ Below w0.heap.size w0 w' ∧ Kept w w' (fun k_ => (Goto.None_ k_) ∨ k_ = g) := by
 have hu37 := Try.underlying37; have hu42 := Try.underlying42
 have BK0 := Goto.m0 hI
 have GE0 := Goto.m0 hG
 clear hI hG
 have HK := Goto.m0 (Kept.refl w (fun k_ => (Goto.None_ k_) ∨ k_ = g))
 have HW0 := Goto.m0 hB.size
 have HB := Goto.m0 hB
 clear hB
 have H : (if a0_1.isNone = true then ((wire_number.f k a0_0).bind fun bt113 => (if bt113.2.2.isNone = true then (wire_Reader_Num.j0 k bt113.1 bt113.2.1 none (decide (bt113.1 > a1)) a0_0 none) else (wire_Reader_Num.j0 k bt113.1 bt113.2.1 (some (bt113.2.2.getD 0)) false a0_0 none))) else (some (0, a0_0, some (a0_1.getD 0)))) = some (r1, r2, r3) := h
 clear h
 rcases a0_1 with _ | q112
 ·
  have H1 : ((wire_number.f k a0_0).bind fun bt113 => (if bt113.2.2.isNone = true then (wire_Reader_Num.j0 k bt113.1 bt113.2.1 none (decide (bt113.1 > a1)) a0_0 none) else (wire_Reader_Num.j0 k bt113.1 bt113.2.1 (some (bt113.2.2.getD 0)) false a0_0 none))) = some (r1, r2, r3) := by rw [if_pos (show (none : Option Int).isNone = true by rfl)] at H; exact H
  clear H; have H := H1; clear H1
  try simp only [errW_none, errW_some]
  replace H := Option.bind_eq_some_iff.mp H
  obtain ⟨⟨t113, t114, t115⟩, A30, H⟩ := H
  replace H : (if t115.isNone = true then (wire_Reader_Num.j0 k t113 t114 none (decide (t113 > a1)) a0_0 none) else (wire_Reader_Num.j0 k t113 t114 (some (t115.getD 0)) false a0_0 none)) = some (r1, r2, r3) := H
  have A3 := Goto.m0 A30
  clear A30
  have HC4 := Goto.m0 H
  clear H; have hcz5_0 := Goto.bc0 BK0; have hcz5_1 := Goto.bc1 BK0; (try simp only [errW_none, errW_some] at hcz5_1); have hfz5_0 := Goto.bf BK0 0; have hfz5_1 := Goto.bf BK0 1
  go_enter Try.func15, Try.ntmps15
  go_upto_region 4 with (first | ((with_reducible refine gate_callee (f := 27) rfl ?_); refine goesL_ (some 18) rfl rfl Try.func27 (by kernel_rfl) rfl #[.string a0_0] rfl (by (try simp only [List.map_toArray, List.map_cons, List.map_nil]); first | done | rfl | (simp only [List.length_drop, List.length_take]; rfl)) ?_; (with_reducible refine (wire_number.calls k a0_0 t113 t114 t115 _ A3.out).mono ?_); rintro e w' ⟨rfl, ⟨nd, rfl⟩⟩; refine ⟨_, rfl, ?_⟩; (try simp only [errW_none, errW_some])))
  (try simp only [Act.put, List.setIfInBounds_toArray, List.set_cons_zero, List.set_cons_succ])
  go_cut [28] (fun v28 wc => ∃ (kq : Nat) (x28_3 : Bool), v28 = .bool x28_3 ∧ Aside0 (wire_Reader_Num.j0 kq t113 t114 t115 x28_3 a0_0 none = some (r1, r2, r3)) ∧ Aside0 (kq ≤ k) ∧ Aside0 (wc.heap[g]? = some (.cells #[.string a0_0, errW none] 68 (0, 0))) ∧ Aside0 (Kept w wc (fun k_ => (Goto.None_ k_) ∨ k_ = g)) ∧ Aside0 (Below w0.heap.size w0 wc))
  case first =>
   have H := HC4.out; clear HC4
   rcases t115 with _ | q116
   ·
    have H1 : (wire_Reader_Num.j0 k t113 t114 none (decide (t113 > a1)) a0_0 none) = some (r1, r2, r3) := by rw [if_pos (show (none : Option Int).isNone = true by rfl)] at H; exact H
    clear H; have H := H1; clear H1
    try simp only [errW_none, errW_some]
    have H' := Goto.m0 H
    clear H
    go_wp2
    go_meet
    case rel => exact ⟨_, (decide (t113 > a1)), (by first | rfl | (simp; done) | (simp [*]; done)), H', ⟨by first | omega | exact Nat.le_refl _⟩, ⟨Goto.bx BK0⟩, ⟨by repeat (first | (with_reducible first | exact HK.out | apply Kept.alloc | apply Kept.drewN | apply Kept.drew | refine Kept.setCell ?_ (.inl (.inr rfl)) _) | exact HK.out)⟩, ⟨Goto.hx HB⟩⟩
   ·
    have H1 : (wire_Reader_Num.j0 k t113 t114 (some q116) false a0_0 none) = some (r1, r2, r3) := by rw [if_neg (show ¬ (some q116).isNone = true by simp)] at H; exact H
    clear H; have H := H1; clear H1
    try simp only [errW_none, errW_some]
    have H' := Goto.m0 H
    clear H
    go_wp2
    go_meet
    case rel => exact ⟨_, (false), (by first | rfl | (simp; done) | (simp [*]; done)), H', ⟨by first | omega | exact Nat.le_refl _⟩, ⟨Goto.bx BK0⟩, ⟨by repeat (first | (with_reducible first | exact HK.out | apply Kept.alloc | apply Kept.drewN | apply Kept.drew | refine Kept.setCell ?_ (.inl (.inr rfl)) _) | exact HK.out)⟩, ⟨Goto.hx HB⟩⟩
  case rest =>
   clear HC4; try clear c1; try clear q1; try clear c2; try clear p2; try clear hcz5_0; try clear hcz5_1; try clear hfz5_0; try clear hfz5_1; try clear q112; try clear q116
   obtain ⟨kq, x28_3, rfl, HA, HJ3, BK0, HK, HB⟩ := hcut
   cases kq with
   | zero => exact absurd HA.out (by simp [wire_Reader_Num.j0])
   | succ kj3 =>
    have H := HA.out; clear HA
    simp only [wire_Reader_Num.j0] at H
    have HC6 := Goto.m0 H
    clear H
    go_upto_if 28 with (fail)
    go_cut [7] (fun v7 wc => ∃ (kq : Nat) (x7_5 : Option Int), v7 = errW x7_5 ∧ Aside0 (wire_Reader_Num.j1 kq t113 t114 x7_5 a0_0 none = some (r1, r2, r3)) ∧ Aside0 (kq ≤ kj3) ∧ Aside0 (wc.heap[g]? = some (.cells #[.string a0_0, errW none] 68 (0, 0))) ∧ Aside0 (Kept w wc (fun k_ => (Goto.None_ k_) ∨ k_ = g)) ∧ Aside0 (Below w0.heap.size w0 wc))
    case first =>
     have H := HC6.out; clear HC6
     by_cases c7 : x28_3 = true
     ·
      subst c7
      rw [if_pos rfl] at H
      have H' := Goto.m0 H
      clear H
      go_wp2
      go_meet
      case rel => exact ⟨_, (some 12), (by first | rfl | (simp; done) | (simp [*]; done)), H', ⟨by have := HJ3.out; first | omega | exact Nat.le_refl _⟩, ⟨Goto.bx BK0⟩, ⟨by repeat (first | (with_reducible first | exact HK.out | apply Kept.alloc | apply Kept.drewN | apply Kept.drew | refine Kept.setCell ?_ (.inl (.inr rfl)) _) | exact HK.out)⟩, ⟨Goto.hx HB⟩⟩
     ·
      replace c7 := Bool.eq_false_iff.mpr c7
      subst c7
      rw [if_neg (show ¬ (false = true) by decide)] at H
      have H' := Goto.m0 H
      clear H
      go_wp2
      go_meet
      case rel => exact ⟨_, (t115), (by first | rfl | (simp; done) | (simp [*]; done)), H', ⟨by have := HJ3.out; first | omega | exact Nat.le_refl _⟩, ⟨Goto.bx BK0⟩, ⟨by repeat (first | (with_reducible first | exact HK.out | apply Kept.alloc | apply Kept.drewN | apply Kept.drew | refine Kept.setCell ?_ (.inl (.inr rfl)) _) | exact HK.out)⟩, ⟨Goto.hx HB⟩⟩
    case rest =>
     clear HC6; try clear c1; try clear q1; try clear c2; try clear p2; try clear c7; try clear hcz5_0; try clear hcz5_1; try clear hfz5_0; try clear hfz5_1; try clear p2; try clear q1; try clear q112; try clear q116
     obtain ⟨kq, x7_5, rfl, HA, HJ5, BK0, HK, HB⟩ := hcut
     cases kq with
     | zero => exact absurd HA.out (by simp [wire_Reader_Num.j1])
     | succ kj5 =>
      have H := HA.out; clear HA
      simp only [wire_Reader_Num.j1] at H
      rcases x7_5 with _ | q117
      ·
       have H1 : (if 0 ≤ t114 then (if t114 ≤ (a0_0.size : Int) then (some (t113, a0_0.extract (t114 : Int).toNat a0_0.size, none)) else (none)) else (none)) = some (r1, r2, r3) := by rw [if_pos (show (none : Option Int).isNone = true by rfl)] at H; exact H
       clear H; have H := H1; clear H1
       try simp only [errW_none, errW_some]
       by_cases c8 : 0 ≤ t114
       ·
        rw [if_pos c8] at H
        have c8b0 := eq_true c8
        have c8b1 : decide (0 ≤ t114) = true := decide_eq_true c8
        clear c8
        by_cases c9 : t114 ≤ (a0_0.size : Int)
        ·
         rw [if_pos c9] at H
         have c9b0 := eq_true c9
         have c9b1 : decide (t114 ≤ (a0_0.size : Int)) = true := decide_eq_true c9
         clear c9
         simp only [Option.some.injEq, Prod.mk.injEq] at H
         obtain ⟨rfl, rfl, rfl⟩ := H
         have hcz10_0 := Goto.bc0 BK0; have hcz10_1 := Goto.bc1 BK0; (try simp only [errW_none, errW_some] at hcz10_1); have hfz10_0 := Goto.bf BK0 0; have hfz10_1 := Goto.bf BK0 1
         go_wp2_with (first | ((with_reducible refine gate_store (t := 9) (p := 44) rfl ?_); refine store_event (t := 9) (p := 44) (v := ?vo_w11) (w1 := (wc.setCell ⟨g, 0, none⟩ (.string (a0_0.extract (t114 : Int).toNat a0_0.size)))) ?hg ?ho ?hn ?hr ?_; (case ho => rfl); (case hg => rfl); (case hn => rfl); (case hr => first | (go_simp; done) | (go_simp; rfl)); intro w11 hw; have n0_ : Aside0 (w11.heap[g]? = some (.cells #[.string (a0_0.extract (t114 : Int).toNat a0_0.size), errW none] 68 (0, 0))) := ⟨(by rw [hw]; exact (Goto.bx BK0))⟩; have n1_ : Aside0 (Kept w w11 (fun k_ => (Goto.None_ k_) ∨ k_ = g)) := ⟨(by rw [hw]; exact (by repeat (first | (with_reducible first | exact HK.out | apply Kept.alloc | apply Kept.drewN | apply Kept.drew | refine Kept.setCell ?_ (.inl (.inr rfl)) _) | exact HK.out)))⟩; have n2_ : Aside0 (Below w0.heap.size w0 w11) := ⟨(by rw [hw]; exact (Goto.hx HB))⟩; clear hw; clear BK0; clear HK; clear HB; have BK0 := n0_; have HK := n1_; have HB := n2_; clear n0_ n1_ n2_))
         go_ret
         (try simp only [← exists_and_left])
         exact ⟨Goto.er, by (with_reducible repeat first | refine blk_drewN ?_ _ | refine blk_drew ?_ | refine blk_alloc ?_ _); exact BK0.out, by repeat (first | (with_reducible first | exact HB.out | apply below_alloc | apply pw_below_drewN | apply below_drew1 | refine below_set ?_ GE0.out) | exact HB.out), by repeat (first | (with_reducible first | exact HK.out | apply Kept.alloc | apply Kept.drewN | apply Kept.drew | refine Kept.setCell ?_ (.inl (.inr rfl)) _) | exact HK.out)⟩
        ·
         rw [if_neg c9] at H
         exact absurd H (by simp)
       ·
        rw [if_neg c8] at H
        exact absurd H (by simp)
      ·
       have H1 : (some (0, a0_0, some q117)) = some (r1, r2, r3) := by rw [if_neg (show ¬ (some q117).isNone = true by simp)] at H; exact H
       clear H; have H := H1; clear H1
       try simp only [errW_none, errW_some]
       simp only [Option.some.injEq, Prod.mk.injEq] at H
       obtain ⟨rfl, rfl, rfl⟩ := H
       have hcz12_0 := Goto.bc0 BK0; have hcz12_1 := Goto.bc1 BK0; (try simp only [errW_none, errW_some] at hcz12_1); have hfz12_0 := Goto.bf BK0 0; have hfz12_1 := Goto.bf BK0 1
       go_wp2_with (first | ((with_reducible refine gate_store (t := 37) (p := 35) rfl ?_); refine store_event (t := 37) (p := 35) (v := ?vo_w13) (w1 := (wc.setCell ⟨g, 1, none⟩ (errW (some q117)))) ?hg ?ho ?hn ?hr ?_; (case ho => rfl); (case hg => rfl); (case hn => rfl); (case hr => first | (go_simp; done) | (go_simp; rfl)); intro w13 hw; have n0_ : Aside0 (w13.heap[g]? = some (.cells #[.string a0_0, errW (some q117)] 68 (0, 0))) := ⟨(by rw [hw]; exact (Goto.bx BK0))⟩; have n1_ : Aside0 (Kept w w13 (fun k_ => (Goto.None_ k_) ∨ k_ = g)) := ⟨(by rw [hw]; exact (by repeat (first | (with_reducible first | exact HK.out | apply Kept.alloc | apply Kept.drewN | apply Kept.drew | refine Kept.setCell ?_ (.inl (.inr rfl)) _) | exact HK.out)))⟩; have n2_ : Aside0 (Below w0.heap.size w0 w13) := ⟨(by rw [hw]; exact (Goto.hx HB))⟩; clear hw; clear BK0; clear HK; clear HB; have BK0 := n0_; have HK := n1_; have HB := n2_; clear n0_ n1_ n2_))
       go_ret
       (try simp only [← exists_and_left])
       exact ⟨Goto.er, by (with_reducible repeat first | refine blk_drewN ?_ _ | refine blk_drew ?_ | refine blk_alloc ?_ _); exact BK0.out, by repeat (first | (with_reducible first | exact HB.out | apply below_alloc | apply pw_below_drewN | apply below_drew1 | refine below_set ?_ GE0.out) | exact HB.out), by repeat (first | (with_reducible first | exact HK.out | apply Kept.alloc | apply Kept.drewN | apply Kept.drew | refine Kept.setCell ?_ (.inl (.inr rfl)) _) | exact HK.out)⟩
 ·
  have H1 : (some (0, a0_0, some q112)) = some (r1, r2, r3) := by rw [if_neg (show ¬ (some q112).isNone = true by simp)] at H; exact H
  clear H; have H := H1; clear H1
  try simp only [errW_none, errW_some]
  simp only [Option.some.injEq, Prod.mk.injEq] at H
  obtain ⟨rfl, rfl, rfl⟩ := H
  have hcz14_0 := Goto.bc0 BK0
  have hcz14_1 := Goto.bc1 BK0; (try simp only [errW_none, errW_some] at hcz14_1)
  have hfz14_0 := Goto.bf BK0 0; have hfz14_1 := Goto.bf BK0 1
  go_enter Try.func15, Try.ntmps15
  go_wp2
  go_ret
  (try simp only [← exists_and_left])
  exact ⟨Goto.er, by (with_reducible repeat first | refine blk_drewN ?_ _ | refine blk_drew ?_ | refine blk_alloc ?_ _); exact BK0.out, by repeat (first | (with_reducible first | exact HB.out | apply below_alloc | apply pw_below_drewN | apply below_drew1 | refine below_set ?_ GE0.out) | exact HB.out), by repeat (first | (with_reducible first | exact HK.out | apply Kept.alloc | apply Kept.drewN | apply Kept.drew | refine Kept.setCell ?_ (.inl (.inr rfl)) _) | exact HK.out)⟩

end Go.Proofs.Ytiejhnijfgdapaa.P
