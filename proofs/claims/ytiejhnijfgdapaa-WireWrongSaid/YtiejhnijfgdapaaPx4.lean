/- Printed by a program of this workplace (a turned copy of the kit's optional print), out of the translation; not trusted: Lean checks it. -/
import Derived.Test.YtiejhnijfgdapaaPx0
namespace Go.Proofs.Ytiejhnijfgdapaa.P
open Go.RowKit Go.Proofs.YtiejhnijfgdapaaW.PrintWords Go.Proofs.YtiejhnijfgdapaaW.PrintLast Go.Proofs.YtiejhnijfgdapaaW.PrintMore
attribute [local go_sem] max2_int min2_int max_two min_two max_three min_three max_four min_four   -- for this text's walks alone
set_option linter.unusedVariables false
set_option linter.unusedSimpArgs false

/-! ### wire_Reader_Bits: function 16 -/
mutual
def wire_Reader_Bits.j0 : Nat → Bool → ByteArray → Option Int → Option (Int × ByteArray × Option Int)
  | 0, _, _, _ => none
  | k + 1, x17, x1000, x1001 => if x17 = true then (wire_Reader_Bits.j1 k x1000 (some 11)) else (wire_Reader_Bits.j1 k x1000 x1001)
def wire_Reader_Bits.j1 : Nat → ByteArray → Option Int → Option (Int × ByteArray × Option Int)
  | 0, _, _ => none
  | k + 1, x1000, x1001 => if x1001.isNone = true then (wire_Reader_Bits.l0 k 0 0 x1000 none) else (some (0, x1000, some (x1001.getD 0)))
def wire_Reader_Bits.l0 : Nat → Int → Int → ByteArray → Option Int → Option (Int × ByteArray × Option Int)
  | 0, _, _, _, _ => none
  | k + 1, x3, x27, x1000, x1001 => if x27 < 8 then (if 0 ≤ x27 then (if x27 < (x1000.size : Int) then (if 0 ≤ (wrap64 (8 * x27)) then (wire_Reader_Bits.l0 k (Go.bits .or .u64 x3 (shl .u64 (IntKind.u64.wrap (bt x1000 x27)) (wrap64 (8 * x27)))) (wrap64 (x27 + 1)) x1000 x1001) else (none)) else (none)) else (none)) else (if 8 ≤ (x1000.size : Int) then (some (x3, x1000.extract 8 x1000.size, x1001)) else (none))
end
def wire_Reader_Bits.f (k : Nat) (a0_0 : ByteArray) (a0_1 : Option Int) : Option (Int × ByteArray × Option Int) := if a0_1.isNone = true then (wire_Reader_Bits.j0 k (decide ((a0_0.size : Int) < 8)) a0_0 none) else (wire_Reader_Bits.j0 k false a0_0 (some (a0_1.getD 0)))
theorem wire_Reader_Bits.mono_l : ∀ k, (∀ y0 y1 y2, LeO (wire_Reader_Bits.j0 k y0 y1 y2) (wire_Reader_Bits.j0 (k + 1) y0 y1 y2)) ∧ (∀ y0 y1, LeO (wire_Reader_Bits.j1 k y0 y1) (wire_Reader_Bits.j1 (k + 1) y0 y1)) ∧ (∀ y0 y1 y2 y3, LeO (wire_Reader_Bits.l0 k y0 y1 y2 y3) (wire_Reader_Bits.l0 (k + 1) y0 y1 y2 y3))
  | 0 => ⟨fun _ _ _ r h => by simp [wire_Reader_Bits.j0] at h, fun _ _ r h => by simp [wire_Reader_Bits.j1] at h, fun _ _ _ _ r h => by simp [wire_Reader_Bits.l0] at h⟩
  | k + 1 => by
    obtain ⟨ih0, ih1, ih2⟩ := wire_Reader_Bits.mono_l k
    refine ⟨?_, ?_, ?_⟩
    · intro y0 y1 y2
      unfold wire_Reader_Bits.j0
      repeat' first
      | (with_reducible exact ih0 _ _ _)
      | (with_reducible exact ih1 _ _)
      | (with_reducible exact ih2 _ _ _ _)
      | (with_reducible exact LeO.refl _)
      | (with_reducible exact LeO.none _)
      | (with_reducible refine LeO.ite ?_ ?_)
      | (with_reducible refine LeO.bind ?_ (fun _ => ?_))
      | exact ih0 _ _ _
      | exact ih1 _ _
      | exact ih2 _ _ _ _
      | exact LeO.none _
      | refine LeO.ite ?_ ?_
      | refine LeO.bind ?_ (fun _ => ?_)
    · intro y0 y1
      unfold wire_Reader_Bits.j1
      repeat' first
      | (with_reducible exact ih0 _ _ _)
      | (with_reducible exact ih1 _ _)
      | (with_reducible exact ih2 _ _ _ _)
      | (with_reducible exact LeO.refl _)
      | (with_reducible exact LeO.none _)
      | (with_reducible refine LeO.ite ?_ ?_)
      | (with_reducible refine LeO.bind ?_ (fun _ => ?_))
      | exact ih0 _ _ _
      | exact ih1 _ _
      | exact ih2 _ _ _ _
      | exact LeO.none _
      | refine LeO.ite ?_ ?_
      | refine LeO.bind ?_ (fun _ => ?_)
    · intro y0 y1 y2 y3
      unfold wire_Reader_Bits.l0
      repeat' first
      | (with_reducible exact ih0 _ _ _)
      | (with_reducible exact ih1 _ _)
      | (with_reducible exact ih2 _ _ _ _)
      | (with_reducible exact LeO.refl _)
      | (with_reducible exact LeO.none _)
      | (with_reducible refine LeO.ite ?_ ?_)
      | (with_reducible refine LeO.bind ?_ (fun _ => ?_))
      | exact ih0 _ _ _
      | exact ih1 _ _
      | exact ih2 _ _ _ _
      | exact LeO.none _
      | refine LeO.ite ?_ ?_
      | refine LeO.bind ?_ (fun _ => ?_)
theorem wire_Reader_Bits.mono : ∀ a0 a1 k, LeO (wire_Reader_Bits.f k a0 a1) (wire_Reader_Bits.f (k + 1) a0 a1) := by
 intro a0 a1 k
 obtain ⟨ih0, ih1, ih2⟩ := wire_Reader_Bits.mono_l k
 unfold wire_Reader_Bits.f
 repeat' first
   | (with_reducible exact ih0 _ _ _)
   | (with_reducible exact ih1 _ _)
   | (with_reducible exact ih2 _ _ _ _)
   | (with_reducible exact LeO.refl _)
   | (with_reducible exact LeO.none _)
   | (with_reducible refine LeO.ite ?_ ?_)
   | (with_reducible refine LeO.bind ?_ (fun _ => ?_))
   | exact ih0 _ _ _
   | exact ih1 _ _
   | exact ih2 _ _ _ _
   | exact LeO.none _
   | refine LeO.ite ?_ ?_
   | refine LeO.bind ?_ (fun _ => ?_)
set_option maxHeartbeats 8000000 in
set_option maxRecDepth 100000 in
theorem wire_Reader_Bits.calls (k : Nat) (g : Nat) (a0_0 : ByteArray) (a0_1 : Option Int) (r1 : Int) (r2 : ByteArray) (r3 : Option Int) (w0 w : World) (hI : w.heap[g]? = some (.cells #[.string a0_0, errW a0_1] 68 (0, 0))) (hG : w0.heap.size ≤ g) (hB : Below w0.heap.size w0 w) (h : wire_Reader_Bits.f k a0_0 a0_1 = some (r1, r2, r3)) :
    Calls Try.prog 16 #[.pointer (some ⟨g, 0, none⟩)] w fun e w' => e = .returned (.int .u64 r1) ∧ w'.heap[g]? = some (.cells #[.string r2, errW r3] 68 (0, 0)) ∧ Below w0.heap.size w0 w' ∧ Kept w w' (fun k_ => (Goto.None_ k_) ∨ k_ = g) := by
 have hu37 := Try.underlying37; have hu42 := Try.underlying42
 have BK0 := Goto.m0 hI
 have GE0 := Goto.m0 hG
 clear hI hG
 have HK := Goto.m0 (Kept.refl w (fun k_ => (Goto.None_ k_) ∨ k_ = g))
 have HW0 := Goto.m0 hB.size
 have HB := Goto.m0 hB
 clear hB
 have H : (if a0_1.isNone = true then (wire_Reader_Bits.j0 k (decide ((a0_0.size : Int) < 8)) a0_0 none) else (wire_Reader_Bits.j0 k false a0_0 (some (a0_1.getD 0)))) = some (r1, r2, r3) := h
 clear h
 have HC2 := Goto.m0 H
 clear H
 go_enter Try.func16, Try.ntmps16
 go_upto_region 1 with (fail)
 go_cut [17] (fun v17 wc => ∃ (kq : Nat) (x17_1 : Bool), v17 = .bool x17_1 ∧ Aside0 (wire_Reader_Bits.j0 kq x17_1 a0_0 a0_1 = some (r1, r2, r3)) ∧ Aside0 (kq ≤ k) ∧ Aside0 (wc.heap[g]? = some (.cells #[.string a0_0, errW a0_1] 68 (0, 0))) ∧ Aside0 (Kept w wc (fun k_ => (Goto.None_ k_) ∨ k_ = g)) ∧ Aside0 (Below w0.heap.size w0 wc))
 case first =>
  have H := HC2.out; clear HC2
  rcases a0_1 with _ | q118
  ·
   have H1 : (wire_Reader_Bits.j0 k (decide ((a0_0.size : Int) < 8)) a0_0 none) = some (r1, r2, r3) := by rw [if_pos (show (none : Option Int).isNone = true by rfl)] at H; exact H
   clear H; have H := H1; clear H1
   try simp only [errW_none, errW_some]
   have H' := Goto.m0 H
   clear H; have hcz3_0 := Goto.bc0 BK0; have hcz3_1 := Goto.bc1 BK0; (try simp only [errW_none, errW_some] at hcz3_1); have hfz3_0 := Goto.bf BK0 0; have hfz3_1 := Goto.bf BK0 1
   go_wp2
   go_meet
   case rel => exact ⟨_, (decide ((a0_0.size : Int) < 8)), (by first | rfl | (simp; done) | (simp [*]; done)), H', ⟨by first | omega | exact Nat.le_refl _⟩, ⟨Goto.bx BK0⟩, ⟨by repeat (first | (with_reducible first | exact HK.out | apply Kept.alloc | apply Kept.drewN | apply Kept.drew | refine Kept.setCell ?_ (.inl (.inr rfl)) _) | exact HK.out)⟩, ⟨Goto.hx HB⟩⟩
  ·
   have H1 : (wire_Reader_Bits.j0 k false a0_0 (some q118)) = some (r1, r2, r3) := by rw [if_neg (show ¬ (some q118).isNone = true by simp)] at H; exact H
   clear H; have H := H1; clear H1
   try simp only [errW_none, errW_some]
   have H' := Goto.m0 H
   clear H; have hcz4_0 := Goto.bc0 BK0
   have hcz4_1 := Goto.bc1 BK0; (try simp only [errW_none, errW_some] at hcz4_1)
   have hfz4_0 := Goto.bf BK0 0; have hfz4_1 := Goto.bf BK0 1
   go_wp2
   go_meet
   case rel => exact ⟨_, (false), (by first | rfl | (simp; done) | (simp [*]; done)), H', ⟨by first | omega | exact Nat.le_refl _⟩, ⟨Goto.bx BK0⟩, ⟨by repeat (first | (with_reducible first | exact HK.out | apply Kept.alloc | apply Kept.drewN | apply Kept.drew | refine Kept.setCell ?_ (.inl (.inr rfl)) _) | exact HK.out)⟩, ⟨Goto.hx HB⟩⟩
 case rest =>
  clear HC2; try clear c1; try clear q1; try clear p2; try clear hcz3_0; try clear hcz3_1; try clear hcz4_0; try clear hcz4_1; try clear hfz3_0; try clear hfz3_1; try clear hfz4_0; try clear hfz4_1; try clear q118
  obtain ⟨kq, x17_1, rfl, HA, HJ1, BK0, HK, HB⟩ := hcut
  cases kq with
  | zero => exact absurd HA.out (by simp [wire_Reader_Bits.j0])
  | succ kj1 =>
   have H := HA.out; clear HA
   simp only [wire_Reader_Bits.j0] at H
   have HC5 := Goto.m0 H
   clear H
   go_upto_if 17 with (fail)
   go_cut [] (fun wc => ∃ (kq : Nat) (x1001_4 : Option Int), Aside0 (wire_Reader_Bits.j1 kq a0_0 x1001_4 = some (r1, r2, r3)) ∧ Aside0 (kq ≤ kj1) ∧ Aside0 (wc.heap[g]? = some (.cells #[.string a0_0, errW x1001_4] 68 (0, 0))) ∧ Aside0 (Kept w wc (fun k_ => (Goto.None_ k_) ∨ k_ = g)) ∧ Aside0 (Below w0.heap.size w0 wc))
   case first =>
    have H := HC5.out; clear HC5
    by_cases c6 : x17_1 = true
    ·
     subst c6
     rw [if_pos rfl] at H
     have H' := Goto.m0 H
     clear H; have hcz7_0 := Goto.bc0 BK0; have hcz7_1 := Goto.bc1 BK0; have hfz7_0 := Goto.bf BK0 0; have hfz7_1 := Goto.bf BK0 1
     go_wp2_with (first | ((with_reducible refine gate_store (t := 37) (p := 21) rfl ?_); refine store_event (t := 37) (p := 21) (v := ?vo_w8) (w1 := (wc.setCell ⟨g, 1, none⟩ (errW (some 11)))) ?hg ?ho ?hn ?hr ?_; (case ho => rfl); (case hg => rfl); (case hn => rfl); (case hr => first | (go_simp; done) | (go_simp; rfl)); intro w8 hw; have n0_ : Aside0 (w8.heap[g]? = some (.cells #[.string a0_0, errW (some 11)] 68 (0, 0))) := ⟨(by rw [hw]; exact (Goto.bx BK0))⟩; have n1_ : Aside0 (Kept w w8 (fun k_ => (Goto.None_ k_) ∨ k_ = g)) := ⟨(by rw [hw]; exact (by repeat (first | (with_reducible first | exact HK.out | apply Kept.alloc | apply Kept.drewN | apply Kept.drew | refine Kept.setCell ?_ (.inl (.inr rfl)) _) | exact HK.out)))⟩; have n2_ : Aside0 (Below w0.heap.size w0 w8) := ⟨(by rw [hw]; exact (Goto.hx HB))⟩; clear hw; clear BK0; clear HK; clear HB; have BK0 := n0_; have HK := n1_; have HB := n2_; clear n0_ n1_ n2_))
     go_meet
     case rel => exact ⟨_, (some 11), H', ⟨by have := HJ1.out; first | omega | exact Nat.le_refl _⟩, ⟨Goto.bx BK0⟩, ⟨by repeat (first | (with_reducible first | exact HK.out | apply Kept.alloc | apply Kept.drewN | apply Kept.drew | refine Kept.setCell ?_ (.inl (.inr rfl)) _) | exact HK.out)⟩, ⟨Goto.hx HB⟩⟩
    ·
     replace c6 := Bool.eq_false_iff.mpr c6
     subst c6
     rw [if_neg (show ¬ (false = true) by decide)] at H
     have H' := Goto.m0 H
     clear H
     go_wp2
     go_meet
     case rel => exact ⟨_, (a0_1), H', ⟨by have := HJ1.out; first | omega | exact Nat.le_refl _⟩, ⟨Goto.bx BK0⟩, ⟨by repeat (first | (with_reducible first | exact HK.out | apply Kept.alloc | apply Kept.drewN | apply Kept.drew | refine Kept.setCell ?_ (.inl (.inr rfl)) _) | exact HK.out)⟩, ⟨Goto.hx HB⟩⟩
   case rest =>
    clear HC5; try clear c1; try clear q1; try clear p2; try clear c6; try clear hcz3_0; try clear hcz3_1; try clear hcz4_0; try clear hcz4_1; try clear hcz7_0; try clear hcz7_1; try clear hfz3_0; try clear hfz3_1; try clear hfz4_0; try clear hfz4_1; try clear hfz7_0; try clear hfz7_1; try clear p2; try clear q1; try clear q118
    obtain ⟨kq, x1001_4, HA, HJ4, BK0, HK, HB⟩ := hcut
    cases kq with
    | zero => exact absurd HA.out (by simp [wire_Reader_Bits.j1])
    | succ kj4 =>
     have H := HA.out; clear HA
     simp only [wire_Reader_Bits.j1] at H
     rcases x1001_4 with _ | q119
     ·
      have H1 : (wire_Reader_Bits.l0 kj4 0 0 a0_0 none) = some (r1, r2, r3) := by rw [if_pos (show (none : Option Int).isNone = true by rfl)] at H; exact H
      clear H; have H := H1; clear H1
      try simp only [errW_none, errW_some]
      have H' := Goto.m0 H
      clear H; have hcz9_0 := Goto.bc0 BK0; have hcz9_1 := Goto.bc1 BK0; (try simp only [errW_none, errW_some] at hcz9_1); have hfz9_0 := Goto.bf BK0 0; have hfz9_1 := Goto.bf BK0 1
      go_wp2
      go_loopg [3, 27] kj4 (fun kq v3 v27 w' => ∃ (x3_3 : Int) (x27_3 : Int), v3 = .int .u64 x3_3 ∧ v27 = .int .i64 x27_3 ∧ Aside0 (wire_Reader_Bits.l0 kq x3_3 x27_3 a0_0 none = some (r1, r2, r3)) ∧ Aside0 (kq ≤ kj4) ∧ Aside0 (w'.heap[g]? = some (.cells #[.string a0_0, errW none] 68 (0, 0))) ∧ Aside0 (Kept w w' (fun k_ => (Goto.None_ k_) ∨ k_ = g)) ∧ Aside0 (Below w0.heap.size w0 w'))
      case atStart => exact ⟨(0), (0), (by first | rfl | (simp; done) | (simp [*]; done)), (by first | rfl | (simp; done) | (simp [*]; done)), H', ⟨Nat.le_refl _⟩, ⟨Goto.bx BK0⟩, ⟨by repeat (first | (with_reducible first | exact HK.out | apply Kept.alloc | apply Kept.drewN | apply Kept.drew | refine Kept.setCell ?_ (.inl (.inr rfl)) _) | exact HK.out)⟩, ⟨Goto.hx HB⟩⟩
      case round =>
       clear H'
       try clear c1; try clear q1; try clear p2; try clear c6; try clear hcz3_0; try clear hcz3_1; try clear hcz4_0; try clear hcz4_1; try clear hcz7_0; try clear hcz7_1; try clear hcz9_0; try clear hcz9_1; try clear hfz3_0; try clear hfz3_1; try clear hfz4_0; try clear hfz4_1; try clear hfz7_0; try clear hfz7_1; try clear hfz9_0; try clear hfz9_1; try clear p2; try clear q1; try clear q118; try clear q119
       obtain ⟨x3_3, x27_3, rfl, rfl, HA, HK3, BK0, HK, HB⟩ := hrel
       cases gk with
       | zero => exact absurd HA.out (by simp [wire_Reader_Bits.l0])
       | succ k3 =>
        have H := HA.out; clear HA
        simp only [wire_Reader_Bits.l0] at H
        by_cases c10 : x27_3 < 8
        ·
         rw [if_pos c10] at H
         have c10b0 : decide (x27_3 < 8) = true := decide_eq_true c10
         clear c10
         by_cases c11 : 0 ≤ x27_3
         ·
          rw [if_pos c11] at H
          have c11b0 : decide (0 ≤ x27_3) = true := decide_eq_true c11
          clear c11
          by_cases c12 : x27_3 < (a0_0.size : Int)
          ·
           rw [if_pos c12] at H
           have c12b0 : decide (x27_3 < (a0_0.size : Int)) = true := decide_eq_true c12
           clear c12
           obtain ⟨ji14, hji14⟩ : ∃ j_ : Int, (wrap64 (8 * x27_3)) = j_ := ⟨_, rfl⟩
           replace H : (if 0 ≤ (ji14) then (wire_Reader_Bits.l0 k3 (Go.bits .or .u64 x3_3 (shl .u64 (IntKind.u64.wrap (bt a0_0 x27_3)) (ji14))) (wrap64 (x27_3 + 1)) a0_0 none) else (none)) = some (r1, r2, r3) := by first | (rw [hji14] at H; exact H) | (simp only [hji14] at H ⊢; exact H)
           have hji14w : (IntKind.i64.wrap (8 * x27_3)) = ji14 := (i64_w _).trans hji14
           by_cases c15 : 0 ≤ (ji14)
           ·
            rw [if_pos c15] at H
            have c15b0 := eq_true c15
            have c15b1 : decide (0 ≤ (ji14)) = true := decide_eq_true c15
            clear c15
            obtain ⟨ji16, hji16⟩ : ∃ j_ : Int, (shl .u64 (IntKind.u64.wrap (bt a0_0 x27_3)) (ji14)) = j_ := ⟨_, rfl⟩
            (try rw [hji16] at hji14)
            (try rw [hji16] at hji14w)
            replace H : (wire_Reader_Bits.l0 k3 (Go.bits .or .u64 x3_3 (ji16)) (wrap64 (x27_3 + 1)) a0_0 none) = some (r1, r2, r3) := by first | (rw [hji16] at H; exact H) | (simp only [hji16] at H ⊢; exact H)
            have hji16_ : (IntKind.u64.wrap ((IntKind.u64.wrap (bt a0_0 x27_3)) * 2 ^ min (ji14).toNat 64)) = ji16 := hji16
            have hji16z : (ji14) ≤ 64 → (IntKind.u64.wrap ((IntKind.u64.wrap (bt a0_0 x27_3)) * 2 ^ (ji14).toNat)) = ji16 := shl_small hji16
            have H' := Goto.m0 H
            clear H; have hcz17_0 := Goto.bc0 BK0; have hcz17_1 := Goto.bc1 BK0; (try simp only [errW_none, errW_some] at hcz17_1); have hfz17_0 := Goto.bf BK0 0; have hfz17_1 := Goto.bf BK0 1
            have p13 : 0 ≤ (x27_3 : Int) := Goto.od
            have q13 : x27_3 < (a0_0.size : Int) := Goto.od
            have hx13 := bt_at a0_0 x27_3
            replace p13 := eq_true p13; replace q13 := eq_true q13
            go_wp2
            go_roundg k3
            case measure => have := HJ1.out; have := HJ4.out; have := HK3.out; omega
            case rel => exact ⟨(Go.bits .or .u64 x3_3 (ji16)), (wrap64 (x27_3 + 1)), (by first | rfl | (simp; done) | (simp only [← hji16] <;> (first | rfl | simp)) | (simp [*]; done)), (by first | rfl | (simp; done) | (simp [*]; done)), H', ⟨by have := HJ1.out; have := HJ4.out; have := HK3.out; omega⟩, ⟨Goto.bx BK0⟩, ⟨by repeat (first | (with_reducible first | exact HK.out | apply Kept.alloc | apply Kept.drewN | apply Kept.drew | refine Kept.setCell ?_ (.inl (.inr rfl)) _) | exact HK.out)⟩, ⟨Goto.hx HB⟩⟩
           ·
            rw [if_neg c15] at H
            exact absurd H (by simp)
          ·
           rw [if_neg c12] at H
           exact absurd H (by simp)
         ·
          rw [if_neg c11] at H
          exact absurd H (by simp)
        ·
         rw [if_neg c10] at H
         have c10b0 : decide (x27_3 < 8) = false := decide_eq_false c10
         clear c10
         by_cases c18 : 8 ≤ (a0_0.size : Int)
         ·
          rw [if_pos c18] at H
          have c18b0 := eq_true c18
          have c18b1 : decide (8 ≤ (a0_0.size : Int)) = true := decide_eq_true c18
          clear c18
          simp only [Option.some.injEq, Prod.mk.injEq] at H
          obtain ⟨rfl, rfl, rfl⟩ := H
          have hcz19_0 := Goto.bc0 BK0; have hcz19_1 := Goto.bc1 BK0; (try simp only [errW_none, errW_some] at hcz19_1); have hfz19_0 := Goto.bf BK0 0; have hfz19_1 := Goto.bf BK0 1
          go_wp2_with (first | ((with_reducible refine gate_store (t := 9) (p := 50) rfl ?_); refine store_event (t := 9) (p := 50) (v := ?vo_w20) (w1 := (wr.setCell ⟨g, 0, none⟩ (.string (a0_0.extract 8 a0_0.size)))) ?hg ?ho ?hn ?hr ?_; (case ho => rfl); (case hg => rfl); (case hn => rfl); (case hr => first | (go_simp; done) | (go_simp; rfl)); intro w20 hw; have n0_ : Aside0 (w20.heap[g]? = some (.cells #[.string (a0_0.extract 8 a0_0.size), errW none] 68 (0, 0))) := ⟨(by rw [hw]; exact (Goto.bx BK0))⟩; have n1_ : Aside0 (Kept w w20 (fun k_ => (Goto.None_ k_) ∨ k_ = g)) := ⟨(by rw [hw]; exact (by repeat (first | (with_reducible first | exact HK.out | apply Kept.alloc | apply Kept.drewN | apply Kept.drew | refine Kept.setCell ?_ (.inl (.inr rfl)) _) | exact HK.out)))⟩; have n2_ : Aside0 (Below w0.heap.size w0 w20) := ⟨(by rw [hw]; exact (Goto.hx HB))⟩; clear hw; clear BK0; clear HK; clear HB; have BK0 := n0_; have HK := n1_; have HB := n2_; clear n0_ n1_ n2_))
          go_ret
          (try simp only [← exists_and_left])
          exact ⟨Goto.er, by (with_reducible repeat first | refine blk_drewN ?_ _ | refine blk_drew ?_ | refine blk_alloc ?_ _); exact BK0.out, by repeat (first | (with_reducible first | exact HB.out | apply below_alloc | apply pw_below_drewN | apply below_drew1 | refine below_set ?_ GE0.out) | exact HB.out), by repeat (first | (with_reducible first | exact HK.out | apply Kept.alloc | apply Kept.drewN | apply Kept.drew | refine Kept.setCell ?_ (.inl (.inr rfl)) _) | exact HK.out)⟩
         ·
          rw [if_neg c18] at H
          exact absurd H (by simp)
     ·
      have H1 : (some (0, a0_0, some q119)) = some (r1, r2, r3) := by rw [if_neg (show ¬ (some q119).isNone = true by simp)] at H; exact H
      clear H; have H := H1; clear H1
      try simp only [errW_none, errW_some]
      simp only [Option.some.injEq, Prod.mk.injEq] at H
      obtain ⟨rfl, rfl, rfl⟩ := H
      have hcz21_0 := Goto.bc0 BK0
      have hcz21_1 := Goto.bc1 BK0; (try simp only [errW_none, errW_some] at hcz21_1)
      have hfz21_0 := Goto.bf BK0 0; have hfz21_1 := Goto.bf BK0 1
      go_wp2
      go_ret
      (try simp only [← exists_and_left])
      exact ⟨Goto.er, by (with_reducible repeat first | refine blk_drewN ?_ _ | refine blk_drew ?_ | refine blk_alloc ?_ _); exact BK0.out, by repeat (first | (with_reducible first | exact HB.out | apply below_alloc | apply pw_below_drewN | apply below_drew1 | refine below_set ?_ GE0.out) | exact HB.out), by repeat (first | (with_reducible first | exact HK.out | apply Kept.alloc | apply Kept.drewN | apply Kept.drew | refine Kept.setCell ?_ (.inl (.inr rfl)) _) | exact HK.out)⟩

/-! ### wire_Reader_Left: function 17 -/
def wire_Reader_Left.f (a0_0 : ByteArray) (a0_1 : Option Int) : Option (Int × ByteArray × Option Int) := some ((a0_0.size : Int), a0_0, a0_1)
set_option maxHeartbeats 8000000 in
set_option maxRecDepth 100000 in
theorem wire_Reader_Left.calls (g : Nat) (a0_0 : ByteArray) (a0_1 : Option Int) (r1 : Int) (r2 : ByteArray) (r3 : Option Int) (w0 w : World) (hI : w.heap[g]? = some (.cells #[.string a0_0, errW a0_1] 68 (0, 0))) (hG : w0.heap.size ≤ g) (hB : Below w0.heap.size w0 w) (h : wire_Reader_Left.f a0_0 a0_1 = some (r1, r2, r3)) :
    Calls Try.prog 17 #[.pointer (some ⟨g, 0, none⟩)] w fun e w' => e = .returned (.int .i64 r1) ∧ w'.heap[g]? = some (.cells #[.string r2, errW r3] 68 (0, 0)) ∧ Below w0.heap.size w0 w' ∧ Kept w w' (fun k_ => (Goto.None_ k_) ∨ k_ = g) := by
 have BK0 := Goto.m0 hI
 have GE0 := Goto.m0 hG
 clear hI hG
 have HK := Goto.m0 (Kept.refl w (fun k_ => (Goto.None_ k_) ∨ k_ = g))
 have HW0 := Goto.m0 hB.size
 have HB := Goto.m0 hB
 clear hB
 have H : (some ((a0_0.size : Int), a0_0, a0_1)) = some (r1, r2, r3) := h
 clear h
 simp only [Option.some.injEq, Prod.mk.injEq] at H
 obtain ⟨rfl, rfl, rfl⟩ := H
 have hcz2_0 := Goto.bc0 BK0; have hcz2_1 := Goto.bc1 BK0; have hfz2_0 := Goto.bf BK0 0; have hfz2_1 := Goto.bf BK0 1
 go_enter Try.func17, Try.ntmps17
 go_wp2
 go_ret
 (try simp only [← exists_and_left])
 exact ⟨Goto.er, by (with_reducible repeat first | refine blk_drewN ?_ _ | refine blk_drew ?_ | refine blk_alloc ?_ _); exact BK0.out, by repeat (first | (with_reducible first | exact HB.out | apply below_alloc | apply pw_below_drewN | apply below_drew1 | refine below_set ?_ GE0.out) | exact HB.out), by repeat (first | (with_reducible first | exact HK.out | apply Kept.alloc | apply Kept.drewN | apply Kept.drew | refine Kept.setCell ?_ (.inl (.inr rfl)) _) | exact HK.out)⟩

/-! ### wire_Reader_Err: function 18 -/
def wire_Reader_Err.f (a0_0 : ByteArray) (a0_1 : Option Int) : Option (Option Int × ByteArray × Option Int) := some (a0_1, a0_0, a0_1)
set_option maxHeartbeats 8000000 in
set_option maxRecDepth 100000 in
theorem wire_Reader_Err.calls (g : Nat) (a0_0 : ByteArray) (a0_1 : Option Int) (r1 : Option Int) (r2 : ByteArray) (r3 : Option Int) (w0 w : World) (hI : w.heap[g]? = some (.cells #[.string a0_0, errW a0_1] 68 (0, 0))) (hG : w0.heap.size ≤ g) (hB : Below w0.heap.size w0 w) (h : wire_Reader_Err.f a0_0 a0_1 = some (r1, r2, r3)) :
    Calls Try.prog 18 #[.pointer (some ⟨g, 0, none⟩)] w fun e w' => e = .returned (errW r1) ∧ w'.heap[g]? = some (.cells #[.string r2, errW r3] 68 (0, 0)) ∧ Below w0.heap.size w0 w' ∧ Kept w w' (fun k_ => (Goto.None_ k_) ∨ k_ = g) := by
 have BK0 := Goto.m0 hI
 have GE0 := Goto.m0 hG
 clear hI hG
 have HK := Goto.m0 (Kept.refl w (fun k_ => (Goto.None_ k_) ∨ k_ = g))
 have HW0 := Goto.m0 hB.size
 have HB := Goto.m0 hB
 clear hB
 have H : (some (a0_1, a0_0, a0_1)) = some (r1, r2, r3) := h
 clear h
 simp only [Option.some.injEq, Prod.mk.injEq] at H
 obtain ⟨rfl, rfl, rfl⟩ := H
 have hcz2_0 := Goto.bc0 BK0; have hcz2_1 := Goto.bc1 BK0; have hfz2_0 := Goto.bf BK0 0; have hfz2_1 := Goto.bf BK0 1
 go_enter Try.func18, Try.ntmps18
 go_wp2
 go_ret
 (try simp only [← exists_and_left])
 exact ⟨Goto.er, by (with_reducible repeat first | refine blk_drewN ?_ _ | refine blk_drew ?_ | refine blk_alloc ?_ _); exact BK0.out, by repeat (first | (with_reducible first | exact HB.out | apply below_alloc | apply pw_below_drewN | apply below_drew1 | refine below_set ?_ GE0.out) | exact HB.out), by repeat (first | (with_reducible first | exact HK.out | apply Kept.alloc | apply Kept.drewN | apply Kept.drew | refine Kept.setCell ?_ (.inl (.inr rfl)) _) | exact HK.out)⟩

-- NOT PRINTED: function 28 (reflectlite_TypeOf)

-- NOT PRINTED: function 29 (errors_is)

end Go.Proofs.Ytiejhnijfgdapaa.P
