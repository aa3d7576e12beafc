/- Printed by a program of this workplace (a turned copy of the kit's optional print), out of the translation; not trusted: Lean checks it. -/
import Derived.Test.YtbhfkhcedjgpdaaDoorPx0
namespace Go.Proofs.YtbhfkhcedjgpdaaDoor.P
open Go.RowKit Go.Proofs.YtbhfkhcedjgpdaaDoorW.PrintWords Go.Proofs.YtbhfkhcedjgpdaaDoorW.PrintLast Go.Proofs.YtbhfkhcedjgpdaaDoorW.PrintMore
attribute [local go_sem] max2_int min2_int max_two min_two max_three min_three max_four min_four   -- for this text's walks alone
set_option linter.unusedVariables false
set_option linter.unusedSimpArgs false

/-! ### tontineref15_Latch_AskPlan: function 22 -/
def tontineref15_Latch_AskPlan.f (a0_0 : Int) (a0_1 : Int) (l0_2 : List (List Int)) (l0_3 : List (S60)) (a0_4 : Int) (a0_5 : Int) (l0_6 : List Int) (l0_7 : List Int) (a1 : Int) : Option (Int × Int × Int × List Int × List Int) := if a1 < 0 then (some (10, a0_4, a0_5, l0_6, l0_7)) else (if a1 ≥ (l0_2.length : Int) then (some (10, a0_4, a0_5, l0_6, l0_7)) else (some (0, a0_4, a1, l0_6, l0_7)))
set_option maxHeartbeats 8000000 in
set_option maxRecDepth 100000 in
theorem tontineref15_Latch_AskPlan.calls (g : Nat) (a0_0 : Int) (a0_1 : Int) (A0_2 : Option Addr) (c0_2 : Nat) (l0_2 : List (List Int)) (A0_3 : Option Addr) (c0_3 : Nat) (l0_3 : List (S60)) (a0_4 : Int) (a0_5 : Int) (P0_6_ : Nat → Prop) (u9000_ : Value) (l0_6 : List Int) (P0_7_ : Nat → Prop) (u9001_ : Value) (l0_7 : List Int) (a1 : Int) (r1 : Int) (r2 : Int) (r3 : Int) (r4 : List Int) (r5 : List Int) (w0 w : World) (hI : w.heap[g]? = some (.cells #[.int .i64 a0_0, .int .i64 a0_1, .slice A0_2 l0_2.length c0_2, .slice A0_3 l0_3.length c0_3, .int .i64 a0_4, .int .i64 a0_5, u9000_, u9001_] 49 (0, 0))) (hG : w0.heap.size ≤ g) (hB : Below w0.heap.size w0 w) (hr0_2 : ∀ W_, Kept w W_ (fun k_ => (P0_6_ k_ ∨ P0_7_ k_) ∨ k_ = g) → Kd.C (Kd.slice 3 (Kd.int .i64)) W_ A0_2 l0_2.length l0_2) (hc0_2 : l0_2.length ≤ c0_2) (hr0_3 : ∀ W_, Kept w W_ (fun k_ => (P0_6_ k_ ∨ P0_7_ k_) ∨ k_ = g) → Kd.C k60 W_ A0_3 l0_3.length l0_3) (hc0_3 : l0_3.length ≤ c0_3) (ho0_6 : Kd.R (Kd.int .i64) 3 w w0.heap.size P0_6_ u9000_ l0_6) (hp0_6_0_7 : ∀ k_, P0_6_ k_ → ¬ P0_7_ k_) (ho0_7 : Kd.R (Kd.int .i64) 3 w w0.heap.size P0_7_ u9001_ l0_7) (hp0_7_0_6 : ∀ k_, P0_7_ k_ → ¬ P0_6_ k_) (h : tontineref15_Latch_AskPlan.f a0_0 a0_1 l0_2 l0_3 a0_4 a0_5 l0_6 l0_7 a1 = some (r1, r2, r3, r4, r5)) :
    Calls Tryd.prog 22 #[.pointer (some ⟨g, 0, none⟩), .int .i64 a1] w fun e w' => ∃ v3_ v4_ : Value, e = .returned (.int .i64 r1) ∧ Kd.R (Kd.int .i64) 3 w' w0.heap.size (fun k_ => ((P0_6_ k_ ∨ P0_7_ k_) ∨ w.heap.size ≤ k_) ∧ some k_ ≠ (v4_ : Value).ownBlock) v3_ r4 ∧ Kd.R (Kd.int .i64) 3 w' w0.heap.size (fun k_ => ((P0_6_ k_ ∨ P0_7_ k_) ∨ w.heap.size ≤ k_) ∧ some k_ ≠ (v3_ : Value).ownBlock) v4_ r5 ∧ w'.heap[g]? = some (.cells #[.int .i64 a0_0, .int .i64 a0_1, .slice A0_2 l0_2.length c0_2, .slice A0_3 l0_3.length c0_3, .int .i64 r2, .int .i64 r3, v3_, v4_] 49 (0, 0)) ∧ Below w0.heap.size w0 w' ∧ Kept w w' (fun k_ => (P0_6_ k_ ∨ P0_7_ k_) ∨ k_ = g) := by
 have HR0_2 := Goto.m0 hr0_2
 have HC0_2 := Goto.m0 hc0_2
 clear hr0_2 hc0_2
 have HR0_3 := Goto.m0 hr0_3
 have HC0_3 := Goto.m0 hc0_3
 clear hr0_3 hc0_3
 have HO0_6 := Goto.m0 (show Kd.R (Kd.int .i64) 3 w w0.heap.size (fun k_ => ((P0_6_ k_ ∨ P0_7_ k_) ∨ w.heap.size ≤ k_) ∧ some k_ ≠ (u9001_ : Value).ownBlock) u9000_ l0_6 from Kd.R_mono ho0_6 (fun k_ hk => ⟨(.inl (.inl hk)), fun e_ => hp0_6_0_7 k_ hk (ho0_7.1 k_ e_.symm)⟩))
 have HO0_7 := Goto.m0 (show Kd.R (Kd.int .i64) 3 w w0.heap.size (fun k_ => ((P0_6_ k_ ∨ P0_7_ k_) ∨ w.heap.size ≤ k_) ∧ some k_ ≠ (u9000_ : Value).ownBlock) u9001_ l0_7 from Kd.R_mono ho0_7 (fun k_ hk => ⟨(.inl (.inr hk)), fun e_ => hp0_7_0_6 k_ hk (ho0_6.1 k_ e_.symm)⟩))
 have BK0 := Goto.m0 hI
 have GE0 := Goto.m0 hG
 clear hI hG
 have HK := Goto.m0 (Kept.refl w (fun k_ => (P0_6_ k_ ∨ P0_7_ k_) ∨ k_ = g))
 have HW0 := Goto.m0 hB.size
 have HB := Goto.m0 hB
 clear hB
 have H : (if a1 < 0 then (some (10, a0_4, a0_5, l0_6, l0_7)) else (if a1 ≥ (l0_2.length : Int) then (some (10, a0_4, a0_5, l0_6, l0_7)) else (some (0, a0_4, a1, l0_6, l0_7)))) = some (r1, r2, r3, r4, r5) := h
 clear h
 by_cases c3 : a1 < 0
 ·
  rw [if_pos c3] at H
  have c3b0 : decide (a1 < 0) = true := decide_eq_true c3
  clear c3
  simp only [Option.some.injEq, Prod.mk.injEq] at H
  obtain ⟨rfl, rfl, rfl, rfl, rfl⟩ := H
  go_enter Tryd.func22, Tryd.ntmps22
  go_wp2
  go_ret
  (try simp only [← exists_and_left])
  exact ⟨_, _, Goto.er, Goto.rk HO0_6, Goto.rk HO0_7, by (with_reducible repeat first | refine blk_drewN ?_ _ | refine blk_drew ?_ | refine blk_alloc ?_ _); exact BK0.out, by repeat (first | (with_reducible first | exact HB.out | apply below_alloc | apply pw_below_drewN | apply below_drew1 | refine below_set ?_ GE0.out) | exact HB.out), by repeat (first | (with_reducible first | exact HK.out | apply Kept.alloc | apply Kept.drewN | apply Kept.drew | refine Kept.setCell ?_ (.inl (.inr rfl)) _) | exact HK.out)⟩
 ·
  rw [if_neg c3] at H
  have c3b0 : decide (a1 < 0) = false := decide_eq_false c3
  clear c3
  by_cases c4 : a1 ≥ (l0_2.length : Int)
  ·
   rw [if_pos c4] at H
   have c4b0 : decide ((l0_2.length : Int) ≤ a1) = true := decide_eq_true c4
   clear c4
   simp only [Option.some.injEq, Prod.mk.injEq] at H
   obtain ⟨rfl, rfl, rfl, rfl, rfl⟩ := H
   have hcz5_0 := Goto.bc0 BK0; have hcz5_1 := Goto.bc1 BK0; have hcz5_2 := Goto.bc2 BK0; have hcz5_3 := Goto.bc3 BK0; have hcz5_4 := Goto.bc4 BK0; have hcz5_5 := Goto.bc5 BK0; have hcz5_6 := Goto.bc6 BK0; have hcz5_7 := Goto.bc7 BK0; have hfz5_0 := Goto.bf BK0 0; have hfz5_1 := Goto.bf BK0 1; have hfz5_2 := Goto.bf BK0 2; have hfz5_3 := Goto.bf BK0 3; have hfz5_4 := Goto.bf BK0 4; have hfz5_5 := Goto.bf BK0 5; have hfz5_6 := Goto.bf BK0 6; have hfz5_7 := Goto.bf BK0 7
   go_enter Tryd.func22, Tryd.ntmps22
   go_wp2
   go_ret
   (try simp only [← exists_and_left])
   exact ⟨_, _, Goto.er, Goto.rk HO0_6, Goto.rk HO0_7, by (with_reducible repeat first | refine blk_drewN ?_ _ | refine blk_drew ?_ | refine blk_alloc ?_ _); exact BK0.out, by repeat (first | (with_reducible first | exact HB.out | apply below_alloc | apply pw_below_drewN | apply below_drew1 | refine below_set ?_ GE0.out) | exact HB.out), by repeat (first | (with_reducible first | exact HK.out | apply Kept.alloc | apply Kept.drewN | apply Kept.drew | refine Kept.setCell ?_ (.inl (.inr rfl)) _) | exact HK.out)⟩
  ·
   rw [if_neg c4] at H
   have c4b0 : decide ((l0_2.length : Int) ≤ a1) = false := decide_eq_false c4
   clear c4
   simp only [Option.some.injEq, Prod.mk.injEq] at H
   obtain ⟨rfl, rfl, rfl, rfl, rfl⟩ := H
   have hcz6_0 := Goto.bc0 BK0; have hcz6_1 := Goto.bc1 BK0; have hcz6_2 := Goto.bc2 BK0; have hcz6_3 := Goto.bc3 BK0; have hcz6_4 := Goto.bc4 BK0; have hcz6_5 := Goto.bc5 BK0; have hcz6_6 := Goto.bc6 BK0; have hcz6_7 := Goto.bc7 BK0; have hfz6_0 := Goto.bf BK0 0; have hfz6_1 := Goto.bf BK0 1; have hfz6_2 := Goto.bf BK0 2; have hfz6_3 := Goto.bf BK0 3; have hfz6_4 := Goto.bf BK0 4; have hfz6_5 := Goto.bf BK0 5; have hfz6_6 := Goto.bf BK0 6; have hfz6_7 := Goto.bf BK0 7
   go_enter Tryd.func22, Tryd.ntmps22
   go_wp2_with (first | ((with_reducible refine gate_store (t := 3) (p := 20) rfl ?_); refine store_event (t := 3) (p := 20) (v := ?vo_w7) (w1 := (w.setCell ⟨g, 5, none⟩ (.int .i64 a1))) ?hg ?ho ?hn ?hr ?_; (case ho => rfl); (case hg => rfl); (case hn => rfl); (case hr => first | (go_simp; done) | (go_simp; rfl)); intro w7 hw; have n0_ : Aside0 (Kd.R (Kd.int .i64) 3 w7 w0.heap.size (fun k_ => ((P0_6_ k_ ∨ P0_7_ k_) ∨ w.heap.size ≤ k_) ∧ some k_ ≠ (u9001_ : Value).ownBlock) u9000_ l0_6) := ⟨(by rw [hw]; exact (by (with_reducible repeat (first | apply Kd.R_alloc | apply Kd.R_drewN | apply Kd.R_drew)); exact Kd.R_mono (Kd.R_far (p := ⟨g, 5, none⟩) (Kd.R_types HO0_6.out BK0.out (by decide)) (fun _ hk => hk.2) (.int .i64 a1)) (fun _ hk => ⟨hk.1.1, hk.1.2⟩)))⟩; have n1_ : Aside0 (Kd.R (Kd.int .i64) 3 w7 w0.heap.size (fun k_ => ((P0_6_ k_ ∨ P0_7_ k_) ∨ w.heap.size ≤ k_) ∧ some k_ ≠ (u9000_ : Value).ownBlock) u9001_ l0_7) := ⟨(by rw [hw]; exact (by (with_reducible repeat (first | apply Kd.R_alloc | apply Kd.R_drewN | apply Kd.R_drew)); exact Kd.R_mono (Kd.R_far (p := ⟨g, 5, none⟩) (Kd.R_types HO0_7.out BK0.out (by decide)) (fun _ hk => hk.2) (.int .i64 a1)) (fun _ hk => ⟨hk.1.1, hk.1.2⟩)))⟩; have n2_ : Aside0 (w7.heap[g]? = some (.cells #[.int .i64 a0_0, .int .i64 a0_1, .slice A0_2 l0_2.length c0_2, .slice A0_3 l0_3.length c0_3, .int .i64 a0_4, .int .i64 a1, u9000_, u9001_] 49 (0, 0))) := ⟨(by rw [hw]; exact (Goto.bx BK0))⟩; have n3_ : Aside0 (Kept w w7 (fun k_ => (P0_6_ k_ ∨ P0_7_ k_) ∨ k_ = g)) := ⟨(by rw [hw]; exact (by repeat (first | (with_reducible first | exact HK.out | apply Kept.alloc | apply Kept.drewN | apply Kept.drew | refine Kept.setCell ?_ (.inl (.inr rfl)) _) | exact HK.out)))⟩; have n4_ : Aside0 (Below w0.heap.size w0 w7) := ⟨(by rw [hw]; exact (Goto.hx HB))⟩; clear hw; clear HO0_6; clear HO0_7; clear BK0; clear HK; clear HB; have HO0_6 := n0_; have HO0_7 := n1_; have BK0 := n2_; have HK := n3_; have HB := n4_; clear n0_ n1_ n2_ n3_ n4_))
   go_ret
   (try simp only [← exists_and_left])
   exact ⟨_, _, Goto.er, Goto.rk HO0_6, Goto.rk HO0_7, by (with_reducible repeat first | refine blk_drewN ?_ _ | refine blk_drew ?_ | refine blk_alloc ?_ _); exact BK0.out, by repeat (first | (with_reducible first | exact HB.out | apply below_alloc | apply pw_below_drewN | apply below_drew1 | refine below_set ?_ GE0.out) | exact HB.out), by repeat (first | (with_reducible first | exact HK.out | apply Kept.alloc | apply Kept.drewN | apply Kept.drew | refine Kept.setCell ?_ (.inl (.inr rfl)) _) | exact HK.out)⟩

/-! ### tontineref15_Latch_AskLevel: function 24 -/
def tontineref15_Latch_AskLevel.j0 : Nat → Int → Int → Bool → Int → Int → List (List Int) → List (S60) → Int → Int → List Int → List Int → Option (Int × Int × Int × List Int × List Int)
  | 0, _, _, _, _, _, _, _, _, _, _, _ => none
  | k + 1, x1, x2, x18, x1000, x1001, x1002, x1003, x1004, x1005, x1006, x1007 => if x18 = true then (some (13, x1004, x1005, x1006, x1007)) else (if x2 < 0 then (some (10, x1004, x1005, x1006, x1007)) else (if 0 ≤ x1 then (if x1 < (x1003.length : Int) then (if x2 ≥ (((rd_T60 x1003 x1).f2).length : Int) then (some (10, x1004, x1005, x1006, x1007)) else (if ([] : List Int).length + x1007.length < 17592186044416 then ((some (([] : List Int) ++ x1007 : List Int)).bind fun y342 => (if x1 < (y342.length : Int) then (some (0, x1004, x1005, x1006, (y342.set (x1 : Int).toNat x2))) else (none))) else (none))) else (none)) else (none)))
def tontineref15_Latch_AskLevel.f (k : Nat) (a0_0 : Int) (a0_1 : Int) (l0_2 : List (List Int)) (l0_3 : List (S60)) (a0_4 : Int) (a0_5 : Int) (l0_6 : List Int) (l0_7 : List Int) (a1 : Int) (a2 : Int) : Option (Int × Int × Int × List Int × List Int) := if a1 < 0 then (tontineref15_Latch_AskLevel.j0 k a1 a2 true a0_0 a0_1 l0_2 l0_3 a0_4 a0_5 l0_6 l0_7) else (tontineref15_Latch_AskLevel.j0 k a1 a2 (decide (a1 ≥ (l0_3.length : Int))) a0_0 a0_1 l0_2 l0_3 a0_4 a0_5 l0_6 l0_7)
theorem tontineref15_Latch_AskLevel.mono_l : ∀ k, (∀ y0 y1 y2 y3 y4 y5 y6 y7 y8 y9 y10, LeO (tontineref15_Latch_AskLevel.j0 k y0 y1 y2 y3 y4 y5 y6 y7 y8 y9 y10) (tontineref15_Latch_AskLevel.j0 (k + 1) y0 y1 y2 y3 y4 y5 y6 y7 y8 y9 y10))
  | 0 => fun _ _ _ _ _ _ _ _ _ _ _ r h => by simp [tontineref15_Latch_AskLevel.j0] at h
  | k + 1 => by
    have ih0 := tontineref15_Latch_AskLevel.mono_l k
    · intro y0 y1 y2 y3 y4 y5 y6 y7 y8 y9 y10
      unfold tontineref15_Latch_AskLevel.j0
      repeat' first
      | (with_reducible exact ih0 _ _ _ _ _ _ _ _ _ _ _)
      | (with_reducible exact LeO.refl _)
      | (with_reducible exact LeO.none _)
      | (with_reducible refine LeO.ite ?_ ?_)
      | (with_reducible refine LeO.bind ?_ (fun _ => ?_))
      | exact ih0 _ _ _ _ _ _ _ _ _ _ _
      | exact LeO.none _
      | refine LeO.ite ?_ ?_
      | refine LeO.bind ?_ (fun _ => ?_)
theorem tontineref15_Latch_AskLevel.mono : ∀ a0 a1 a2 a3 a4 a5 a6 a7 a8 a9 k, LeO (tontineref15_Latch_AskLevel.f k a0 a1 a2 a3 a4 a5 a6 a7 a8 a9) (tontineref15_Latch_AskLevel.f (k + 1) a0 a1 a2 a3 a4 a5 a6 a7 a8 a9) := by
 intro a0 a1 a2 a3 a4 a5 a6 a7 a8 a9 k
 have ih0 := tontineref15_Latch_AskLevel.mono_l k
 unfold tontineref15_Latch_AskLevel.f
 repeat' first
   | (with_reducible exact ih0 _ _ _ _ _ _ _ _ _ _ _)
   | (with_reducible exact LeO.refl _)
   | (with_reducible exact LeO.none _)
   | (with_reducible refine LeO.ite ?_ ?_)
   | (with_reducible refine LeO.bind ?_ (fun _ => ?_))
   | exact ih0 _ _ _ _ _ _ _ _ _ _ _
   | exact LeO.none _
   | refine LeO.ite ?_ ?_
   | refine LeO.bind ?_ (fun _ => ?_)
set_option maxHeartbeats 8000000 in
set_option maxRecDepth 100000 in
theorem tontineref15_Latch_AskLevel.calls (k : Nat) (g : Nat) (a0_0 : Int) (a0_1 : Int) (A0_2 : Option Addr) (c0_2 : Nat) (l0_2 : List (List Int)) (A0_3 : Option Addr) (c0_3 : Nat) (l0_3 : List (S60)) (a0_4 : Int) (a0_5 : Int) (P0_6_ : Nat → Prop) (u9000_ : Value) (l0_6 : List Int) (P0_7_ : Nat → Prop) (u9001_ : Value) (l0_7 : List Int) (a1 : Int) (a2 : Int) (r1 : Int) (r2 : Int) (r3 : Int) (r4 : List Int) (r5 : List Int) (w0 w : World) (hI : w.heap[g]? = some (.cells #[.int .i64 a0_0, .int .i64 a0_1, .slice A0_2 l0_2.length c0_2, .slice A0_3 l0_3.length c0_3, .int .i64 a0_4, .int .i64 a0_5, u9000_, u9001_] 49 (0, 0))) (hG : w0.heap.size ≤ g) (hB : Below w0.heap.size w0 w) (hr0_2 : ∀ W_, Kept w W_ (fun k_ => (P0_6_ k_ ∨ P0_7_ k_) ∨ k_ = g) → Kd.C (Kd.slice 3 (Kd.int .i64)) W_ A0_2 l0_2.length l0_2) (hc0_2 : l0_2.length ≤ c0_2) (hr0_3 : ∀ W_, Kept w W_ (fun k_ => (P0_6_ k_ ∨ P0_7_ k_) ∨ k_ = g) → Kd.C k60 W_ A0_3 l0_3.length l0_3) (hc0_3 : l0_3.length ≤ c0_3) (ho0_6 : Kd.R (Kd.int .i64) 3 w w0.heap.size P0_6_ u9000_ l0_6) (hp0_6_0_7 : ∀ k_, P0_6_ k_ → ¬ P0_7_ k_) (ho0_7 : Kd.R (Kd.int .i64) 3 w w0.heap.size P0_7_ u9001_ l0_7) (hp0_7_0_6 : ∀ k_, P0_7_ k_ → ¬ P0_6_ k_) (h : tontineref15_Latch_AskLevel.f k a0_0 a0_1 l0_2 l0_3 a0_4 a0_5 l0_6 l0_7 a1 a2 = some (r1, r2, r3, r4, r5)) :
    Calls Tryd.prog 24 #[.pointer (some ⟨g, 0, none⟩), .int .i64 a1, .int .i64 a2] w fun e w' => ∃ v3_ v4_ : Value, e = .returned (.int .i64 r1) ∧ Kd.R (Kd.int .i64) 3 w' w0.heap.size (fun k_ => ((P0_6_ k_ ∨ P0_7_ k_) ∨ w.heap.size ≤ k_) ∧ some k_ ≠ (v4_ : Value).ownBlock) v3_ r4 ∧ Kd.R (Kd.int .i64) 3 w' w0.heap.size (fun k_ => ((P0_6_ k_ ∨ P0_7_ k_) ∨ w.heap.size ≤ k_) ∧ some k_ ≠ (v3_ : Value).ownBlock) v4_ r5 ∧ w'.heap[g]? = some (.cells #[.int .i64 a0_0, .int .i64 a0_1, .slice A0_2 l0_2.length c0_2, .slice A0_3 l0_3.length c0_3, .int .i64 r2, .int .i64 r3, v3_, v4_] 49 (0, 0)) ∧ Below w0.heap.size w0 w' ∧ Kept w w' (fun k_ => (P0_6_ k_ ∨ P0_7_ k_) ∨ k_ = g) := by
 have HR0_2 := Goto.m0 hr0_2
 have HC0_2 := Goto.m0 hc0_2
 clear hr0_2 hc0_2
 have HR0_3 := Goto.m0 hr0_3
 have HC0_3 := Goto.m0 hc0_3
 clear hr0_3 hc0_3
 have HO0_6 := Goto.m0 (show Kd.R (Kd.int .i64) 3 w w0.heap.size (fun k_ => ((P0_6_ k_ ∨ P0_7_ k_) ∨ w.heap.size ≤ k_) ∧ some k_ ≠ (u9001_ : Value).ownBlock) u9000_ l0_6 from Kd.R_mono ho0_6 (fun k_ hk => ⟨(.inl (.inl hk)), fun e_ => hp0_6_0_7 k_ hk (ho0_7.1 k_ e_.symm)⟩))
 have HO0_7 := Goto.m0 (show Kd.R (Kd.int .i64) 3 w w0.heap.size (fun k_ => ((P0_6_ k_ ∨ P0_7_ k_) ∨ w.heap.size ≤ k_) ∧ some k_ ≠ (u9000_ : Value).ownBlock) u9001_ l0_7 from Kd.R_mono ho0_7 (fun k_ hk => ⟨(.inl (.inr hk)), fun e_ => hp0_7_0_6 k_ hk (ho0_6.1 k_ e_.symm)⟩))
 have BK0 := Goto.m0 hI
 have GE0 := Goto.m0 hG
 clear hI hG
 have HK := Goto.m0 (Kept.refl w (fun k_ => (P0_6_ k_ ∨ P0_7_ k_) ∨ k_ = g))
 have HW0 := Goto.m0 hB.size
 have HB := Goto.m0 hB
 clear hB
 have H : (if a1 < 0 then (tontineref15_Latch_AskLevel.j0 k a1 a2 true a0_0 a0_1 l0_2 l0_3 a0_4 a0_5 l0_6 l0_7) else (tontineref15_Latch_AskLevel.j0 k a1 a2 (decide (a1 ≥ (l0_3.length : Int))) a0_0 a0_1 l0_2 l0_3 a0_4 a0_5 l0_6 l0_7)) = some (r1, r2, r3, r4, r5) := h
 clear h
 have HC4 := Goto.m0 H
 clear H
 go_enter Tryd.func24, Tryd.ntmps24
 go_upto_region 1 with (fail)
 go_cut [18] (fun v18 wc => ∃ (kq : Nat) (x18_3 : Bool), v18 = .bool x18_3 ∧ Aside0 (tontineref15_Latch_AskLevel.j0 kq a1 a2 x18_3 a0_0 a0_1 l0_2 l0_3 a0_4 a0_5 l0_6 l0_7 = some (r1, r2, r3, r4, r5)) ∧ Aside0 (kq ≤ k) ∧ Aside0 (Kd.R (Kd.int .i64) 3 wc w0.heap.size (fun k_ => ((P0_6_ k_ ∨ P0_7_ k_) ∨ w.heap.size ≤ k_) ∧ some k_ ≠ (u9001_ : Value).ownBlock) u9000_ l0_6) ∧ Aside0 (Kd.R (Kd.int .i64) 3 wc w0.heap.size (fun k_ => ((P0_6_ k_ ∨ P0_7_ k_) ∨ w.heap.size ≤ k_) ∧ some k_ ≠ (u9000_ : Value).ownBlock) u9001_ l0_7) ∧ Aside0 (wc.heap[g]? = some (.cells #[.int .i64 a0_0, .int .i64 a0_1, (.slice A0_2 l0_2.length c0_2), (.slice A0_3 l0_3.length c0_3), .int .i64 a0_4, .int .i64 a0_5, u9000_, u9001_] 49 (0, 0))) ∧ Aside0 (Kept w wc (fun k_ => (P0_6_ k_ ∨ P0_7_ k_) ∨ k_ = g)) ∧ Aside0 (Below w0.heap.size w0 wc))
 case first =>
  have H := HC4.out; clear HC4
  by_cases c5 : a1 < 0
  ·
   rw [if_pos c5] at H
   have c5b0 : decide (a1 < 0) = true := decide_eq_true c5
   clear c5
   (first | rw [c5b0] | (simp only [i64_w, i32_w]; rw [c5b0]) | skip)
   have H' := Goto.m0 H
   clear H
   go_wp2
   go_meet
   case rel => exact ⟨_, (true), (by first | rfl | (simp; done) | (simp [*]; done)), H', ⟨by first | omega | exact Nat.le_refl _⟩, ⟨Goto.rk HO0_6⟩, ⟨Goto.rk HO0_7⟩, ⟨Goto.bx BK0⟩, ⟨by repeat (first | (with_reducible first | exact HK.out | apply Kept.alloc | apply Kept.drewN | apply Kept.drew | refine Kept.setCell ?_ (.inl (.inr rfl)) _) | exact HK.out)⟩, ⟨Goto.hx HB⟩⟩
  ·
   rw [if_neg c5] at H
   have c5b0 : decide (a1 < 0) = false := decide_eq_false c5
   clear c5
   (first | rw [c5b0] | (simp only [i64_w, i32_w]; rw [c5b0]) | skip)
   have H' := Goto.m0 H
   clear H; have hcz6_0 := Goto.bc0 BK0; have hcz6_1 := Goto.bc1 BK0; have hcz6_2 := Goto.bc2 BK0; have hcz6_3 := Goto.bc3 BK0; have hcz6_4 := Goto.bc4 BK0; have hcz6_5 := Goto.bc5 BK0; have hcz6_6 := Goto.bc6 BK0; have hcz6_7 := Goto.bc7 BK0; have hfz6_0 := Goto.bf BK0 0; have hfz6_1 := Goto.bf BK0 1; have hfz6_2 := Goto.bf BK0 2; have hfz6_3 := Goto.bf BK0 3; have hfz6_4 := Goto.bf BK0 4; have hfz6_5 := Goto.bf BK0 5; have hfz6_6 := Goto.bf BK0 6; have hfz6_7 := Goto.bf BK0 7
   go_wp2
   go_meet
   case rel => exact ⟨_, (decide (a1 ≥ (l0_3.length : Int))), (by first | rfl | (simp; done) | (simp [*]; done)), H', ⟨by first | omega | exact Nat.le_refl _⟩, ⟨Goto.rk HO0_6⟩, ⟨Goto.rk HO0_7⟩, ⟨Goto.bx BK0⟩, ⟨by repeat (first | (with_reducible first | exact HK.out | apply Kept.alloc | apply Kept.drewN | apply Kept.drew | refine Kept.setCell ?_ (.inl (.inr rfl)) _) | exact HK.out)⟩, ⟨Goto.hx HB⟩⟩
 case rest =>
  clear HC4; try clear c2; try clear p2; try clear c5; try clear c5b0; try clear hcz6_0; try clear hcz6_1; try clear hcz6_2; try clear hcz6_3; try clear hcz6_4; try clear hcz6_5; try clear hcz6_6; try clear hcz6_7; try clear hfz6_0; try clear hfz6_1; try clear hfz6_2; try clear hfz6_3; try clear hfz6_4; try clear hfz6_5; try clear hfz6_6; try clear hfz6_7
  obtain ⟨kq, x18_3, rfl, HA, HJ3, HO_1006, HO_1007, BK0, HK, HB⟩ := hcut
  cases kq with
  | zero => exact absurd HA.out (by simp [tontineref15_Latch_AskLevel.j0])
  | succ kj3 =>
   have H := HA.out; clear HA
   simp only [tontineref15_Latch_AskLevel.j0] at H
   by_cases c7 : x18_3 = true
   ·
    subst c7
    rw [if_pos rfl] at H
    simp only [Option.some.injEq, Prod.mk.injEq] at H
    obtain ⟨rfl, rfl, rfl, rfl, rfl⟩ := H
    go_wp2
    go_ret
    (try simp only [← exists_and_left])
    exact ⟨_, _, Goto.er, Goto.rk HO_1006, Goto.rk HO_1007, by (with_reducible repeat first | refine blk_drewN ?_ _ | refine blk_drew ?_ | refine blk_alloc ?_ _); exact BK0.out, by repeat (first | (with_reducible first | exact HB.out | apply below_alloc | apply pw_below_drewN | apply below_drew1 | refine below_set ?_ GE0.out) | exact HB.out), by repeat (first | (with_reducible first | exact HK.out | apply Kept.alloc | apply Kept.drewN | apply Kept.drew | refine Kept.setCell ?_ (.inl (.inr rfl)) _) | exact HK.out)⟩
   ·
    replace c7 := Bool.eq_false_iff.mpr c7
    subst c7
    rw [if_neg (show ¬ (false = true) by decide)] at H
    by_cases c8 : a2 < 0
    ·
     rw [if_pos c8] at H
     have c8b0 : decide (a2 < 0) = true := decide_eq_true c8
     clear c8
     simp only [Option.some.injEq, Prod.mk.injEq] at H
     obtain ⟨rfl, rfl, rfl, rfl, rfl⟩ := H
     go_wp2
     go_ret
     (try simp only [← exists_and_left])
     exact ⟨_, _, Goto.er, Goto.rk HO_1006, Goto.rk HO_1007, by (with_reducible repeat first | refine blk_drewN ?_ _ | refine blk_drew ?_ | refine blk_alloc ?_ _); exact BK0.out, by repeat (first | (with_reducible first | exact HB.out | apply below_alloc | apply pw_below_drewN | apply below_drew1 | refine below_set ?_ GE0.out) | exact HB.out), by repeat (first | (with_reducible first | exact HK.out | apply Kept.alloc | apply Kept.drewN | apply Kept.drew | refine Kept.setCell ?_ (.inl (.inr rfl)) _) | exact HK.out)⟩
    ·
     rw [if_neg c8] at H
     have c8b0 : decide (a2 < 0) = false := decide_eq_false c8
     clear c8
     by_cases c9 : 0 ≤ a1
     ·
      rw [if_pos c9] at H
      have c9b0 : decide (0 ≤ a1) = true := decide_eq_true c9
      clear c9
      by_cases c10 : a1 < (l0_3.length : Int)
      ·
       rw [if_pos c10] at H
       have c10b0 : decide (a1 < (l0_3.length : Int)) = true := decide_eq_true c10
       clear c10
       by_cases c11 : a2 ≥ (((rd_T60 l0_3 a1).f2).length : Int)
       ·
        rw [if_pos c11] at H
        have c11b0 : decide ((((rd_T60 l0_3 a1).f2).length : Int) ≤ a2) = true := decide_eq_true c11
        clear c11
        simp only [Option.some.injEq, Prod.mk.injEq] at H
        obtain ⟨rfl, rfl, rfl, rfl, rfl⟩ := H
        have hcz12_0 := Goto.bc0 BK0; have hcz12_1 := Goto.bc1 BK0; have hcz12_2 := Goto.bc2 BK0; have hcz12_3 := Goto.bc3 BK0; have hcz12_4 := Goto.bc4 BK0; have hcz12_5 := Goto.bc5 BK0; have hcz12_6 := Goto.bc6 BK0; have hcz12_7 := Goto.bc7 BK0; have hfz12_0 := Goto.bf BK0 0; have hfz12_1 := Goto.bf BK0 1; have hfz12_2 := Goto.bf BK0 2; have hfz12_3 := Goto.bf BK0 3; have hfz12_4 := Goto.bf BK0 4; have hfz12_5 := Goto.bf BK0 5; have hfz12_6 := Goto.bf BK0 6; have hfz12_7 := Goto.bf BK0 7
        have p341 : 0 ≤ (a1 : Int) := Goto.od
        have q341 : a1 < (l0_3.length : Int) := Goto.od
        obtain ⟨ad341, A341_2, c341_2, A341_3, c341_3, e341, hx341_0, hx341_1, hx341_2, hx341_3, hx341_4, hx341_5, hx341_6, hx341_7, hx341_8, hx341_9, hl341_2, hi341_2, hl341_3, hi341_3⟩ := at_T60 (Kd.C_kept_now HR0_3.out HK.out) a1 p341 q341
        cases e341
        have HR341_2 := Goto.m0 hi341_2
        have HC341_2 := Goto.m0 hl341_2
        clear hi341_2 hl341_2
        have HR341_3 := Goto.m0 hi341_3
        have HC341_3 := Goto.m0 hl341_3
        clear hi341_3 hl341_3; replace p341 := eq_true p341; replace q341 := eq_true q341
        go_wp2
        go_ret
        (try simp only [← exists_and_left])
        exact ⟨_, _, Goto.er, Goto.rk HO_1006, Goto.rk HO_1007, by (with_reducible repeat first | refine blk_drewN ?_ _ | refine blk_drew ?_ | refine blk_alloc ?_ _); exact BK0.out, by repeat (first | (with_reducible first | exact HB.out | apply below_alloc | apply pw_below_drewN | apply below_drew1 | refine below_set ?_ GE0.out) | exact HB.out), by repeat (first | (with_reducible first | exact HK.out | apply Kept.alloc | apply Kept.drewN | apply Kept.drew | refine Kept.setCell ?_ (.inl (.inr rfl)) _) | exact HK.out)⟩
       ·
        rw [if_neg c11] at H
        have c11b0 : decide ((((rd_T60 l0_3 a1).f2).length : Int) ≤ a2) = false := decide_eq_false c11
        clear c11
        by_cases c13 : ([] : List Int).length + l0_7.length < 17592186044416
        ·
         rw [if_pos c13] at H
         have LMc13 := Goto.m0 c13
         clear c13
         obtain ⟨y342, hy342⟩ : ∃ y_ : List Int, y_ = (([] : List Int) ++ l0_7) := ⟨_, rfl⟩
         replace H : (if a1 < (y342.length : Int) then (some (0, a0_4, a0_5, l0_6, (y342.set (a1 : Int).toNat a2))) else (none)) = some (r1, r2, r3, r4, r5) := by first | (rw [hy342]; with_reducible exact H) | (have H2_ := (Option.bind_some _ _).symm.trans H; rw [hy342]; with_reducible exact H2_) | (have H2_ := (Option.bind_some _ _).symm.trans H; with_reducible exact H2_) | with_reducible exact H | (rw [hy342]; exact H) | exact H
         have Ny342 := Goto.m0 hy342
         clear hy342
         by_cases c14 : a1 < (y342.length : Int)
         ·
          rw [if_pos c14] at H
          have c14b0 : decide (a1 < (y342.length : Int)) = true := decide_eq_true c14
          clear c14
          obtain ⟨y345, hy345⟩ : ∃ y_ : List Int, y_ = (y342.set (a1 : Int).toNat a2) := ⟨_, rfl⟩
          replace H : (some (0, a0_4, a0_5, l0_6, y345)) = some (r1, r2, r3, r4, r5) := by first | (rw [hy345]; with_reducible exact H) | (have H2_ := (Option.bind_some _ _).symm.trans H; rw [hy345]; with_reducible exact H2_) | (have H2_ := (Option.bind_some _ _).symm.trans H; with_reducible exact H2_) | with_reducible exact H | (rw [hy345]; exact H) | exact H
          have Ny345 := Goto.m0 hy345
          clear hy345
          simp only [Option.some.injEq, Prod.mk.injEq] at H
          obtain ⟨rfl, rfl, rfl, rfl, rfl⟩ := H
          have hcz16_0 := Goto.bc0 BK0; have hcz16_1 := Goto.bc1 BK0; have hcz16_2 := Goto.bc2 BK0; have hcz16_3 := Goto.bc3 BK0; have hcz16_4 := Goto.bc4 BK0; have hcz16_5 := Goto.bc5 BK0; have hcz16_6 := Goto.bc6 BK0; have hcz16_7 := Goto.bc7 BK0; have hfz16_0 := Goto.bf BK0 0; have hfz16_1 := Goto.bf BK0 1; have hfz16_2 := Goto.bf BK0 2; have hfz16_3 := Goto.bf BK0 3; have hfz16_4 := Goto.bf BK0 4; have hfz16_5 := Goto.bf BK0 5; have hfz16_6 := Goto.bf BK0 6; have hfz16_7 := Goto.bf BK0 7
          have p341 : 0 ≤ (a1 : Int) := Goto.od
          have q341 : a1 < (l0_3.length : Int) := Goto.od
          obtain ⟨ad341, A341_2, c341_2, A341_3, c341_3, e341, hx341_0, hx341_1, hx341_2, hx341_3, hx341_4, hx341_5, hx341_6, hx341_7, hx341_8, hx341_9, hl341_2, hi341_2, hl341_3, hi341_3⟩ := at_T60 (Kd.C_kept_now HR0_3.out HK.out) a1 p341 q341
          cases e341
          have HR341_2 := Goto.m0 hi341_2
          have HC341_2 := Goto.m0 hl341_2
          clear hi341_2 hl341_2
          have HR341_3 := Goto.m0 hi341_3
          have HC341_3 := Goto.m0 hl341_3
          clear hi341_3 hl341_3; replace p341 := eq_true p341; replace q341 := eq_true q341
          obtain ⟨Ao18, co18, eo18⟩ := Kd.R_slice HO_1007.out
          subst eo18
          go_wp2_with (first | ((with_reducible refine gate_builtin (b := .append) (xs := #[.const (.slice none 0 0), .tmp 39]) rfl ?_); (try (refine gate_guard (by rfl) ?_; dsimp only)); at_builtin; refine Kd.R_append_rows (Kd.int .i64) (w0 := w0) w0.heap.size rfl (.const (.slice none 0 0)) (.tmp 39) 47 3 (.int .i64 0) 8 rfl Tryd.underlying47 info3 rfl (by decide) (by omega) (.slice none 0 0) ([] : List Int) l0_7 _ _ _ (fun k_ => ((P0_6_ k_ ∨ P0_7_ k_) ∨ w.heap.size ≤ k_) ∧ some k_ ≠ (u9000_ : Value).ownBlock ∧ some k_ ≠ (.slice Ao18 l0_7.length co18 : Value).ownBlock) (fun _ => False) rfl rfl ?aO ?aR (fun _ _ h => h) (fun _ h => h.elim) ?aF ?aB ?aS ?aL ?_; (case aR => repeat (first | exact (Kd.R_reads' HO_1007.out).2.2 | (with_reducible refine Kd.C_alloc ?_ _) | (with_reducible refine Kd.C_drewN ?_ _) | (with_reducible refine Kd.C_drew ?_))); (case aB => exact (Goto.hx HB)); (case aF => exact (fun k_ hk => ⟨(.inr (Nat.le_trans (by first | exact HK.out.1 | exact (show Kept w _ (fun k_ => (P0_6_ k_ ∨ P0_7_ k_) ∨ k_ = g) from by repeat (first | (with_reducible first | exact HK.out | apply Kept.alloc | apply Kept.drewN | apply Kept.drew | refine Kept.setCell ?_ (.inl (.inr rfl)) _) | exact HK.out)).1) hk)), Kd.fresh' (Kd.R_lt (Goto.rk HO_1006)) k_ hk, Kd.fresh' (Kd.R_lt (Goto.rk HO_1007)) k_ hk⟩)); (case aO => exact ((Kd.R_nil _ _ _ _ (fun k_ => ((P0_6_ k_ ∨ P0_7_ k_) ∨ w.heap.size ≤ k_) ∧ some k_ ≠ (u9000_ : Value).ownBlock ∧ some k_ ≠ (.slice Ao18 l0_7.length co18 : Value).ownBlock)))); (case aS => exact (below_size (Goto.hx HB))); (case aL => have := LMc13.out; omega); intro v343 w17 ho hb hg hat; rw [← Ny342.out] at ho; have HO344 := Goto.m0 (ho); replace HO_1006 := Goto.m0 (Kd.R_after (Kd.R_apart_nil (Goto.rk HO_1006)) hg hat); replace HO_1007 := Goto.m0 (Kd.R_after (Kd.R_apart_nil (Goto.rk HO_1007)) hg hat); replace BK0 := Goto.m0 (blk_grown (g := g) (o := .cells #[.int .i64 a0_0, .int .i64 a0_1, .slice A0_2 l0_2.length c0_2, .slice (some ad341) l0_3.length c0_3, .int .i64 a0_4, .int .i64 a0_5, u9000_, .slice Ao18 l0_7.length co18] 49 (0, 0)) (Goto.bx BK0) hg (by simp [Value.ownBlock])); replace HB := Goto.m0 (hb); replace HK := Goto.m0 (Kept.of_grown (S := (fun k_ => (P0_6_ k_ ∨ P0_7_ k_) ∨ k_ = g)) hg (by repeat (first | (with_reducible first | exact HK.out | apply Kept.alloc | apply Kept.drewN | apply Kept.drew | refine Kept.setCell ?_ (.inl (.inr rfl)) _) | exact HK.out)) (fun k_ e_ => by simp [Value.ownBlock] at e_)); clear ho hb hg hat; obtain ⟨Ao19, co19, eo19⟩ := Kd.R_slice HO344.out; subst eo19; have hcz20_0 := Goto.bc0 BK0; have hcz20_1 := Goto.bc1 BK0; have hcz20_2 := Goto.bc2 BK0; have hcz20_3 := Goto.bc3 BK0; have hcz20_4 := Goto.bc4 BK0; have hcz20_5 := Goto.bc5 BK0; have hcz20_6 := Goto.bc6 BK0; have hcz20_7 := Goto.bc7 BK0; have hfz20_0 := Goto.bf BK0 0; have hfz20_1 := Goto.bf BK0 1; have hfz20_2 := Goto.bf BK0 2; have hfz20_3 := Goto.bf BK0 3; have hfz20_4 := Goto.bf BK0 4; have hfz20_5 := Goto.bf BK0 5; have hfz20_6 := Goto.bf BK0 6; have hfz20_7 := Goto.bf BK0 7) | ((with_reducible refine gate_store (t := 47) (p := 42) rfl ?_); refine store_event (t := 47) (p := 42) (v := ?vo_w21) (w1 := (w17.setCell ⟨g, 7, none⟩ (.slice Ao19 y342.length co19))) ?hg ?ho ?hn ?hr ?_; (case ho => rfl); (case hg => rfl); (case hn => rfl); (case hr => first | (go_simp; done) | (go_simp; rfl)); intro w21 hw; have n0_ : Aside0 (Kd.R (Kd.int .i64) 3 w21 w0.heap.size (fun k_ => ((P0_6_ k_ ∨ P0_7_ k_) ∨ w.heap.size ≤ k_) ∧ some k_ ≠ (.slice Ao18 l0_7.length co18 : Value).ownBlock ∧ some k_ ≠ (.slice Ao19 y342.length co19 : Value).ownBlock) u9000_ l0_6) := ⟨(by rw [hw]; exact (by (with_reducible repeat (first | apply Kd.R_alloc | apply Kd.R_drewN | apply Kd.R_drew)); exact Kd.R_mono (Kd.R_far (p := ⟨g, 7, none⟩) (Kd.R_types HO_1006.out BK0.out (by decide)) (fun _ hk => hk.2) (.slice Ao19 y342.length co19)) (fun _ hk => ⟨hk.1.1.1, ⟨hk.1.1.2, hk.1.2⟩⟩)))⟩; have n1_ : Aside0 (Kd.R (Kd.int .i64) 3 w21 w0.heap.size (fun k_ => ((P0_6_ k_ ∨ P0_7_ k_) ∨ w.heap.size ≤ k_) ∧ some k_ ≠ (u9000_ : Value).ownBlock ∧ some k_ ≠ (.slice Ao19 y342.length co19 : Value).ownBlock) (.slice Ao18 l0_7.length co18) l0_7) := ⟨(by rw [hw]; exact (by (with_reducible repeat (first | apply Kd.R_alloc | apply Kd.R_drewN | apply Kd.R_drew)); exact Kd.R_mono (Kd.R_far (p := ⟨g, 7, none⟩) (Kd.R_types HO_1007.out BK0.out (by decide)) (fun _ hk => hk.2) (.slice Ao19 y342.length co19)) (fun _ hk => ⟨hk.1.1.1, ⟨hk.1.1.2, hk.1.2⟩⟩)))⟩; have n2_ : Aside0 (Kd.R (Kd.int .i64) 3 w21 w0.heap.size (fun k_ => ((P0_6_ k_ ∨ P0_7_ k_) ∨ w.heap.size ≤ k_) ∧ some k_ ≠ (u9000_ : Value).ownBlock ∧ some k_ ≠ (.slice Ao18 l0_7.length co18 : Value).ownBlock) (.slice Ao19 y342.length co19) y342) := ⟨(by rw [hw]; exact (by (with_reducible repeat (first | apply Kd.R_alloc | apply Kd.R_drewN | apply Kd.R_drew)); exact Kd.R_mono (Kd.R_far (p := ⟨g, 7, none⟩) (Kd.R_types HO344.out BK0.out (by decide)) (fun _ hk => hk.2) (.slice Ao19 y342.length co19)) (fun _ hk => ⟨hk.1.1, ⟨hk.1.2.1, hk.1.2.2⟩⟩)))⟩; have n3_ : Aside0 (w21.heap[g]? = some (.cells #[.int .i64 a0_0, .int .i64 a0_1, .slice A0_2 l0_2.length c0_2, .slice (some ad341) l0_3.length c0_3, .int .i64 a0_4, .int .i64 a0_5, u9000_, .slice Ao19 y342.length co19] 49 (0, 0))) := ⟨(by rw [hw]; exact (Goto.bx BK0))⟩; have n4_ : Aside0 (Kept w w21 (fun k_ => (P0_6_ k_ ∨ P0_7_ k_) ∨ k_ = g)) := ⟨(by rw [hw]; exact (by repeat (first | (with_reducible first | exact HK.out | apply Kept.alloc | apply Kept.drewN | apply Kept.drew | refine Kept.setCell ?_ (.inl (.inr rfl)) _) | exact HK.out)))⟩; have n5_ : Aside0 (Below w0.heap.size w0 w21) := ⟨(by rw [hw]; exact (Goto.hx HB))⟩; clear hw; clear HO_1006; clear HO_1007; clear HO344; clear BK0; clear HK; clear HB; have HO_1006 := n0_; have HO_1007 := n1_; have HO344 := n2_; have BK0 := n3_; have HK := n4_; have HB := n5_; clear n0_ n1_ n2_ n3_ n4_ n5_; have hcz22_0 := Goto.bc0 BK0; have hcz22_1 := Goto.bc1 BK0; have hcz22_2 := Goto.bc2 BK0; have hcz22_3 := Goto.bc3 BK0; have hcz22_4 := Goto.bc4 BK0; have hcz22_5 := Goto.bc5 BK0; have hcz22_6 := Goto.bc6 BK0; have hcz22_7 := Goto.bc7 BK0; have hfz22_0 := Goto.bf BK0 0; have hfz22_1 := Goto.bf BK0 1; have hfz22_2 := Goto.bf BK0 2; have hfz22_3 := Goto.bf BK0 3; have hfz22_4 := Goto.bf BK0 4; have hfz22_5 := Goto.bf BK0 5; have hfz22_6 := Goto.bf BK0 6; have hfz22_7 := Goto.bf BK0 7; have p15 : 0 ≤ (a1 : Int) := Goto.od; have q15 : (a1 : Int) < ((y342.length : Int) : Int) := Goto.od; obtain ⟨go15, co15, eo15, gb15, gl15, cl15, HG15⟩ := Kd.R_form HO344.out (by omega); (first | cases eo15 | (injection eo15 with ea_ en_ ec_; (first | subst ea_ | (injection ea_ with ea_; subst ea_)); subst ec_; clear en_)); have GB15 := Goto.m0 gb15; have GG15 := Goto.m0 HG15; clear gb15 gl15 HG15; have HMgo15 := Goto.m0 (show ((P0_6_ go15 ∨ P0_7_ go15) ∨ w.heap.size ≤ go15) from (HO344.out.1 _ rfl).1); obtain ⟨hx15_0, hf15_0⟩ := Kd.R_celln 0 HO344.out (a1 : Int) p15 q15; replace p15 := eq_true p15; replace q15 := eq_true q15; obtain ⟨hy23_, hz23_⟩ := Kd.R_celln 0 HO344.out (a1 : Int) (of_decide_eq_true (by first | (with_reducible assumption) | assumption)) (of_decide_eq_true (by first | (with_reducible assumption) | assumption)); have HP23 := Kd.R_putg HO344.out (a1 : Int) a2) | ((with_reducible refine gate_store (t := 3) (p := 49) rfl ?_); refine store_event (t := 3) (p := 49) (v := ?vo_w24) (w1 := (w21.setCell ⟨go15, (a1 : Int).toNat, none⟩ (.int .i64 a2))) ?hg ?ho ?hn ?hr ?_; (case ho => rfl); (case hg => rfl); (case hn => rfl); (case hr => first | (go_simp; done) | (go_simp; rfl)); intro w24 hw; have hg : w21.grownBy w24 (some go15) := (by rw [hw]; exact HP23.2); have hp_ : Kd.R (Kd.int .i64) 3 w24 w0.heap.size (fun k_ => ((P0_6_ k_ ∨ P0_7_ k_) ∨ w.heap.size ≤ k_) ∧ some k_ ≠ (u9000_ : Value).ownBlock ∧ some k_ ≠ (.slice Ao18 l0_7.length co18 : Value).ownBlock) (.slice (some ⟨go15, 0, none⟩) y342.length co19) y345 := (by rw [hw, Ny345.out]; exact HP23.1); clear HP23; replace HO_1006 := Goto.m0 (Kd.R_after (v := (.slice (some ⟨go15, 0, none⟩) y342.length co19)) (v1 := (.slice (some ⟨go15, 0, none⟩) y342.length co19)) (ok := (fun k_ => ((P0_6_ k_ ∨ P0_7_ k_) ∨ w.heap.size ≤ k_) ∧ some k_ ≠ (.slice Ao18 l0_7.length co18 : Value).ownBlock)) (by (with_reducible repeat (first | apply Kd.R_alloc | apply Kd.R_drewN | apply Kd.R_drew)); exact Kd.R_mono HO_1006.out (fun _ hk => ⟨⟨hk.1, hk.2.1⟩, hk.2.2⟩)) hg (.inl rfl)); replace HO_1007 := Goto.m0 (Kd.R_after (v := (.slice (some ⟨go15, 0, none⟩) y342.length co19)) (v1 := (.slice (some ⟨go15, 0, none⟩) y342.length co19)) (ok := (fun k_ => ((P0_6_ k_ ∨ P0_7_ k_) ∨ w.heap.size ≤ k_) ∧ some k_ ≠ (u9000_ : Value).ownBlock)) (by (with_reducible repeat (first | apply Kd.R_alloc | apply Kd.R_drewN | apply Kd.R_drew)); exact Kd.R_mono HO_1007.out (fun _ hk => ⟨⟨hk.1, hk.2.1⟩, hk.2.2⟩)) hg (.inl rfl)); replace BK0 := Goto.m0 (blk_grown (g := g) (o := .cells #[.int .i64 a0_0, .int .i64 a0_1, .slice A0_2 l0_2.length c0_2, .slice (some ad341) l0_3.length c0_3, .int .i64 a0_4, .int .i64 a0_5, u9000_, .slice (some ⟨go15, 0, none⟩) y342.length co19] 49 (0, 0)) (Goto.bx BK0) hg (Kd.R_ne HO344.out BK0.out (by decide))); replace HB := Goto.m0 ((by rw [hw]; exact below_set (HB.out) GB15.out : Below w0.heap.size w0 w24)); replace HK := Goto.m0 (Kept.of_grown (S := (fun k_ => (P0_6_ k_ ∨ P0_7_ k_) ∨ k_ = g)) hg (by repeat (first | (with_reducible first | exact HK.out | apply Kept.alloc | apply Kept.drewN | apply Kept.drew | refine Kept.setCell ?_ (.inl (.inr rfl)) _) | exact HK.out)) (fun k_ e_ => Or.imp_left Or.inl ((HO344.out.1 k_ e_).1))); replace HO344 := Goto.m0 (hp_); clear hg hw hp_))
          go_ret
          (try simp only [← exists_and_left])
          exact ⟨_, _, Goto.er, by (with_reducible repeat (first | apply Kd.R_alloc | apply Kd.R_drewN | apply Kd.R_drew)); exact Kd.R_mono HO_1006.out (fun _ hk => ⟨hk.1.1, hk.2⟩), by (with_reducible repeat (first | apply Kd.R_alloc | apply Kd.R_drewN | apply Kd.R_drew)); exact Kd.R_mono HO344.out (fun _ hk => ⟨hk.1, hk.2.1⟩), by (with_reducible repeat first | refine blk_drewN ?_ _ | refine blk_drew ?_ | refine blk_alloc ?_ _); exact BK0.out, by repeat (first | (with_reducible first | exact HB.out | apply below_alloc | apply pw_below_drewN | apply below_drew1 | refine below_set ?_ GE0.out) | exact HB.out), by repeat (first | (with_reducible first | exact HK.out | apply Kept.alloc | apply Kept.drewN | apply Kept.drew | refine Kept.setCell ?_ (.inl (.inr rfl)) _) | exact HK.out)⟩
         ·
          rw [if_neg c14] at H
          exact absurd H (by simp)
        ·
         rw [if_neg c13] at H
         exact absurd H (by simp)
      ·
       rw [if_neg c10] at H
       exact absurd H (by simp)
     ·
      rw [if_neg c9] at H
      exact absurd H (by simp)

/-! ### tontineref15_Latch_Turn: function 26 -/
def tontineref15_Latch_Turn.f (a0_0 : Int) (a0_1 : Int) (l0_2 : List (List Int)) (l0_3 : List (S60)) (a0_4 : Int) (a0_5 : Int) (l0_6 : List Int) (l0_7 : List Int) : Option (Int × Int × List Int × List Int) := if ([] : List Int).length + l0_7.length < 17592186044416 then (some (a0_5, a0_5, (([] : List Int) ++ l0_7), l0_7)) else (none)
def tontineref15_Latch_Turn.T0 : Bool × List (List Nat × List Nat) := (true, [([], []), ([], []), ([], []), ([2], [2]), ([3], [3]), ([4], [4]), ([], []), ([6], [6]), ([7], [7]), ([8], [8]), ([9], [9]), ([0, 0, 2, 3, 4, 5, 9, 10], [0]), ([11, 0, 2, 3, 4, 5, 9, 10], [11]), ([12, 5, 10, 0, 2, 3, 4, 5, 9, 10], [5, 12]), ([1, 0, 1, 2, 3, 4, 5, 6, 7, 8, 9, 10, 11, 12, 13], [1]), ([14, 0, 1, 2, 3, 4, 5, 6, 7, 8, 9, 10, 11, 12, 13], [14]), ([15, 10, 13, 0, 1, 2, 3, 4, 5, 6, 7, 8, 9, 10, 11, 12, 13], [10, 15])])
def tontineref15_Latch_Turn.B0 : List Nat := [0, 0, 0, 4, 12, 28, 0, 64, 192, 448, 960, 2045, 4093, 8189, 16383, 32767, 65535]
theorem tontineref15_Latch_Turn.tab0 : rtab .any (opsOf Tryd.f26 0) = tontineref15_Latch_Turn.T0 := by kernel_rfl
theorem tontineref15_Latch_Turn.bits0 : waitsOk tontineref15_Latch_Turn.T0.2 tontineref15_Latch_Turn.B0 = true := by kernel_rfl
set_option maxHeartbeats 8000000 in
set_option maxRecDepth 100000 in
theorem tontineref15_Latch_Turn.calls (g : Nat) (a0_0 : Int) (a0_1 : Int) (A0_2 : Option Addr) (c0_2 : Nat) (l0_2 : List (List Int)) (A0_3 : Option Addr) (c0_3 : Nat) (l0_3 : List (S60)) (a0_4 : Int) (a0_5 : Int) (P0_6_ : Nat → Prop) (u9000_ : Value) (l0_6 : List Int) (P0_7_ : Nat → Prop) (u9001_ : Value) (l0_7 : List Int) (r1 : Int) (r2 : Int) (r3 : List Int) (r4 : List Int) (w0 w : World) (hI : w.heap[g]? = some (.cells #[.int .i64 a0_0, .int .i64 a0_1, .slice A0_2 l0_2.length c0_2, .slice A0_3 l0_3.length c0_3, .int .i64 a0_4, .int .i64 a0_5, u9000_, u9001_] 49 (0, 0))) (hG : w0.heap.size ≤ g) (hB : Below w0.heap.size w0 w) (hr0_2 : ∀ W_, Kept w W_ (fun k_ => (P0_6_ k_ ∨ P0_7_ k_) ∨ k_ = g) → Kd.C (Kd.slice 3 (Kd.int .i64)) W_ A0_2 l0_2.length l0_2) (hc0_2 : l0_2.length ≤ c0_2) (hr0_3 : ∀ W_, Kept w W_ (fun k_ => (P0_6_ k_ ∨ P0_7_ k_) ∨ k_ = g) → Kd.C k60 W_ A0_3 l0_3.length l0_3) (hc0_3 : l0_3.length ≤ c0_3) (ho0_6 : Kd.R (Kd.int .i64) 3 w w0.heap.size P0_6_ u9000_ l0_6) (hp0_6_0_7 : ∀ k_, P0_6_ k_ → ¬ P0_7_ k_) (ho0_7 : Kd.R (Kd.int .i64) 3 w w0.heap.size P0_7_ u9001_ l0_7) (hp0_7_0_6 : ∀ k_, P0_7_ k_ → ¬ P0_6_ k_) (h : tontineref15_Latch_Turn.f a0_0 a0_1 l0_2 l0_3 a0_4 a0_5 l0_6 l0_7 = some (r1, r2, r3, r4)) :
    Calls Tryd.prog 26 #[.pointer (some ⟨g, 0, none⟩)] w fun e w' => ∃ v2_ v3_ : Value, e = .returned (.tuple #[]) ∧ Kd.R (Kd.int .i64) 3 w' w0.heap.size (fun k_ => ((P0_6_ k_ ∨ P0_7_ k_) ∨ w.heap.size ≤ k_) ∧ some k_ ≠ (v3_ : Value).ownBlock) v2_ r3 ∧ Kd.R (Kd.int .i64) 3 w' w0.heap.size (fun k_ => ((P0_6_ k_ ∨ P0_7_ k_) ∨ w.heap.size ≤ k_) ∧ some k_ ≠ (v2_ : Value).ownBlock) v3_ r4 ∧ w'.heap[g]? = some (.cells #[.int .i64 a0_0, .int .i64 a0_1, .slice A0_2 l0_2.length c0_2, .slice A0_3 l0_3.length c0_3, .int .i64 r1, .int .i64 r2, v2_, v3_] 49 (0, 0)) ∧ Below w0.heap.size w0 w' ∧ Kept w w' (fun k_ => (P0_6_ k_ ∨ P0_7_ k_) ∨ k_ = g) := by
 have HR0_2 := Goto.m0 hr0_2
 have HC0_2 := Goto.m0 hc0_2
 clear hr0_2 hc0_2
 have HR0_3 := Goto.m0 hr0_3
 have HC0_3 := Goto.m0 hc0_3
 clear hr0_3 hc0_3
 have HO0_6 := Goto.m0 (show Kd.R (Kd.int .i64) 3 w w0.heap.size (fun k_ => ((P0_6_ k_ ∨ P0_7_ k_) ∨ w.heap.size ≤ k_) ∧ some k_ ≠ (u9001_ : Value).ownBlock) u9000_ l0_6 from Kd.R_mono ho0_6 (fun k_ hk => ⟨(.inl (.inl hk)), fun e_ => hp0_6_0_7 k_ hk (ho0_7.1 k_ e_.symm)⟩))
 have HO0_7 := Goto.m0 (show Kd.R (Kd.int .i64) 3 w w0.heap.size (fun k_ => ((P0_6_ k_ ∨ P0_7_ k_) ∨ w.heap.size ≤ k_) ∧ some k_ ≠ (u9000_ : Value).ownBlock) u9001_ l0_7 from Kd.R_mono ho0_7 (fun k_ hk => ⟨(.inl (.inr hk)), fun e_ => hp0_7_0_6 k_ hk (ho0_6.1 k_ e_.symm)⟩))
 have BK0 := Goto.m0 hI
 have GE0 := Goto.m0 hG
 clear hI hG
 have HK := Goto.m0 (Kept.refl w (fun k_ => (P0_6_ k_ ∨ P0_7_ k_) ∨ k_ = g))
 have HW0 := Goto.m0 hB.size
 have HB := Goto.m0 hB
 clear hB
 have H : (if ([] : List Int).length + l0_7.length < 17592186044416 then (some (a0_5, a0_5, (([] : List Int) ++ l0_7), l0_7)) else (none)) = some (r1, r2, r3, r4) := h
 clear h
 by_cases c2 : ([] : List Int).length + l0_7.length < 17592186044416
 ·
  rw [if_pos c2] at H
  have LMc2 := Goto.m0 c2
  clear c2
  obtain ⟨y346, hy346⟩ : ∃ y_ : List Int, y_ = (([] : List Int) ++ l0_7) := ⟨_, rfl⟩
  replace H : (some (a0_5, a0_5, y346, l0_7)) = some (r1, r2, r3, r4) := by first | (rw [hy346]; with_reducible exact H) | (have H2_ := (Option.bind_some _ _).symm.trans H; rw [hy346]; with_reducible exact H2_) | (have H2_ := (Option.bind_some _ _).symm.trans H; with_reducible exact H2_) | with_reducible exact H | (rw [hy346]; exact H) | exact H
  have Ny346 := Goto.m0 hy346
  clear hy346
  simp only [Option.some.injEq, Prod.mk.injEq] at H
  obtain ⟨rfl, rfl, rfl, rfl⟩ := H
  go_enter Tryd.func26, Tryd.ntmps26
  try go_wp2
  replace HO0_6 := Goto.m0 (Kd.R_drew HO0_6.out); replace HO0_7 := Goto.m0 (Kd.R_drew HO0_7.out); replace BK0 := Goto.m0 (blk_drew BK0.out); replace HK := Goto.m0 (Kept.drew HK.out); replace HB := Goto.m0 (below_drew1 HB.out)
  obtain ⟨Ao5, co5, eo5⟩ := Kd.R_slice HO0_7.out
  (first | subst eo5 | (injection eo5 with f1_ f2_ f3_; have f4_ := f1_.symm; have f5_ := f3_.symm; clear f1_ f2_ f3_; subst f4_; subst f5_))
  refine start_ (n := 17) (S := fun w' => w'.cell? ⟨g, 0, none⟩ = some (.int .i64 a0_0) ∧ w'.cell? ⟨g, 1, none⟩ = some (.int .i64 a0_1) ∧ w'.cell? ⟨g, 2, none⟩ = some (.slice A0_2 l0_2.length c0_2) ∧ w'.cell? ⟨g, 3, none⟩ = some (.slice A0_3 l0_3.length c0_3) ∧ w'.cell? ⟨g, 4, none⟩ = some (.int .i64 a0_4) ∧ w'.cell? ⟨g, 5, none⟩ = some (.int .i64 a0_5) ∧ w'.cell? ⟨g, 6, none⟩ = some (u9000_) ∧ w'.cell? ⟨g, 7, none⟩ = some (.slice Ao5 l0_7.length co5)) (ds := [13, 16]) (.replicate 17 false) (by kernel_rfl) rfl rfl ⟨(blk_cell BK0.out 0).trans rfl, (blk_cell BK0.out 1).trans rfl, (blk_cell BK0.out 2).trans rfl, (blk_cell BK0.out 3).trans rfl, (blk_cell BK0.out 4).trans rfl, (blk_cell BK0.out 5).trans rfl, (blk_cell BK0.out 6).trans rfl, (blk_cell BK0.out 7).trans rfl⟩ (fun hHeld => ?_); refine with_tabW tontineref15_Latch_Turn.tab0 tontineref15_Latch_Turn.bits0 (fun HT_ HW_ => ?_)
  generalize w.drew = w3 at HO0_6 HO0_7 BK0 HK HB hHeld ⊢
  refine Goto.pu 0 2 17 1 ?_
  refine Goto.pu 1 3 17 3 ?_
  refine Goto.pu 2 4 17 7 ?_
  refine Goto.pu 3 5 17 15 ?_
  refine Goto.pu 4 6 17 31 ?_
  refine Goto.pu 6 8 17 95 ?_
  refine Goto.pu 7 9 17 223 ?_
  refine Goto.pu 8 10 17 479 ?_
  refine take_ (i := 5) (N := some 7) (v := ?_) (a' := ?_) (Goto.bs 17 511) rfl rfl (take_ofW HT_.out HW_.out (by kernel_rfl)) (fun _ _ _ h => h) (Or.inl ⟨by rfl, ?_⟩) hHeld ?_ ?_
  rotate_left
  ·
   rintro w' ⟨s0, s1, s2, s3, s4, s5, s6, s7⟩
   go_simp
   with_reducible rfl
  rotate_left
  ·
   exact Goto.ap
  refine take_ (i := 9) (N := some 11) (v := ?_) (a' := ?_) (Goto.bs 17 1023) rfl rfl (take_ofW HT_.out HW_.out (by kernel_rfl)) (fun _ _ _ h => h) (Or.inl ⟨by rfl, ?_⟩) hHeld ?_ ?_
  rotate_left
  ·
   rintro w' ⟨s0, s1, s2, s3, s4, s5, s6, s7⟩
   go_simp
   with_reducible rfl
  rotate_left
  ·
   exact Goto.ap
  refine one_ (i := 10) (N := some 12) (Goto.bs 17 2047) rfl rfl (one_of HT_.out (by kernel_rfl)) (by decide) (fun K hK => ?_)
  refine Kd.R_append_rows_step (Kd.int .i64) (w0 := w0) w0.heap.size rfl (.const (.slice none 0 0)) (.tmp 11) 47 3 (.int .i64 0) 8 rfl Tryd.underlying47 info3 rfl (by decide) (by omega) (.slice none 0 0) ([] : List Int) l0_7 _ _ _ (fun k_ => ((P0_6_ k_ ∨ P0_7_ k_) ∨ w.heap.size ≤ k_) ∧ some k_ ≠ (u9000_ : Value).ownBlock ∧ some k_ ≠ (.slice Ao5 l0_7.length co5 : Value).ownBlock) (fun _ => False) rfl rfl ?aO ?aR (fun _ _ h => h) (fun _ h => h.elim) ?aF ?aB ?aS ?aL ?_
  (case aR => repeat (first | exact (Kd.R_reads' HO0_7.out).2.2 | (with_reducible refine Kd.C_alloc ?_ _) | (with_reducible refine Kd.C_drewN ?_ _) | (with_reducible refine Kd.C_drew ?_)))
  (case aB => exact (Goto.hx HB))
  (case aF => exact (fun k_ hk => ⟨(.inr (Nat.le_trans (by first | exact HK.out.1 | exact (show Kept w _ (fun k_ => (P0_6_ k_ ∨ P0_7_ k_) ∨ k_ = g) from by repeat (first | (with_reducible first | exact HK.out | apply Kept.alloc | apply Kept.drewN | apply Kept.drew | refine Kept.setCell ?_ (.inl (.inr rfl)) _) | exact HK.out)).1) hk)), Kd.fresh' (Kd.R_lt (Goto.rk HO0_6)) k_ hk, Kd.fresh' (Kd.R_lt (Goto.rk HO0_7)) k_ hk⟩))
  (case aO => exact ((Kd.R_nil _ _ _ _ (fun k_ => ((P0_6_ k_ ∨ P0_7_ k_) ∨ w.heap.size ≤ k_) ∧ some k_ ≠ (u9000_ : Value).ownBlock ∧ some k_ ≠ (.slice Ao5 l0_7.length co5 : Value).ownBlock))))
  (case aS => exact (below_size (Goto.hx HB)))
  (case aL => have := LMc2.out; omega)
  intro v347 w4 ho hb hg hat
  rw [← Ny346.out] at ho
  have HO348 := Goto.m0 (ho); replace BK0 := Goto.m0 (blk_grown (g := g) (o := .cells #[.int .i64 a0_0, .int .i64 a0_1, .slice A0_2 l0_2.length c0_2, .slice A0_3 l0_3.length c0_3, .int .i64 a0_4, .int .i64 a0_5, u9000_, .slice Ao5 l0_7.length co5] 49 (0, 0)) (Goto.bx BK0) hg (by simp [Value.ownBlock])); replace HO0_6 := Goto.m0 (Kd.R_after (Kd.R_apart_nil (Goto.rk HO0_6)) hg hat); replace HO0_7 := Goto.m0 (Kd.R_after (Kd.R_apart_nil (Goto.rk HO0_7)) hg hat); replace HB := Goto.m0 (hb); replace HK := Goto.m0 (Kept.of_grown (S := (fun k_ => (P0_6_ k_ ∨ P0_7_ k_) ∨ k_ = g)) hg (by repeat (first | (with_reducible first | exact HK.out | apply Kept.alloc | apply Kept.drewN | apply Kept.drew | refine Kept.setCell ?_ (.inl (.inr rfl)) _) | exact HK.out)) (fun k_ e_ => by simp [Value.ownBlock] at e_)); clear ho hb hg hat
  obtain ⟨Ao7, co7, eo7⟩ := Kd.R_slice HO348.out
  (first | subst eo7 | (injection eo7 with f1_ f2_ f3_; have f4_ := f1_.symm; have f5_ := f3_.symm; clear f1_ f2_ f3_; subst f4_; subst f5_))
  refine hK.out _ _ ⟨(blk_cell BK0.out 0).trans rfl, (blk_cell BK0.out 1).trans rfl, (blk_cell BK0.out 2).trans rfl, (blk_cell BK0.out 3).trans rfl, (blk_cell BK0.out 4).trans rfl, (blk_cell BK0.out 5).trans rfl, (blk_cell BK0.out 6).trans rfl, (blk_cell BK0.out 7).trans rfl⟩ (fun hHeld => ?_)
  clear hK K
  refine norm_ (a' := ?_) ?_ ?_
  rotate_left
  ·
   show Act.put _ (some 12) _ = _
   exact Goto.ap
  refine Goto.pu 11 13 17 4095 ?_
  refine Goto.pu 12 14 17 8191 ?_
  refine last_ (i := 13) (N := none) (Goto.bs 17 16383) rfl rfl (one_of HT_.out (by kernel_rfl)) (by decide) (fun K hK => ?_)
  have hs6 : w4.cell? ⟨g, 4, none⟩ = some (.int .i64 a0_4) := (blk_cell BK0.out 4).trans rfl; have hfs6 := Goto.bf BK0 4
  refine skip_ (w1 := ?_) (by rfl) rfl ?_ ?_
  rotate_left
  ·
   go_simp
   rfl
  refine hK.out _ _ ?_
  clear hK K
  refine Goto.pu 14 15 17 32767 ?_
  refine Goto.pu 15 16 17 65535 ?_
  refine last_ (i := 16) (N := none) (Goto.bs 17 131071) rfl rfl (one_of HT_.out (by kernel_rfl)) (by decide) (fun K hK => ?_)
  have hs8 : w4.cell? ⟨g, 6, none⟩ = some (u9000_) := (blk_cell BK0.out 6).trans rfl; have hfs8 := Goto.bf BK0 6
  refine skip_ (w1 := ?_) (by rfl) rfl ?_ ?_
  rotate_left
  ·
   go_simp
   rfl
  refine hK.out _ _ ?_
  clear hK K
  refine done_ (done_of HT_.out (by kernel_rfl)) ?_
  try go_wp2
  first | go_end0 | ((try simp only [Exit.inBlock, Exit.then]); refine bodyPost_ret (results_none rfl _ _ _) rfl ?_)
  (try simp only [← exists_and_left])
  exact ⟨_, _, (by first | exact Goto.er | trivial), by (with_reducible repeat (first | apply Kd.R_alloc | apply Kd.R_drewN | apply Kd.R_drew)); exact Kd.R_mono (Kd.R_far (p := ⟨g, 6, none⟩) (Kd.R_far (p := ⟨g, 4, none⟩) (Kd.R_types HO348.out BK0.out (by decide)) (fun _ hk => hk.2) (.int .i64 a0_5)) (fun _ hk => hk.2) (.slice Ao7 y346.length co7)) (fun _ hk => ⟨hk.1.1, hk.1.2.2⟩), by (with_reducible repeat (first | apply Kd.R_alloc | apply Kd.R_drewN | apply Kd.R_drew)); exact Kd.R_mono (Kd.R_far (p := ⟨g, 6, none⟩) (Kd.R_far (p := ⟨g, 4, none⟩) (Kd.R_types HO0_7.out BK0.out (by decide)) (fun _ hk => hk.2) (.int .i64 a0_5)) (fun _ hk => hk.2) (.slice Ao7 y346.length co7)) (fun _ hk => ⟨hk.1.1.1, hk.1.2⟩), by (with_reducible repeat first | refine blk_drewN ?_ _ | refine blk_drew ?_ | refine blk_alloc ?_ _); refine blk_put (cs := #[.int .i64 a0_0, .int .i64 a0_1, .slice A0_2 l0_2.length c0_2, .slice A0_3 l0_3.length c0_3, .int .i64 a0_5, .int .i64 a0_5, u9000_, .slice Ao5 l0_7.length co5]) ?_ 6 _ rfl; (with_reducible repeat first | refine blk_drewN ?_ _ | refine blk_drew ?_ | refine blk_alloc ?_ _); refine blk_put (cs := #[.int .i64 a0_0, .int .i64 a0_1, .slice A0_2 l0_2.length c0_2, .slice A0_3 l0_3.length c0_3, .int .i64 a0_4, .int .i64 a0_5, u9000_, .slice Ao5 l0_7.length co5]) ?_ 4 _ rfl; (with_reducible repeat first | refine blk_drewN ?_ _ | refine blk_drew ?_ | refine blk_alloc ?_ _); exact BK0.out, by repeat (first | (with_reducible first | exact HB.out | apply below_alloc | apply pw_below_drewN | apply below_drew1 | refine below_set ?_ GE0.out) | exact HB.out), by repeat (first | (with_reducible first | exact HK.out | apply Kept.alloc | apply Kept.drewN | apply Kept.drew | refine Kept.setCell ?_ (.inl (.inr rfl)) _) | exact HK.out)⟩
 ·
  rw [if_neg c2] at H
  exact absurd H (by simp)

end Go.Proofs.YtbhfkhcedjgpdaaDoor.P
