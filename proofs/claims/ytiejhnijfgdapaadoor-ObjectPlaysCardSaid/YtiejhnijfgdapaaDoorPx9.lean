/- Printed by a program of this workplace (a turned copy of the kit's optional print), out of the translation; not trusted: Lean checks it. -/
import Derived.Test.YtiejhnijfgdapaaDoorPx0
namespace Go.Proofs.YtiejhnijfgdapaaDoor.P
open Go.RowKit Go.Proofs.YtiejhnijfgdapaaDoorW.PrintWords Go.Proofs.YtiejhnijfgdapaaDoorW.PrintLast Go.Proofs.YtiejhnijfgdapaaDoorW.PrintMore
attribute [local go_sem] max2_int min2_int max_two min_two max_three min_three max_four min_four   -- for this text's walks alone
set_option linter.unusedVariables false
set_option linter.unusedSimpArgs false

/-! ### tontineref8_Objects_Drop: function 28 -/
mutual
def tontineref8_Objects_Drop.l0 : Nat → Int → Bool → Int → Int → Int → Int → Int → List Int → List Int → List Int → List Int → Option (Bool × Int × Int × Int × Int × List Int × List Int × List Int × List Int)
  | 0, _, _, _, _, _, _, _, _, _, _, _ => none
  | k + 1, x1, x5, x6, x1000, x1001, x1002, x1003, x1004, x1005, x1006, x1007 => if x6 < 4 then (tontineref8_Objects_Drop.l1 k x1 x5 x6 ([] : List Int) 0 x1000 x1001 x1002 x1003 x1004 x1005 x1006 x1007) else (some (x5, x1000, x1001, x1002, x1003, x1004, x1005, x1006, x1007))
def tontineref8_Objects_Drop.l1 : Nat → Int → Bool → Int → List Int → Int → Int → Int → Int → Int → List Int → List Int → List Int → List Int → Option (Bool × Int × Int × Int × Int × List Int × List Int × List Int × List Int)
  | 0, _, _, _, _, _, _, _, _, _, _, _, _, _ => none
  | k + 1, x1, x5, x6, x7, x8, x1000, x1001, x1002, x1003, x1004, x1005, x1006, x1007 => if 0 ≤ x6 then (if x6 < 4 then (if x6 = 0 then (if x8 < (x1004.length : Int) then (if 0 ≤ x8 then (if (rd x1004 x8) = x1 then (tontineref8_Objects_Drop.l1 k x1 true x6 x7 (wrap64 (x8 + 1)) x1000 x1001 x1002 x1003 x1004 x1005 x1006 x1007) else (if x7.length < 17592186044416 then (tontineref8_Objects_Drop.l1 k x1 x5 x6 (x7 ++ [rd x1004 x8]) (wrap64 (x8 + 1)) x1000 x1001 x1002 x1003 x1004 x1005 x1006 x1007) else (none))) else (none)) else (tontineref8_Objects_Drop.l0 k x1 x5 (wrap64 (x6 + 1)) x1000 x1001 x1002 x1003 x7 x1005 x1006 x1007)) else (if x6 = 1 then (if x8 < (x1005.length : Int) then (if 0 ≤ x8 then (if (rd x1005 x8) = x1 then (tontineref8_Objects_Drop.l1 k x1 true x6 x7 (wrap64 (x8 + 1)) x1000 x1001 x1002 x1003 x1004 x1005 x1006 x1007) else (if x7.length < 17592186044416 then (tontineref8_Objects_Drop.l1 k x1 x5 x6 (x7 ++ [rd x1005 x8]) (wrap64 (x8 + 1)) x1000 x1001 x1002 x1003 x1004 x1005 x1006 x1007) else (none))) else (none)) else (tontineref8_Objects_Drop.l0 k x1 x5 (wrap64 (x6 + 1)) x1000 x1001 x1002 x1003 x1004 x7 x1006 x1007)) else (if x6 = 2 then (if x8 < (x1006.length : Int) then (if 0 ≤ x8 then (if (rd x1006 x8) = x1 then (tontineref8_Objects_Drop.l1 k x1 true x6 x7 (wrap64 (x8 + 1)) x1000 x1001 x1002 x1003 x1004 x1005 x1006 x1007) else (if x7.length < 17592186044416 then (tontineref8_Objects_Drop.l1 k x1 x5 x6 (x7 ++ [rd x1006 x8]) (wrap64 (x8 + 1)) x1000 x1001 x1002 x1003 x1004 x1005 x1006 x1007) else (none))) else (none)) else (tontineref8_Objects_Drop.l0 k x1 x5 (wrap64 (x6 + 1)) x1000 x1001 x1002 x1003 x1004 x1005 x7 x1007)) else (if x6 = 3 then (if x8 < (x1007.length : Int) then (if 0 ≤ x8 then (if (rd x1007 x8) = x1 then (tontineref8_Objects_Drop.l1 k x1 true x6 x7 (wrap64 (x8 + 1)) x1000 x1001 x1002 x1003 x1004 x1005 x1006 x1007) else (if x7.length < 17592186044416 then (tontineref8_Objects_Drop.l1 k x1 x5 x6 (x7 ++ [rd x1007 x8]) (wrap64 (x8 + 1)) x1000 x1001 x1002 x1003 x1004 x1005 x1006 x1007) else (none))) else (none)) else (tontineref8_Objects_Drop.l0 k x1 x5 (wrap64 (x6 + 1)) x1000 x1001 x1002 x1003 x1004 x1005 x1006 x7)) else (none))))) else (none)) else (none)
end
def tontineref8_Objects_Drop.f (k : Nat) (a0_0 : Int) (a0_1 : Int) (a0_2 : Int) (a0_3 : Int) (l0_4 : List Int) (l0_5 : List Int) (l0_6 : List Int) (l0_7 : List Int) (a1 : Int) : Option (Bool × Int × Int × Int × Int × List Int × List Int × List Int × List Int) := tontineref8_Objects_Drop.l0 k a1 false 0 a0_0 a0_1 a0_2 a0_3 l0_4 l0_5 l0_6 l0_7
set_option maxHeartbeats 8000000 in
set_option maxRecDepth 100000 in
theorem tontineref8_Objects_Drop.calls (k : Nat) (g : Nat) (a0_0 : Int) (a0_1 : Int) (a0_2 : Int) (a0_3 : Int) (P0_4_ : Nat → Prop) (u9000_ : Value) (l0_4 : List Int) (P0_5_ : Nat → Prop) (u9001_ : Value) (l0_5 : List Int) (P0_6_ : Nat → Prop) (u9002_ : Value) (l0_6 : List Int) (P0_7_ : Nat → Prop) (u9003_ : Value) (l0_7 : List Int) (a1 : Int) (r1 : Bool) (r2 : Int) (r3 : Int) (r4 : Int) (r5 : Int) (r6 : List Int) (r7 : List Int) (r8 : List Int) (r9 : List Int) (w0 w : World) (hI : w.heap[g]? = some (.cells #[.int .i64 a0_0, .int .i64 a0_1, .int .i64 a0_2, .int .i64 a0_3, u9000_, u9001_, u9002_, u9003_] 55 (0, 0))) (hG : w0.heap.size ≤ g) (hB : Below w0.heap.size w0 w) (ho0_4 : Kd.Q (Kd.int .i64) 3 w w0.heap.size P0_4_ u9000_ l0_4) (hp0_4_0_5 : ∀ k_, P0_4_ k_ → ¬ P0_5_ k_) (hp0_4_0_6 : ∀ k_, P0_4_ k_ → ¬ P0_6_ k_) (hp0_4_0_7 : ∀ k_, P0_4_ k_ → ¬ P0_7_ k_) (ho0_5 : Kd.Q (Kd.int .i64) 3 w w0.heap.size P0_5_ u9001_ l0_5) (hp0_5_0_4 : ∀ k_, P0_5_ k_ → ¬ P0_4_ k_) (hp0_5_0_6 : ∀ k_, P0_5_ k_ → ¬ P0_6_ k_) (hp0_5_0_7 : ∀ k_, P0_5_ k_ → ¬ P0_7_ k_) (ho0_6 : Kd.Q (Kd.int .i64) 3 w w0.heap.size P0_6_ u9002_ l0_6) (hp0_6_0_4 : ∀ k_, P0_6_ k_ → ¬ P0_4_ k_) (hp0_6_0_5 : ∀ k_, P0_6_ k_ → ¬ P0_5_ k_) (hp0_6_0_7 : ∀ k_, P0_6_ k_ → ¬ P0_7_ k_) (ho0_7 : Kd.Q (Kd.int .i64) 3 w w0.heap.size P0_7_ u9003_ l0_7) (hp0_7_0_4 : ∀ k_, P0_7_ k_ → ¬ P0_4_ k_) (hp0_7_0_5 : ∀ k_, P0_7_ k_ → ¬ P0_5_ k_) (hp0_7_0_6 : ∀ k_, P0_7_ k_ → ¬ P0_6_ k_) (h : tontineref8_Objects_Drop.f k a0_0 a0_1 a0_2 a0_3 l0_4 l0_5 l0_6 l0_7 a1 = some (r1, r2, r3, r4, r5, r6, r7, r8, r9)) :
    Calls Tryd.prog 28 #[.pointer (some ⟨g, 0, none⟩), .int .i64 a1] w fun e w' => ∃ v5_ v6_ v7_ v8_ : Value, e = .returned (.bool r1) ∧ Kd.Q (Kd.int .i64) 3 w' w0.heap.size (fun k_ => ((P0_4_ k_ ∨ P0_5_ k_ ∨ P0_6_ k_ ∨ P0_7_ k_) ∨ w.heap.size ≤ k_) ∧ some k_ ≠ (v6_ : Value).ownBlock ∧ some k_ ≠ (v7_ : Value).ownBlock ∧ some k_ ≠ (v8_ : Value).ownBlock) v5_ r6 ∧ Kd.Q (Kd.int .i64) 3 w' w0.heap.size (fun k_ => ((P0_4_ k_ ∨ P0_5_ k_ ∨ P0_6_ k_ ∨ P0_7_ k_) ∨ w.heap.size ≤ k_) ∧ some k_ ≠ (v5_ : Value).ownBlock ∧ some k_ ≠ (v7_ : Value).ownBlock ∧ some k_ ≠ (v8_ : Value).ownBlock) v6_ r7 ∧ Kd.Q (Kd.int .i64) 3 w' w0.heap.size (fun k_ => ((P0_4_ k_ ∨ P0_5_ k_ ∨ P0_6_ k_ ∨ P0_7_ k_) ∨ w.heap.size ≤ k_) ∧ some k_ ≠ (v5_ : Value).ownBlock ∧ some k_ ≠ (v6_ : Value).ownBlock ∧ some k_ ≠ (v8_ : Value).ownBlock) v7_ r8 ∧ Kd.Q (Kd.int .i64) 3 w' w0.heap.size (fun k_ => ((P0_4_ k_ ∨ P0_5_ k_ ∨ P0_6_ k_ ∨ P0_7_ k_) ∨ w.heap.size ≤ k_) ∧ some k_ ≠ (v5_ : Value).ownBlock ∧ some k_ ≠ (v6_ : Value).ownBlock ∧ some k_ ≠ (v7_ : Value).ownBlock) v8_ r9 ∧ w'.heap[g]? = some (.cells #[.int .i64 r2, .int .i64 r3, .int .i64 r4, .int .i64 r5, v5_, v6_, v7_, v8_] 55 (0, 0)) ∧ Below w0.heap.size w0 w' ∧ Kept w w' (fun k_ => (P0_4_ k_ ∨ P0_5_ k_ ∨ P0_6_ k_ ∨ P0_7_ k_) ∨ k_ = g) := by
 have HO0_4 := Goto.m0 (show Kd.Q (Kd.int .i64) 3 w w0.heap.size (fun k_ => ((P0_4_ k_ ∨ P0_5_ k_ ∨ P0_6_ k_ ∨ P0_7_ k_) ∨ w.heap.size ≤ k_) ∧ some k_ ≠ (u9001_ : Value).ownBlock ∧ some k_ ≠ (u9002_ : Value).ownBlock ∧ some k_ ≠ (u9003_ : Value).ownBlock) u9000_ l0_4 from Kd.Q_mono ho0_4 (fun k_ hk => ⟨(.inl (.inl hk)), fun e_ => hp0_4_0_5 k_ hk (ho0_5.1 k_ e_.symm), fun e_ => hp0_4_0_6 k_ hk (ho0_6.1 k_ e_.symm), fun e_ => hp0_4_0_7 k_ hk (ho0_7.1 k_ e_.symm)⟩))
 have HO0_5 := Goto.m0 (show Kd.Q (Kd.int .i64) 3 w w0.heap.size (fun k_ => ((P0_4_ k_ ∨ P0_5_ k_ ∨ P0_6_ k_ ∨ P0_7_ k_) ∨ w.heap.size ≤ k_) ∧ some k_ ≠ (u9000_ : Value).ownBlock ∧ some k_ ≠ (u9002_ : Value).ownBlock ∧ some k_ ≠ (u9003_ : Value).ownBlock) u9001_ l0_5 from Kd.Q_mono ho0_5 (fun k_ hk => ⟨(.inl (.inr (.inl hk))), fun e_ => hp0_5_0_4 k_ hk (ho0_4.1 k_ e_.symm), fun e_ => hp0_5_0_6 k_ hk (ho0_6.1 k_ e_.symm), fun e_ => hp0_5_0_7 k_ hk (ho0_7.1 k_ e_.symm)⟩))
 have HO0_6 := Goto.m0 (show Kd.Q (Kd.int .i64) 3 w w0.heap.size (fun k_ => ((P0_4_ k_ ∨ P0_5_ k_ ∨ P0_6_ k_ ∨ P0_7_ k_) ∨ w.heap.size ≤ k_) ∧ some k_ ≠ (u9000_ : Value).ownBlock ∧ some k_ ≠ (u9001_ : Value).ownBlock ∧ some k_ ≠ (u9003_ : Value).ownBlock) u9002_ l0_6 from Kd.Q_mono ho0_6 (fun k_ hk => ⟨(.inl (.inr (.inr (.inl hk)))), fun e_ => hp0_6_0_4 k_ hk (ho0_4.1 k_ e_.symm), fun e_ => hp0_6_0_5 k_ hk (ho0_5.1 k_ e_.symm), fun e_ => hp0_6_0_7 k_ hk (ho0_7.1 k_ e_.symm)⟩))
 have HO0_7 := Goto.m0 (show Kd.Q (Kd.int .i64) 3 w w0.heap.size (fun k_ => ((P0_4_ k_ ∨ P0_5_ k_ ∨ P0_6_ k_ ∨ P0_7_ k_) ∨ w.heap.size ≤ k_) ∧ some k_ ≠ (u9000_ : Value).ownBlock ∧ some k_ ≠ (u9001_ : Value).ownBlock ∧ some k_ ≠ (u9002_ : Value).ownBlock) u9003_ l0_7 from Kd.Q_mono ho0_7 (fun k_ hk => ⟨(.inl (.inr (.inr (.inr hk)))), fun e_ => hp0_7_0_4 k_ hk (ho0_4.1 k_ e_.symm), fun e_ => hp0_7_0_5 k_ hk (ho0_5.1 k_ e_.symm), fun e_ => hp0_7_0_6 k_ hk (ho0_6.1 k_ e_.symm)⟩))
 have BK0 := Goto.m0 hI
 have GE0 := Goto.m0 hG
 clear hI hG
 have HK := Goto.m0 (Kept.refl w (fun k_ => (P0_4_ k_ ∨ P0_5_ k_ ∨ P0_6_ k_ ∨ P0_7_ k_) ∨ k_ = g))
 have HW0 := Goto.m0 hB.size
 have HB := Goto.m0 hB
 clear hB
 have H : (tontineref8_Objects_Drop.l0 k a1 false 0 a0_0 a0_1 a0_2 a0_3 l0_4 l0_5 l0_6 l0_7) = some (r1, r2, r3, r4, r5, r6, r7, r8, r9) := h
 clear h
 have H' := Goto.m0 H
 clear H
 go_enter Tryd.func28, Tryd.ntmps28
 go_wp2
 go_loopg [5, 6] k (fun kq v5 v6 w' => ∃ (x5_1 : Bool) (x6_1 : Int) (x1004_1 : List Int) (x1005_1 : List Int) (x1006_1 : List Int) (x1007_1 : List Int) (u1004 : Value) (u1005 : Value) (u1006 : Value) (u1007 : Value), v5 = .bool x5_1 ∧ v6 = .int .i64 x6_1 ∧ Aside0 (tontineref8_Objects_Drop.l0 kq a1 x5_1 x6_1 a0_0 a0_1 a0_2 a0_3 x1004_1 x1005_1 x1006_1 x1007_1 = some (r1, r2, r3, r4, r5, r6, r7, r8, r9)) ∧ Aside0 (kq ≤ k) ∧ Aside0 (Kd.Q (Kd.int .i64) 3 w' w0.heap.size (fun k_ => ((P0_4_ k_ ∨ P0_5_ k_ ∨ P0_6_ k_ ∨ P0_7_ k_) ∨ w.heap.size ≤ k_) ∧ some k_ ≠ (u1005 : Value).ownBlock ∧ some k_ ≠ (u1006 : Value).ownBlock ∧ some k_ ≠ (u1007 : Value).ownBlock) u1004 x1004_1) ∧ Aside0 (Kd.Q (Kd.int .i64) 3 w' w0.heap.size (fun k_ => ((P0_4_ k_ ∨ P0_5_ k_ ∨ P0_6_ k_ ∨ P0_7_ k_) ∨ w.heap.size ≤ k_) ∧ some k_ ≠ (u1004 : Value).ownBlock ∧ some k_ ≠ (u1006 : Value).ownBlock ∧ some k_ ≠ (u1007 : Value).ownBlock) u1005 x1005_1) ∧ Aside0 (Kd.Q (Kd.int .i64) 3 w' w0.heap.size (fun k_ => ((P0_4_ k_ ∨ P0_5_ k_ ∨ P0_6_ k_ ∨ P0_7_ k_) ∨ w.heap.size ≤ k_) ∧ some k_ ≠ (u1004 : Value).ownBlock ∧ some k_ ≠ (u1005 : Value).ownBlock ∧ some k_ ≠ (u1007 : Value).ownBlock) u1006 x1006_1) ∧ Aside0 (Kd.Q (Kd.int .i64) 3 w' w0.heap.size (fun k_ => ((P0_4_ k_ ∨ P0_5_ k_ ∨ P0_6_ k_ ∨ P0_7_ k_) ∨ w.heap.size ≤ k_) ∧ some k_ ≠ (u1004 : Value).ownBlock ∧ some k_ ≠ (u1005 : Value).ownBlock ∧ some k_ ≠ (u1006 : Value).ownBlock) u1007 x1007_1) ∧ Aside0 (w'.heap[g]? = some (.cells #[.int .i64 a0_0, .int .i64 a0_1, .int .i64 a0_2, .int .i64 a0_3, u1004, u1005, u1006, u1007] 55 (0, 0))) ∧ Aside0 (Kept w w' (fun k_ => (P0_4_ k_ ∨ P0_5_ k_ ∨ P0_6_ k_ ∨ P0_7_ k_) ∨ k_ = g)) ∧ Aside0 (Below w0.heap.size w0 w'))
 case atStart => exact ⟨(false), (0), (l0_4), (l0_5), (l0_6), (l0_7), (u9000_), (u9001_), (u9002_), (u9003_), (by first | rfl | (simp; done) | (simp [*]; done) | (congr 1; unfold wrap64; omega)), (by first | rfl | (simp; done) | (simp [*]; done) | (congr 1; unfold wrap64; omega)), H', ⟨Nat.le_refl _⟩, ⟨by (with_reducible repeat (first | apply Kd.Q_alloc | apply Kd.Q_drewN | apply Kd.Q_drew)); exact HO0_4.out⟩, ⟨by (with_reducible repeat (first | apply Kd.Q_alloc | apply Kd.Q_drewN | apply Kd.Q_drew)); exact HO0_5.out⟩, ⟨by (with_reducible repeat (first | apply Kd.Q_alloc | apply Kd.Q_drewN | apply Kd.Q_drew)); exact HO0_6.out⟩, ⟨by (with_reducible repeat (first | apply Kd.Q_alloc | apply Kd.Q_drewN | apply Kd.Q_drew)); exact HO0_7.out⟩, ⟨Goto.bx BK0⟩, ⟨by repeat (first | (with_reducible first | exact HK.out | apply Kept.alloc | apply Kept.drewN | apply Kept.drew | refine Kept.setCell ?_ (.inl (.inr rfl)) _) | exact HK.out)⟩, ⟨Goto.hx HB⟩⟩
 case round =>
  clear H'
  try clear c2; try clear p2
  obtain ⟨x5_1, x6_1, x1004_1, x1005_1, x1006_1, x1007_1, u1004, u1005, u1006, u1007, rfl, rfl, HA, HK1, HO_1004, HO_1005, HO_1006, HO_1007, BK0, HK, HB⟩ := hrel
  cases gk with
  | zero => exact absurd HA.out (by simp [tontineref8_Objects_Drop.l0])
  | succ k1 =>
   have H := HA.out; clear HA
   simp only [tontineref8_Objects_Drop.l0] at H
   by_cases c3 : x6_1 < 4
   ·
    rw [if_pos c3] at H
    have c3b0 : decide (x6_1 < 4) = true := decide_eq_true c3
    clear c3
    have H' := Goto.m0 H
    clear H
    go_wp2
    go_loopg [5, 7, 8] k1 (fun kq v5 v7 v8 w' => ∃ (x5_2 : Bool) (x7_2 : List Int) (x8_2 : Int), v5 = .bool x5_2 ∧ v8 = .int .i64 x8_2 ∧ Aside0 (tontineref8_Objects_Drop.l1 kq a1 x5_2 x6_1 x7_2 x8_2 a0_0 a0_1 a0_2 a0_3 x1004_1 x1005_1 x1006_1 x1007_1 = some (r1, r2, r3, r4, r5, r6, r7, r8, r9)) ∧ Aside0 (kq ≤ k1) ∧ Aside0 (Kd.R (Kd.int .i64) 3 w' w0.heap.size (fun k_ => ((P0_4_ k_ ∨ P0_5_ k_ ∨ P0_6_ k_ ∨ P0_7_ k_) ∨ w.heap.size ≤ k_) ∧ some k_ ≠ (u1004 : Value).ownBlock ∧ some k_ ≠ (u1005 : Value).ownBlock ∧ some k_ ≠ (u1006 : Value).ownBlock ∧ some k_ ≠ (u1007 : Value).ownBlock) v7 x7_2) ∧ Aside0 (Kd.Q (Kd.int .i64) 3 w' w0.heap.size (fun k_ => ((P0_4_ k_ ∨ P0_5_ k_ ∨ P0_6_ k_ ∨ P0_7_ k_) ∨ w.heap.size ≤ k_) ∧ some k_ ≠ (v7 : Value).ownBlock ∧ some k_ ≠ (u1005 : Value).ownBlock ∧ some k_ ≠ (u1006 : Value).ownBlock ∧ some k_ ≠ (u1007 : Value).ownBlock) u1004 x1004_1) ∧ Aside0 (Kd.Q (Kd.int .i64) 3 w' w0.heap.size (fun k_ => ((P0_4_ k_ ∨ P0_5_ k_ ∨ P0_6_ k_ ∨ P0_7_ k_) ∨ w.heap.size ≤ k_) ∧ some k_ ≠ (v7 : Value).ownBlock ∧ some k_ ≠ (u1004 : Value).ownBlock ∧ some k_ ≠ (u1006 : Value).ownBlock ∧ some k_ ≠ (u1007 : Value).ownBlock) u1005 x1005_1) ∧ Aside0 (Kd.Q (Kd.int .i64) 3 w' w0.heap.size (fun k_ => ((P0_4_ k_ ∨ P0_5_ k_ ∨ P0_6_ k_ ∨ P0_7_ k_) ∨ w.heap.size ≤ k_) ∧ some k_ ≠ (v7 : Value).ownBlock ∧ some k_ ≠ (u1004 : Value).ownBlock ∧ some k_ ≠ (u1005 : Value).ownBlock ∧ some k_ ≠ (u1007 : Value).ownBlock) u1006 x1006_1) ∧ Aside0 (Kd.Q (Kd.int .i64) 3 w' w0.heap.size (fun k_ => ((P0_4_ k_ ∨ P0_5_ k_ ∨ P0_6_ k_ ∨ P0_7_ k_) ∨ w.heap.size ≤ k_) ∧ some k_ ≠ (v7 : Value).ownBlock ∧ some k_ ≠ (u1004 : Value).ownBlock ∧ some k_ ≠ (u1005 : Value).ownBlock ∧ some k_ ≠ (u1006 : Value).ownBlock) u1007 x1007_1) ∧ Aside0 (w'.heap[g]? = some (.cells #[.int .i64 a0_0, .int .i64 a0_1, .int .i64 a0_2, .int .i64 a0_3, u1004, u1005, u1006, u1007] 55 (0, 0))) ∧ Aside0 (Kept w w' (fun k_ => (P0_4_ k_ ∨ P0_5_ k_ ∨ P0_6_ k_ ∨ P0_7_ k_) ∨ k_ = g)) ∧ Aside0 (Below w0.heap.size w0 w'))
    case atStart => exact ⟨(x5_1), (([] : List Int)), (0), (by first | rfl | (simp; done) | (simp [*]; done) | (congr 1; unfold wrap64; omega)), (by first | rfl | (simp; done) | (simp [*]; done) | (congr 1; unfold wrap64; omega)), H', ⟨Nat.le_refl _⟩, ⟨by first | exact Kd.R_nil _ _ _ _ _ | exact Kd.N_nil _ _ _ _ _ | exact Kd.V_nil _ _ _ _ _ | exact Kd.Q_nil _ _ _ _ _ | exact Kd.S_nil _ _ _ _ _⟩, ⟨by (with_reducible repeat (first | apply Kd.Q_alloc | apply Kd.Q_drewN | apply Kd.Q_drew)); exact Kd.Q_mono HO_1004.out (fun _ hk => ⟨hk.1, ⟨(by simp [Value.ownBlock]), ⟨hk.2.1, ⟨hk.2.2.1, hk.2.2.2⟩⟩⟩⟩)⟩, ⟨by (with_reducible repeat (first | apply Kd.Q_alloc | apply Kd.Q_drewN | apply Kd.Q_drew)); exact Kd.Q_mono HO_1005.out (fun _ hk => ⟨hk.1, ⟨(by simp [Value.ownBlock]), ⟨hk.2.1, ⟨hk.2.2.1, hk.2.2.2⟩⟩⟩⟩)⟩, ⟨by (with_reducible repeat (first | apply Kd.Q_alloc | apply Kd.Q_drewN | apply Kd.Q_drew)); exact Kd.Q_mono HO_1006.out (fun _ hk => ⟨hk.1, ⟨(by simp [Value.ownBlock]), ⟨hk.2.1, ⟨hk.2.2.1, hk.2.2.2⟩⟩⟩⟩)⟩, ⟨by (with_reducible repeat (first | apply Kd.Q_alloc | apply Kd.Q_drewN | apply Kd.Q_drew)); exact Kd.Q_mono HO_1007.out (fun _ hk => ⟨hk.1, ⟨(by simp [Value.ownBlock]), ⟨hk.2.1, ⟨hk.2.2.1, hk.2.2.2⟩⟩⟩⟩)⟩, ⟨Goto.bx BK0⟩, ⟨by repeat (first | (with_reducible first | exact HK.out | apply Kept.alloc | apply Kept.drewN | apply Kept.drew | refine Kept.setCell ?_ (.inl (.inr rfl)) _) | exact HK.out)⟩, ⟨Goto.hx HB⟩⟩
    case round =>
     clear H'
     try clear c2; try clear p2; try clear c3; try clear c3b0; try clear p2
     obtain ⟨x5_2, x7_2, x8_2, rfl, rfl, HA, HK2, HO_7, HO_1004, HO_1005, HO_1006, HO_1007, BK0, HK, HB⟩ := hrel
     cases gk with
     | zero => exact absurd HA.out (by simp [tontineref8_Objects_Drop.l1])
     | succ k2 =>
      have H := HA.out; clear HA
      simp only [tontineref8_Objects_Drop.l1] at H
      by_cases c4 : 0 ≤ x6_1
      ·
       rw [if_pos c4] at H
       have c4b0 : decide (0 ≤ x6_1) = true := decide_eq_true c4
       clear c4
       by_cases c5 : x6_1 < 4
       ·
        rw [if_pos c5] at H
        have c5b0 : decide (x6_1 < 4) = true := decide_eq_true c5
        clear c5
        by_cases c6 : x6_1 = 0
        ·
         rw [if_pos c6] at H
         have c6b0 : (x6_1 == 0) = true := beq_iff_eq.mpr c6
         have c6b1 : (x6_1 != 0) = false := bne_eq_false_iff_eq.mpr c6
         clear c6
         have hix7e : x6_1 = 0 := eq_of_beq (by first | (with_reducible assumption) | assumption)
         have hix7 : (x6_1).toNat = 0 := by rw [hix7e]; rfl
         have hix7c : (0 ≤ x6_1 ∧ x6_1 < (4 : Int)) = True := eq_true (by rw [hix7e]; decide)
         clear hix7e
         by_cases c8 : x8_2 < (x1004_1.length : Int)
         ·
          rw [if_pos c8] at H
          have c8b0 : decide (x8_2 < (x1004_1.length : Int)) = true := decide_eq_true c8
          clear c8
          have hix9e : x6_1 = 0 := eq_of_beq (by first | (with_reducible assumption) | assumption)
          have hix9 : (x6_1).toNat = 0 := by rw [hix9e]; rfl
          have hix9c : (0 ≤ x6_1 ∧ x6_1 < (4 : Int)) = True := eq_true (by rw [hix9e]; decide)
          clear hix9e
          by_cases c10 : 0 ≤ x8_2
          ·
           rw [if_pos c10] at H
           have c10b0 : decide (0 ≤ x8_2) = true := decide_eq_true c10
           clear c10
           by_cases c11 : (rd x1004_1 x8_2) = a1
           ·
            rw [if_pos c11] at H
            have c11b0 : ((rd x1004_1 x8_2) == a1) = true := beq_iff_eq.mpr c11
            have c11b1 : ((rd x1004_1 x8_2) != a1) = false := bne_eq_false_iff_eq.mpr c11
            clear c11
            have H' := Goto.m0 H
            clear H; have hcz12_0 := Goto.bc0 BK0; have hcz12_1 := Goto.bc1 BK0; have hcz12_2 := Goto.bc2 BK0; have hcz12_3 := Goto.bc3 BK0; have hcz12_4 := Goto.bc4 BK0; have hcz12_5 := Goto.bc5 BK0; have hcz12_6 := Goto.bc6 BK0; have hcz12_7 := Goto.bc7 BK0; have hfz12_0 := Goto.bf BK0 0; have hfz12_1 := Goto.bf BK0 1; have hfz12_2 := Goto.bf BK0 2; have hfz12_3 := Goto.bf BK0 3; have hfz12_4 := Goto.bf BK0 4; have hfz12_5 := Goto.bf BK0 5; have hfz12_6 := Goto.bf BK0 6; have hfz12_7 := Goto.bf BK0 7
            obtain ⟨Ao13, co13, eo13, _⟩ := Kd.Q_slice HO_1004.out
            subst eo13
            have p450 : 0 ≤ (x8_2 : Int) := Goto.od
            have q450 : x8_2 < (x1004_1.length : Int) := Goto.od
            obtain ⟨ad450, e450, hx450_0⟩ := Kd.at_int (Kd.Q_reads' HO_1004.out).2.2 x8_2 p450 q450
            cases e450
            replace p450 := eq_true p450; replace q450 := eq_true q450
            go_wp2
            go_roundg k2
            case measure => have := HK1.out; have := HK2.out; omega
            case rel => exact ⟨(true), (x7_2), (wrap64 (x8_2 + 1)), (by first | rfl | (simp; done) | (simp [*]; done) | (congr 1; unfold wrap64; omega)), (by first | rfl | (simp; done) | (simp [*]; done) | (congr 1; unfold wrap64; omega)), H', ⟨by have := HK1.out; have := HK2.out; omega⟩, ⟨Goto.rk HO_7⟩, ⟨by (with_reducible repeat (first | apply Kd.Q_alloc | apply Kd.Q_drewN | apply Kd.Q_drew)); exact HO_1004.out⟩, ⟨by (with_reducible repeat (first | apply Kd.Q_alloc | apply Kd.Q_drewN | apply Kd.Q_drew)); exact HO_1005.out⟩, ⟨by (with_reducible repeat (first | apply Kd.Q_alloc | apply Kd.Q_drewN | apply Kd.Q_drew)); exact HO_1006.out⟩, ⟨by (with_reducible repeat (first | apply Kd.Q_alloc | apply Kd.Q_drewN | apply Kd.Q_drew)); exact HO_1007.out⟩, ⟨Goto.bx BK0⟩, ⟨by repeat (first | (with_reducible first | exact HK.out | apply Kept.alloc | apply Kept.drewN | apply Kept.drew | refine Kept.setCell ?_ (.inl (.inr rfl)) _) | exact HK.out)⟩, ⟨Goto.hx HB⟩⟩
           ·
            rw [if_neg c11] at H
            have c11b0 : ((rd x1004_1 x8_2) == a1) = false := beq_eq_false_iff_ne.mpr c11
            have c11b1 : ((rd x1004_1 x8_2) != a1) = true := bne_iff_ne.mpr c11
            have hix14e : x6_1 = 0 := eq_of_beq (by first | (with_reducible assumption) | assumption)
            have hix14 : (x6_1).toNat = 0 := by rw [hix14e]; rfl
            have hix14c : (0 ≤ x6_1 ∧ x6_1 < (4 : Int)) = True := eq_true (by rw [hix14e]; decide)
            clear hix14e
            by_cases c15 : x7_2.length < 17592186044416
            ·
             rw [if_pos c15] at H
             have LMc15 := Goto.m0 c15
             clear c15
             obtain ⟨y452, hy452⟩ : ∃ y_ : List Int, y_ = (x7_2 ++ [rd x1004_1 x8_2]) := ⟨_, rfl⟩
             replace H : (tontineref8_Objects_Drop.l1 k2 a1 x5_2 x6_1 y452 (wrap64 (x8_2 + 1)) a0_0 a0_1 a0_2 a0_3 x1004_1 x1005_1 x1006_1 x1007_1) = some (r1, r2, r3, r4, r5, r6, r7, r8, r9) := by first | (rw [hy452]; with_reducible exact H) | (have H2_ := (Option.bind_some _ _).symm.trans H; rw [hy452]; with_reducible exact H2_) | (have H2_ := (Option.bind_some _ _).symm.trans H; with_reducible exact H2_) | with_reducible exact H | (rw [hy452]; exact H) | exact H
             have Ny452 := Goto.m0 hy452
             clear hy452
             have H' := Goto.m0 H
             clear H; have hcz16_0 := Goto.bc0 BK0; have hcz16_1 := Goto.bc1 BK0; have hcz16_2 := Goto.bc2 BK0; have hcz16_3 := Goto.bc3 BK0; have hcz16_4 := Goto.bc4 BK0; have hcz16_5 := Goto.bc5 BK0; have hcz16_6 := Goto.bc6 BK0; have hcz16_7 := Goto.bc7 BK0; have hfz16_0 := Goto.bf BK0 0; have hfz16_1 := Goto.bf BK0 1; have hfz16_2 := Goto.bf BK0 2; have hfz16_3 := Goto.bf BK0 3; have hfz16_4 := Goto.bf BK0 4; have hfz16_5 := Goto.bf BK0 5; have hfz16_6 := Goto.bf BK0 6; have hfz16_7 := Goto.bf BK0 7
             obtain ⟨Ao17, co17, eo17, _⟩ := Kd.Q_slice HO_1004.out
             subst eo17
             have p450 : 0 ≤ (x8_2 : Int) := Goto.od
             have q450 : x8_2 < (x1004_1.length : Int) := Goto.od
             obtain ⟨ad450, e450, hx450_0⟩ := Kd.at_int (Kd.Q_reads' HO_1004.out).2.2 x8_2 p450 q450
             cases e450
             replace p450 := eq_true p450; replace q450 := eq_true q450
             have p451 : 0 ≤ (x8_2 : Int) := Goto.od
             have q451 : x8_2 < (x1004_1.length : Int) := Goto.od
             obtain ⟨ad451, e451, hx451_0⟩ := Kd.at_int (Kd.Q_reads' HO_1004.out).2.2 x8_2 p451 q451
             obtain rfl : ad450 = ad451 := (by injection e451)
             replace p451 := eq_true p451; replace q451 := eq_true q451
             go_wp2_with (first | ((with_reducible refine gate_builtin (b := .append) (xs := #[.tmp 35, .tmp 45]) rfl ?_); at_builtin; refine Kd.R_append (Kd.int .i64) (w0 := w0) w0.heap.size rfl (.tmp 35) (.tmp 45) 52 3 (.int .i64 0) 8 rfl Tryd.underlying52 info3 rfl (by decide) (by omega) u7 x7_2 (rd x1004_1 x8_2) [.int .i64 (rd x1004_1 x8_2)] (fun k_ => ((P0_4_ k_ ∨ P0_5_ k_ ∨ P0_6_ k_ ∨ P0_7_ k_) ∨ w.heap.size ≤ k_) ∧ some k_ ≠ (.slice (some ad450) x1004_1.length co17 : Value).ownBlock ∧ some k_ ≠ (u1005 : Value).ownBlock ∧ some k_ ≠ (u1006 : Value).ownBlock ∧ some k_ ≠ (u1007 : Value).ownBlock) (fun _ => False) rfl rfl ?aP (fun _ hk => hk.elim) ?aF ?aO ?aB ?aS ?aL ?_; (case aP => exact rfl); (case aB => exact (Goto.hx HB)); (case aF => exact (fun k_ hk => ⟨(.inr (Nat.le_trans (by first | exact HK.out.1 | exact (show Kept w _ (fun k_ => (P0_4_ k_ ∨ P0_5_ k_ ∨ P0_6_ k_ ∨ P0_7_ k_) ∨ k_ = g) from by repeat (first | (with_reducible first | exact HK.out | apply Kept.alloc | apply Kept.drewN | apply Kept.drew | refine Kept.setCell ?_ (.inl (.inr rfl)) _) | exact HK.out)).1) hk)), Kd.fresh' (Kd.Q_lt (by (with_reducible repeat (first | apply Kd.Q_alloc | apply Kd.Q_drewN | apply Kd.Q_drew)); exact HO_1004.out)) k_ hk, Kd.fresh' (Kd.Q_lt (by (with_reducible repeat (first | apply Kd.Q_alloc | apply Kd.Q_drewN | apply Kd.Q_drew)); exact HO_1005.out)) k_ hk, Kd.fresh' (Kd.Q_lt (by (with_reducible repeat (first | apply Kd.Q_alloc | apply Kd.Q_drewN | apply Kd.Q_drew)); exact HO_1006.out)) k_ hk, Kd.fresh' (Kd.Q_lt (by (with_reducible repeat (first | apply Kd.Q_alloc | apply Kd.Q_drewN | apply Kd.Q_drew)); exact HO_1007.out)) k_ hk⟩)); (case aO => exact (Goto.rk HO_7)); (case aS => exact (below_size (Goto.hx HB))); (case aL => have := LMc15.out; omega); intro v453 w18 ho hb hg hat; rw [← Ny452.out] at ho; have n0_ := Goto.m0 (Kd.Q_after (ok := (fun k_ => ((P0_4_ k_ ∨ P0_5_ k_ ∨ P0_6_ k_ ∨ P0_7_ k_) ∨ w.heap.size ≤ k_) ∧ some k_ ≠ (u1005 : Value).ownBlock ∧ some k_ ≠ (u1006 : Value).ownBlock ∧ some k_ ≠ (u1007 : Value).ownBlock)) (by (with_reducible repeat (first | apply Kd.Q_alloc | apply Kd.Q_drewN | apply Kd.Q_drew)); exact Kd.Q_mono HO_1004.out (fun _ hk => ⟨⟨hk.1, ⟨hk.2.2.1, ⟨hk.2.2.2.1, hk.2.2.2.2⟩⟩⟩, hk.2.1⟩)) hg hat); have n1_ := Goto.m0 (Kd.Q_after (ok := (fun k_ => ((P0_4_ k_ ∨ P0_5_ k_ ∨ P0_6_ k_ ∨ P0_7_ k_) ∨ w.heap.size ≤ k_) ∧ some k_ ≠ (.slice (some ad450) x1004_1.length co17 : Value).ownBlock ∧ some k_ ≠ (u1006 : Value).ownBlock ∧ some k_ ≠ (u1007 : Value).ownBlock)) (by (with_reducible repeat (first | apply Kd.Q_alloc | apply Kd.Q_drewN | apply Kd.Q_drew)); exact Kd.Q_mono HO_1005.out (fun _ hk => ⟨⟨hk.1, ⟨hk.2.2.1, ⟨hk.2.2.2.1, hk.2.2.2.2⟩⟩⟩, hk.2.1⟩)) hg hat); have n2_ := Goto.m0 (Kd.Q_after (ok := (fun k_ => ((P0_4_ k_ ∨ P0_5_ k_ ∨ P0_6_ k_ ∨ P0_7_ k_) ∨ w.heap.size ≤ k_) ∧ some k_ ≠ (.slice (some ad450) x1004_1.length co17 : Value).ownBlock ∧ some k_ ≠ (u1005 : Value).ownBlock ∧ some k_ ≠ (u1007 : Value).ownBlock)) (by (with_reducible repeat (first | apply Kd.Q_alloc | apply Kd.Q_drewN | apply Kd.Q_drew)); exact Kd.Q_mono HO_1006.out (fun _ hk => ⟨⟨hk.1, ⟨hk.2.2.1, ⟨hk.2.2.2.1, hk.2.2.2.2⟩⟩⟩, hk.2.1⟩)) hg hat); have n3_ := Goto.m0 (Kd.Q_after (ok := (fun k_ => ((P0_4_ k_ ∨ P0_5_ k_ ∨ P0_6_ k_ ∨ P0_7_ k_) ∨ w.heap.size ≤ k_) ∧ some k_ ≠ (.slice (some ad450) x1004_1.length co17 : Value).ownBlock ∧ some k_ ≠ (u1005 : Value).ownBlock ∧ some k_ ≠ (u1006 : Value).ownBlock)) (by (with_reducible repeat (first | apply Kd.Q_alloc | apply Kd.Q_drewN | apply Kd.Q_drew)); exact Kd.Q_mono HO_1007.out (fun _ hk => ⟨⟨hk.1, ⟨hk.2.2.1, ⟨hk.2.2.2.1, hk.2.2.2.2⟩⟩⟩, hk.2.1⟩)) hg hat); have n4_ := Goto.m0 (blk_grown (g := g) (o := .cells #[.int .i64 a0_0, .int .i64 a0_1, .int .i64 a0_2, .int .i64 a0_3, .slice (some ad450) x1004_1.length co17, u1005, u1006, u1007] 55 (0, 0)) (Goto.bx BK0) hg (Kd.R_ne HO_7.out BK0.out (by decide))); have n5_ := Goto.m0 (hb); have n6_ := Goto.m0 (Kept.of_grown (S := (fun k_ => (P0_4_ k_ ∨ P0_5_ k_ ∨ P0_6_ k_ ∨ P0_7_ k_) ∨ k_ = g)) hg (by repeat (first | (with_reducible first | exact HK.out | apply Kept.alloc | apply Kept.drewN | apply Kept.drew | refine Kept.setCell ?_ (.inl (.inr rfl)) _) | exact HK.out)) (fun k_ e_ => Or.imp_left Or.inl ((HO_7.out.1 k_ e_).1))); have n7_ := Goto.m0 (ho); clear HO_1004; clear HO_1005; clear HO_1006; clear HO_1007; clear BK0; clear HB; clear HK; clear HO_7; have HO_1004 := n0_; have HO_1005 := n1_; have HO_1006 := n2_; have HO_1007 := n3_; have BK0 := n4_; have HB := n5_; have HK := n6_; have HO454 := n7_; clear n0_ n1_ n2_ n3_ n4_ n5_ n6_ n7_; clear ho hb hg hat))
             go_roundg k2
             case measure => have := HK1.out; have := HK2.out; omega
             case rel => exact ⟨(x5_2), (y452), (wrap64 (x8_2 + 1)), (by first | rfl | (simp; done) | (simp [*]; done) | (congr 1; unfold wrap64; omega)), (by first | rfl | (simp; done) | (simp [*]; done) | (congr 1; unfold wrap64; omega)), H', ⟨by have := HK1.out; have := HK2.out; omega⟩, ⟨Goto.rk HO454⟩, ⟨by (with_reducible repeat (first | apply Kd.Q_alloc | apply Kd.Q_drewN | apply Kd.Q_drew)); exact Kd.Q_mono HO_1004.out (fun _ hk => ⟨hk.1.1, ⟨hk.2, ⟨hk.1.2.1, ⟨hk.1.2.2.1, hk.1.2.2.2⟩⟩⟩⟩)⟩, ⟨by (with_reducible repeat (first | apply Kd.Q_alloc | apply Kd.Q_drewN | apply Kd.Q_drew)); exact Kd.Q_mono HO_1005.out (fun _ hk => ⟨hk.1.1, ⟨hk.2, ⟨hk.1.2.1, ⟨hk.1.2.2.1, hk.1.2.2.2⟩⟩⟩⟩)⟩, ⟨by (with_reducible repeat (first | apply Kd.Q_alloc | apply Kd.Q_drewN | apply Kd.Q_drew)); exact Kd.Q_mono HO_1006.out (fun _ hk => ⟨hk.1.1, ⟨hk.2, ⟨hk.1.2.1, ⟨hk.1.2.2.1, hk.1.2.2.2⟩⟩⟩⟩)⟩, ⟨by (with_reducible repeat (first | apply Kd.Q_alloc | apply Kd.Q_drewN | apply Kd.Q_drew)); exact Kd.Q_mono HO_1007.out (fun _ hk => ⟨hk.1.1, ⟨hk.2, ⟨hk.1.2.1, ⟨hk.1.2.2.1, hk.1.2.2.2⟩⟩⟩⟩)⟩, ⟨Goto.bx BK0⟩, ⟨by repeat (first | (with_reducible first | exact HK.out | apply Kept.alloc | apply Kept.drewN | apply Kept.drew | refine Kept.setCell ?_ (.inl (.inr rfl)) _) | exact HK.out)⟩, ⟨Goto.hx HB⟩⟩
            ·
             rw [if_neg c15] at H
             exact absurd H (by simp)
          ·
           rw [if_neg c10] at H
           exact absurd H (by simp)
         ·
          rw [if_neg c8] at H
          have c8b0 : decide (x8_2 < (x1004_1.length : Int)) = false := decide_eq_false c8
          clear c8
          have hix19e : x6_1 = 0 := eq_of_beq (by first | (with_reducible assumption) | assumption)
          have hix19 : (x6_1).toNat = 0 := by rw [hix19e]; rfl
          have hix19c : (0 ≤ x6_1 ∧ x6_1 < (4 : Int)) = True := eq_true (by rw [hix19e]; decide)
          clear hix19e
          have H' := Goto.m0 H
          clear H; have hcz20_0 := Goto.bc0 BK0; have hcz20_1 := Goto.bc1 BK0; have hcz20_2 := Goto.bc2 BK0; have hcz20_3 := Goto.bc3 BK0; have hcz20_4 := Goto.bc4 BK0; have hcz20_5 := Goto.bc5 BK0; have hcz20_6 := Goto.bc6 BK0; have hcz20_7 := Goto.bc7 BK0; have hfz20_0 := Goto.bf BK0 0; have hfz20_1 := Goto.bf BK0 1; have hfz20_2 := Goto.bf BK0 2; have hfz20_3 := Goto.bf BK0 3; have hfz20_4 := Goto.bf BK0 4; have hfz20_5 := Goto.bf BK0 5; have hfz20_6 := Goto.bf BK0 6; have hfz20_7 := Goto.bf BK0 7
          obtain ⟨Ao21, co21, eo21, _⟩ := Kd.Q_slice HO_1004.out
          subst eo21
          obtain ⟨Ao22, co22, eo22⟩ := Kd.R_slice HO_7.out
          subst eo22
          go_wp2_with (first | ((with_reducible refine gate_store (t := 52) (p := 52) rfl ?_); refine store_event (t := 52) (p := 52) (v := ?vo_w23) (w1 := (wr.setCell ⟨g, 4, none⟩ (.slice Ao22 x7_2.length co22))) ?hg ?ho ?hn ?hr ?_; (case ho => rfl); (case hg => rfl); (case hn => rfl); (case hr => first | (go_simp; done) | (go_simp; rfl)); intro w23 hw; have n0_ : Aside0 (Kd.R (Kd.int .i64) 3 w23 w0.heap.size (fun k_ => ((P0_4_ k_ ∨ P0_5_ k_ ∨ P0_6_ k_ ∨ P0_7_ k_) ∨ w.heap.size ≤ k_) ∧ some k_ ≠ (.slice Ao21 x1004_1.length co21 : Value).ownBlock ∧ some k_ ≠ (u1005 : Value).ownBlock ∧ some k_ ≠ (u1006 : Value).ownBlock ∧ some k_ ≠ (u1007 : Value).ownBlock) (.slice Ao22 x7_2.length co22) x7_2) := ⟨(by rw [hw]; exact (by (with_reducible repeat (first | apply Kd.R_alloc | apply Kd.R_drewN | apply Kd.R_drew)); exact Kd.R_mono (Kd.R_far (p := ⟨g, 4, none⟩) (Kd.R_types HO_7.out BK0.out (by decide)) (fun _ hk => hk.2) (.slice Ao22 x7_2.length co22)) (fun _ hk => ⟨hk.1.1, ⟨hk.1.2.1, ⟨hk.1.2.2.1, ⟨hk.1.2.2.2.1, hk.1.2.2.2.2⟩⟩⟩⟩)))⟩; have n1_ : Aside0 (Kd.Q (Kd.int .i64) 3 w23 w0.heap.size (fun k_ => ((P0_4_ k_ ∨ P0_5_ k_ ∨ P0_6_ k_ ∨ P0_7_ k_) ∨ w.heap.size ≤ k_) ∧ some k_ ≠ (.slice Ao22 x7_2.length co22 : Value).ownBlock ∧ some k_ ≠ (u1005 : Value).ownBlock ∧ some k_ ≠ (u1006 : Value).ownBlock ∧ some k_ ≠ (u1007 : Value).ownBlock) (.slice Ao21 x1004_1.length co21) x1004_1) := ⟨(by rw [hw]; exact (by (with_reducible repeat (first | apply Kd.Q_alloc | apply Kd.Q_drewN | apply Kd.Q_drew)); exact Kd.Q_mono (Kd.Q_far (p := ⟨g, 4, none⟩) (Kd.Q_types HO_1004.out BK0.out (by decide)) (fun _ hk => hk.2) (.slice Ao22 x7_2.length co22)) (fun _ hk => ⟨hk.1.1, ⟨hk.1.2.1, ⟨hk.1.2.2.1, ⟨hk.1.2.2.2.1, hk.1.2.2.2.2⟩⟩⟩⟩)))⟩; have n2_ : Aside0 (Kd.Q (Kd.int .i64) 3 w23 w0.heap.size (fun k_ => ((P0_4_ k_ ∨ P0_5_ k_ ∨ P0_6_ k_ ∨ P0_7_ k_) ∨ w.heap.size ≤ k_) ∧ some k_ ≠ (.slice Ao22 x7_2.length co22 : Value).ownBlock ∧ some k_ ≠ (.slice Ao21 x1004_1.length co21 : Value).ownBlock ∧ some k_ ≠ (u1006 : Value).ownBlock ∧ some k_ ≠ (u1007 : Value).ownBlock) u1005 x1005_1) := ⟨(by rw [hw]; exact (by (with_reducible repeat (first | apply Kd.Q_alloc | apply Kd.Q_drewN | apply Kd.Q_drew)); exact Kd.Q_mono (Kd.Q_far (p := ⟨g, 4, none⟩) (Kd.Q_types HO_1005.out BK0.out (by decide)) (fun _ hk => hk.2) (.slice Ao22 x7_2.length co22)) (fun _ hk => ⟨hk.1.1, ⟨hk.1.2.1, ⟨hk.1.2.2.1, ⟨hk.1.2.2.2.1, hk.1.2.2.2.2⟩⟩⟩⟩)))⟩; have n3_ : Aside0 (Kd.Q (Kd.int .i64) 3 w23 w0.heap.size (fun k_ => ((P0_4_ k_ ∨ P0_5_ k_ ∨ P0_6_ k_ ∨ P0_7_ k_) ∨ w.heap.size ≤ k_) ∧ some k_ ≠ (.slice Ao22 x7_2.length co22 : Value).ownBlock ∧ some k_ ≠ (.slice Ao21 x1004_1.length co21 : Value).ownBlock ∧ some k_ ≠ (u1005 : Value).ownBlock ∧ some k_ ≠ (u1007 : Value).ownBlock) u1006 x1006_1) := ⟨(by rw [hw]; exact (by (with_reducible repeat (first | apply Kd.Q_alloc | apply Kd.Q_drewN | apply Kd.Q_drew)); exact Kd.Q_mono (Kd.Q_far (p := ⟨g, 4, none⟩) (Kd.Q_types HO_1006.out BK0.out (by decide)) (fun _ hk => hk.2) (.slice Ao22 x7_2.length co22)) (fun _ hk => ⟨hk.1.1, ⟨hk.1.2.1, ⟨hk.1.2.2.1, ⟨hk.1.2.2.2.1, hk.1.2.2.2.2⟩⟩⟩⟩)))⟩; have n4_ : Aside0 (Kd.Q (Kd.int .i64) 3 w23 w0.heap.size (fun k_ => ((P0_4_ k_ ∨ P0_5_ k_ ∨ P0_6_ k_ ∨ P0_7_ k_) ∨ w.heap.size ≤ k_) ∧ some k_ ≠ (.slice Ao22 x7_2.length co22 : Value).ownBlock ∧ some k_ ≠ (.slice Ao21 x1004_1.length co21 : Value).ownBlock ∧ some k_ ≠ (u1005 : Value).ownBlock ∧ some k_ ≠ (u1006 : Value).ownBlock) u1007 x1007_1) := ⟨(by rw [hw]; exact (by (with_reducible repeat (first | apply Kd.Q_alloc | apply Kd.Q_drewN | apply Kd.Q_drew)); exact Kd.Q_mono (Kd.Q_far (p := ⟨g, 4, none⟩) (Kd.Q_types HO_1007.out BK0.out (by decide)) (fun _ hk => hk.2) (.slice Ao22 x7_2.length co22)) (fun _ hk => ⟨hk.1.1, ⟨hk.1.2.1, ⟨hk.1.2.2.1, ⟨hk.1.2.2.2.1, hk.1.2.2.2.2⟩⟩⟩⟩)))⟩; have n5_ : Aside0 (w23.heap[g]? = some (.cells #[.int .i64 a0_0, .int .i64 a0_1, .int .i64 a0_2, .int .i64 a0_3, .slice Ao22 x7_2.length co22, u1005, u1006, u1007] 55 (0, 0))) := ⟨(by rw [hw]; exact (Goto.bx BK0))⟩; have n6_ : Aside0 (Kept w w23 (fun k_ => (P0_4_ k_ ∨ P0_5_ k_ ∨ P0_6_ k_ ∨ P0_7_ k_) ∨ k_ = g)) := ⟨(by rw [hw]; exact (by repeat (first | (with_reducible first | exact HK.out | apply Kept.alloc | apply Kept.drewN | apply Kept.drew | refine Kept.setCell ?_ (.inl (.inr rfl)) _) | exact HK.out)))⟩; have n7_ : Aside0 (Below w0.heap.size w0 w23) := ⟨(by rw [hw]; exact (Goto.hx HB))⟩; clear hw; clear HO_7; clear HO_1004; clear HO_1005; clear HO_1006; clear HO_1007; clear BK0; clear HK; clear HB; have HO_7 := n0_; have HO_1004 := n1_; have HO_1005 := n2_; have HO_1006 := n3_; have HO_1007 := n4_; have BK0 := n5_; have HK := n6_; have HB := n7_; clear n0_ n1_ n2_ n3_ n4_ n5_ n6_ n7_))
          go_roundg k2
          case measure => have := HK1.out; have := HK2.out; omega
          case rel => exact ⟨(x5_2), (wrap64 (x6_1 + 1)), (x7_2), (x1005_1), (x1006_1), (x1007_1), (.slice Ao22 x7_2.length co22), (u1005), (u1006), (u1007), (by first | rfl | (simp; done) | (simp [*]; done) | (congr 1; unfold wrap64; omega)), (by first | rfl | (simp; done) | (simp [*]; done) | (congr 1; unfold wrap64; omega)), H', ⟨by have := HK1.out; have := HK2.out; omega⟩, ⟨Kd.Q_of_R (by (with_reducible repeat (first | apply Kd.R_alloc | apply Kd.R_drewN | apply Kd.R_drew)); exact Kd.R_mono HO_7.out (fun _ hk => ⟨hk.1, ⟨hk.2.2.1, ⟨hk.2.2.2.1, hk.2.2.2.2⟩⟩⟩))⟩, ⟨by (with_reducible repeat (first | apply Kd.Q_alloc | apply Kd.Q_drewN | apply Kd.Q_drew)); exact Kd.Q_mono HO_1005.out (fun _ hk => ⟨hk.1, ⟨hk.2.1, ⟨hk.2.2.2.1, hk.2.2.2.2⟩⟩⟩)⟩, ⟨by (with_reducible repeat (first | apply Kd.Q_alloc | apply Kd.Q_drewN | apply Kd.Q_drew)); exact Kd.Q_mono HO_1006.out (fun _ hk => ⟨hk.1, ⟨hk.2.1, ⟨hk.2.2.2.1, hk.2.2.2.2⟩⟩⟩)⟩, ⟨by (with_reducible repeat (first | apply Kd.Q_alloc | apply Kd.Q_drewN | apply Kd.Q_drew)); exact Kd.Q_mono HO_1007.out (fun _ hk => ⟨hk.1, ⟨hk.2.1, ⟨hk.2.2.2.1, hk.2.2.2.2⟩⟩⟩)⟩, ⟨Goto.bx BK0⟩, ⟨by repeat (first | (with_reducible first | exact HK.out | apply Kept.alloc | apply Kept.drewN | apply Kept.drew | refine Kept.setCell ?_ (.inl (.inr rfl)) _) | exact HK.out)⟩, ⟨Goto.hx HB⟩⟩
        ·
         rw [if_neg c6] at H
         have c6b0 : (x6_1 == 0) = false := beq_eq_false_iff_ne.mpr c6
         have c6b1 : (x6_1 != 0) = true := bne_iff_ne.mpr c6
         by_cases c24 : x6_1 = 1
         ·
          rw [if_pos c24] at H
          have c24b0 : (x6_1 == 1) = true := beq_iff_eq.mpr c24
          have c24b1 : (x6_1 != 1) = false := bne_eq_false_iff_eq.mpr c24
          clear c24
          have hix25e : x6_1 = 1 := eq_of_beq (by first | (with_reducible assumption) | assumption)
          have hix25 : (x6_1).toNat = 1 := by rw [hix25e]; rfl
          have hix25c : (0 ≤ x6_1 ∧ x6_1 < (4 : Int)) = True := eq_true (by rw [hix25e]; decide)
          clear hix25e
          by_cases c26 : x8_2 < (x1005_1.length : Int)
          ·
           rw [if_pos c26] at H
           have c26b0 : decide (x8_2 < (x1005_1.length : Int)) = true := decide_eq_true c26
           clear c26
           have hix27e : x6_1 = 1 := eq_of_beq (by first | (with_reducible assumption) | assumption)
           have hix27 : (x6_1).toNat = 1 := by rw [hix27e]; rfl
           have hix27c : (0 ≤ x6_1 ∧ x6_1 < (4 : Int)) = True := eq_true (by rw [hix27e]; decide)
           clear hix27e
           by_cases c28 : 0 ≤ x8_2
           ·
            rw [if_pos c28] at H
            have c28b0 : decide (0 ≤ x8_2) = true := decide_eq_true c28
            clear c28
            by_cases c29 : (rd x1005_1 x8_2) = a1
            ·
             rw [if_pos c29] at H
             have c29b0 : ((rd x1005_1 x8_2) == a1) = true := beq_iff_eq.mpr c29
             have c29b1 : ((rd x1005_1 x8_2) != a1) = false := bne_eq_false_iff_eq.mpr c29
             clear c29
             have H' := Goto.m0 H
             clear H; have hcz30_0 := Goto.bc0 BK0; have hcz30_1 := Goto.bc1 BK0; have hcz30_2 := Goto.bc2 BK0; have hcz30_3 := Goto.bc3 BK0; have hcz30_4 := Goto.bc4 BK0; have hcz30_5 := Goto.bc5 BK0; have hcz30_6 := Goto.bc6 BK0; have hcz30_7 := Goto.bc7 BK0; have hfz30_0 := Goto.bf BK0 0; have hfz30_1 := Goto.bf BK0 1; have hfz30_2 := Goto.bf BK0 2; have hfz30_3 := Goto.bf BK0 3; have hfz30_4 := Goto.bf BK0 4; have hfz30_5 := Goto.bf BK0 5; have hfz30_6 := Goto.bf BK0 6; have hfz30_7 := Goto.bf BK0 7
             obtain ⟨Ao31, co31, eo31, _⟩ := Kd.Q_slice HO_1005.out
             subst eo31
             have p455 : 0 ≤ (x8_2 : Int) := Goto.od
             have q455 : x8_2 < (x1005_1.length : Int) := Goto.od
             obtain ⟨ad455, e455, hx455_0⟩ := Kd.at_int (Kd.Q_reads' HO_1005.out).2.2 x8_2 p455 q455
             cases e455
             replace p455 := eq_true p455; replace q455 := eq_true q455
             go_wp2
             go_roundg k2
             case measure => have := HK1.out; have := HK2.out; omega
             case rel => exact ⟨(true), (x7_2), (wrap64 (x8_2 + 1)), (by first | rfl | (simp; done) | (simp [*]; done) | (congr 1; unfold wrap64; omega)), (by first | rfl | (simp; done) | (simp [*]; done) | (congr 1; unfold wrap64; omega)), H', ⟨by have := HK1.out; have := HK2.out; omega⟩, ⟨Goto.rk HO_7⟩, ⟨by (with_reducible repeat (first | apply Kd.Q_alloc | apply Kd.Q_drewN | apply Kd.Q_drew)); exact HO_1004.out⟩, ⟨by (with_reducible repeat (first | apply Kd.Q_alloc | apply Kd.Q_drewN | apply Kd.Q_drew)); exact HO_1005.out⟩, ⟨by (with_reducible repeat (first | apply Kd.Q_alloc | apply Kd.Q_drewN | apply Kd.Q_drew)); exact HO_1006.out⟩, ⟨by (with_reducible repeat (first | apply Kd.Q_alloc | apply Kd.Q_drewN | apply Kd.Q_drew)); exact HO_1007.out⟩, ⟨Goto.bx BK0⟩, ⟨by repeat (first | (with_reducible first | exact HK.out | apply Kept.alloc | apply Kept.drewN | apply Kept.drew | refine Kept.setCell ?_ (.inl (.inr rfl)) _) | exact HK.out)⟩, ⟨Goto.hx HB⟩⟩
            ·
             rw [if_neg c29] at H
             have c29b0 : ((rd x1005_1 x8_2) == a1) = false := beq_eq_false_iff_ne.mpr c29
             have c29b1 : ((rd x1005_1 x8_2) != a1) = true := bne_iff_ne.mpr c29
             have hix32e : x6_1 = 1 := eq_of_beq (by first | (with_reducible assumption) | assumption)
             have hix32 : (x6_1).toNat = 1 := by rw [hix32e]; rfl
             have hix32c : (0 ≤ x6_1 ∧ x6_1 < (4 : Int)) = True := eq_true (by rw [hix32e]; decide)
             clear hix32e
             by_cases c33 : x7_2.length < 17592186044416
             ·
              rw [if_pos c33] at H
              have LMc33 := Goto.m0 c33
              clear c33
              obtain ⟨y457, hy457⟩ : ∃ y_ : List Int, y_ = (x7_2 ++ [rd x1005_1 x8_2]) := ⟨_, rfl⟩
              replace H : (tontineref8_Objects_Drop.l1 k2 a1 x5_2 x6_1 y457 (wrap64 (x8_2 + 1)) a0_0 a0_1 a0_2 a0_3 x1004_1 x1005_1 x1006_1 x1007_1) = some (r1, r2, r3, r4, r5, r6, r7, r8, r9) := by first | (rw [hy457]; with_reducible exact H) | (have H2_ := (Option.bind_some _ _).symm.trans H; rw [hy457]; with_reducible exact H2_) | (have H2_ := (Option.bind_some _ _).symm.trans H; with_reducible exact H2_) | with_reducible exact H | (rw [hy457]; exact H) | exact H
              have Ny457 := Goto.m0 hy457
              clear hy457
              have H' := Goto.m0 H
              clear H; have hcz34_0 := Goto.bc0 BK0; have hcz34_1 := Goto.bc1 BK0; have hcz34_2 := Goto.bc2 BK0; have hcz34_3 := Goto.bc3 BK0; have hcz34_4 := Goto.bc4 BK0; have hcz34_5 := Goto.bc5 BK0; have hcz34_6 := Goto.bc6 BK0; have hcz34_7 := Goto.bc7 BK0; have hfz34_0 := Goto.bf BK0 0; have hfz34_1 := Goto.bf BK0 1; have hfz34_2 := Goto.bf BK0 2; have hfz34_3 := Goto.bf BK0 3; have hfz34_4 := Goto.bf BK0 4; have hfz34_5 := Goto.bf BK0 5; have hfz34_6 := Goto.bf BK0 6; have hfz34_7 := Goto.bf BK0 7
              obtain ⟨Ao35, co35, eo35, _⟩ := Kd.Q_slice HO_1005.out
              subst eo35
              have p455 : 0 ≤ (x8_2 : Int) := Goto.od
              have q455 : x8_2 < (x1005_1.length : Int) := Goto.od
              obtain ⟨ad455, e455, hx455_0⟩ := Kd.at_int (Kd.Q_reads' HO_1005.out).2.2 x8_2 p455 q455
              cases e455
              replace p455 := eq_true p455; replace q455 := eq_true q455
              have p456 : 0 ≤ (x8_2 : Int) := Goto.od
              have q456 : x8_2 < (x1005_1.length : Int) := Goto.od
              obtain ⟨ad456, e456, hx456_0⟩ := Kd.at_int (Kd.Q_reads' HO_1005.out).2.2 x8_2 p456 q456
              obtain rfl : ad455 = ad456 := (by injection e456)
              replace p456 := eq_true p456; replace q456 := eq_true q456
              go_wp2_with (first | ((with_reducible refine gate_builtin (b := .append) (xs := #[.tmp 35, .tmp 45]) rfl ?_); at_builtin; refine Kd.R_append (Kd.int .i64) (w0 := w0) w0.heap.size rfl (.tmp 35) (.tmp 45) 52 3 (.int .i64 0) 8 rfl Tryd.underlying52 info3 rfl (by decide) (by omega) u7 x7_2 (rd x1005_1 x8_2) [.int .i64 (rd x1005_1 x8_2)] (fun k_ => ((P0_4_ k_ ∨ P0_5_ k_ ∨ P0_6_ k_ ∨ P0_7_ k_) ∨ w.heap.size ≤ k_) ∧ some k_ ≠ (u1004 : Value).ownBlock ∧ some k_ ≠ (.slice (some ad455) x1005_1.length co35 : Value).ownBlock ∧ some k_ ≠ (u1006 : Value).ownBlock ∧ some k_ ≠ (u1007 : Value).ownBlock) (fun _ => False) rfl rfl ?aP (fun _ hk => hk.elim) ?aF ?aO ?aB ?aS ?aL ?_; (case aP => exact rfl); (case aB => exact (Goto.hx HB)); (case aF => exact (fun k_ hk => ⟨(.inr (Nat.le_trans (by first | exact HK.out.1 | exact (show Kept w _ (fun k_ => (P0_4_ k_ ∨ P0_5_ k_ ∨ P0_6_ k_ ∨ P0_7_ k_) ∨ k_ = g) from by repeat (first | (with_reducible first | exact HK.out | apply Kept.alloc | apply Kept.drewN | apply Kept.drew | refine Kept.setCell ?_ (.inl (.inr rfl)) _) | exact HK.out)).1) hk)), Kd.fresh' (Kd.Q_lt (by (with_reducible repeat (first | apply Kd.Q_alloc | apply Kd.Q_drewN | apply Kd.Q_drew)); exact HO_1004.out)) k_ hk, Kd.fresh' (Kd.Q_lt (by (with_reducible repeat (first | apply Kd.Q_alloc | apply Kd.Q_drewN | apply Kd.Q_drew)); exact HO_1005.out)) k_ hk, Kd.fresh' (Kd.Q_lt (by (with_reducible repeat (first | apply Kd.Q_alloc | apply Kd.Q_drewN | apply Kd.Q_drew)); exact HO_1006.out)) k_ hk, Kd.fresh' (Kd.Q_lt (by (with_reducible repeat (first | apply Kd.Q_alloc | apply Kd.Q_drewN | apply Kd.Q_drew)); exact HO_1007.out)) k_ hk⟩)); (case aO => exact (Goto.rk HO_7)); (case aS => exact (below_size (Goto.hx HB))); (case aL => have := LMc33.out; omega); intro v458 w36 ho hb hg hat; rw [← Ny457.out] at ho; have n0_ := Goto.m0 (Kd.Q_after (ok := (fun k_ => ((P0_4_ k_ ∨ P0_5_ k_ ∨ P0_6_ k_ ∨ P0_7_ k_) ∨ w.heap.size ≤ k_) ∧ some k_ ≠ (.slice (some ad455) x1005_1.length co35 : Value).ownBlock ∧ some k_ ≠ (u1006 : Value).ownBlock ∧ some k_ ≠ (u1007 : Value).ownBlock)) (by (with_reducible repeat (first | apply Kd.Q_alloc | apply Kd.Q_drewN | apply Kd.Q_drew)); exact Kd.Q_mono HO_1004.out (fun _ hk => ⟨⟨hk.1, ⟨hk.2.2.1, ⟨hk.2.2.2.1, hk.2.2.2.2⟩⟩⟩, hk.2.1⟩)) hg hat); have n1_ := Goto.m0 (Kd.Q_after (ok := (fun k_ => ((P0_4_ k_ ∨ P0_5_ k_ ∨ P0_6_ k_ ∨ P0_7_ k_) ∨ w.heap.size ≤ k_) ∧ some k_ ≠ (u1004 : Value).ownBlock ∧ some k_ ≠ (u1006 : Value).ownBlock ∧ some k_ ≠ (u1007 : Value).ownBlock)) (by (with_reducible repeat (first | apply Kd.Q_alloc | apply Kd.Q_drewN | apply Kd.Q_drew)); exact Kd.Q_mono HO_1005.out (fun _ hk => ⟨⟨hk.1, ⟨hk.2.2.1, ⟨hk.2.2.2.1, hk.2.2.2.2⟩⟩⟩, hk.2.1⟩)) hg hat); have n2_ := Goto.m0 (Kd.Q_after (ok := (fun k_ => ((P0_4_ k_ ∨ P0_5_ k_ ∨ P0_6_ k_ ∨ P0_7_ k_) ∨ w.heap.size ≤ k_) ∧ some k_ ≠ (u1004 : Value).ownBlock ∧ some k_ ≠ (.slice (some ad455) x1005_1.length co35 : Value).ownBlock ∧ some k_ ≠ (u1007 : Value).ownBlock)) (by (with_reducible repeat (first | apply Kd.Q_alloc | apply Kd.Q_drewN | apply Kd.Q_drew)); exact Kd.Q_mono HO_1006.out (fun _ hk => ⟨⟨hk.1, ⟨hk.2.2.1, ⟨hk.2.2.2.1, hk.2.2.2.2⟩⟩⟩, hk.2.1⟩)) hg hat); have n3_ := Goto.m0 (Kd.Q_after (ok := (fun k_ => ((P0_4_ k_ ∨ P0_5_ k_ ∨ P0_6_ k_ ∨ P0_7_ k_) ∨ w.heap.size ≤ k_) ∧ some k_ ≠ (u1004 : Value).ownBlock ∧ some k_ ≠ (.slice (some ad455) x1005_1.length co35 : Value).ownBlock ∧ some k_ ≠ (u1006 : Value).ownBlock)) (by (with_reducible repeat (first | apply Kd.Q_alloc | apply Kd.Q_drewN | apply Kd.Q_drew)); exact Kd.Q_mono HO_1007.out (fun _ hk => ⟨⟨hk.1, ⟨hk.2.2.1, ⟨hk.2.2.2.1, hk.2.2.2.2⟩⟩⟩, hk.2.1⟩)) hg hat); have n4_ := Goto.m0 (blk_grown (g := g) (o := .cells #[.int .i64 a0_0, .int .i64 a0_1, .int .i64 a0_2, .int .i64 a0_3, u1004, .slice (some ad455) x1005_1.length co35, u1006, u1007] 55 (0, 0)) (Goto.bx BK0) hg (Kd.R_ne HO_7.out BK0.out (by decide))); have n5_ := Goto.m0 (hb); have n6_ := Goto.m0 (Kept.of_grown (S := (fun k_ => (P0_4_ k_ ∨ P0_5_ k_ ∨ P0_6_ k_ ∨ P0_7_ k_) ∨ k_ = g)) hg (by repeat (first | (with_reducible first | exact HK.out | apply Kept.alloc | apply Kept.drewN | apply Kept.drew | refine Kept.setCell ?_ (.inl (.inr rfl)) _) | exact HK.out)) (fun k_ e_ => Or.imp_left Or.inl ((HO_7.out.1 k_ e_).1))); have n7_ := Goto.m0 (ho); clear HO_1004; clear HO_1005; clear HO_1006; clear HO_1007; clear BK0; clear HB; clear HK; clear HO_7; have HO_1004 := n0_; have HO_1005 := n1_; have HO_1006 := n2_; have HO_1007 := n3_; have BK0 := n4_; have HB := n5_; have HK := n6_; have HO459 := n7_; clear n0_ n1_ n2_ n3_ n4_ n5_ n6_ n7_; clear ho hb hg hat))
              go_roundg k2
              case measure => have := HK1.out; have := HK2.out; omega
              case rel => exact ⟨(x5_2), (y457), (wrap64 (x8_2 + 1)), (by first | rfl | (simp; done) | (simp [*]; done) | (congr 1; unfold wrap64; omega)), (by first | rfl | (simp; done) | (simp [*]; done) | (congr 1; unfold wrap64; omega)), H', ⟨by have := HK1.out; have := HK2.out; omega⟩, ⟨Goto.rk HO459⟩, ⟨by (with_reducible repeat (first | apply Kd.Q_alloc | apply Kd.Q_drewN | apply Kd.Q_drew)); exact Kd.Q_mono HO_1004.out (fun _ hk => ⟨hk.1.1, ⟨hk.2, ⟨hk.1.2.1, ⟨hk.1.2.2.1, hk.1.2.2.2⟩⟩⟩⟩)⟩, ⟨by (with_reducible repeat (first | apply Kd.Q_alloc | apply Kd.Q_drewN | apply Kd.Q_drew)); exact Kd.Q_mono HO_1005.out (fun _ hk => ⟨hk.1.1, ⟨hk.2, ⟨hk.1.2.1, ⟨hk.1.2.2.1, hk.1.2.2.2⟩⟩⟩⟩)⟩, ⟨by (with_reducible repeat (first | apply Kd.Q_alloc | apply Kd.Q_drewN | apply Kd.Q_drew)); exact Kd.Q_mono HO_1006.out (fun _ hk => ⟨hk.1.1, ⟨hk.2, ⟨hk.1.2.1, ⟨hk.1.2.2.1, hk.1.2.2.2⟩⟩⟩⟩)⟩, ⟨by (with_reducible repeat (first | apply Kd.Q_alloc | apply Kd.Q_drewN | apply Kd.Q_drew)); exact Kd.Q_mono HO_1007.out (fun _ hk => ⟨hk.1.1, ⟨hk.2, ⟨hk.1.2.1, ⟨hk.1.2.2.1, hk.1.2.2.2⟩⟩⟩⟩)⟩, ⟨Goto.bx BK0⟩, ⟨by repeat (first | (with_reducible first | exact HK.out | apply Kept.alloc | apply Kept.drewN | apply Kept.drew | refine Kept.setCell ?_ (.inl (.inr rfl)) _) | exact HK.out)⟩, ⟨Goto.hx HB⟩⟩
             ·
              rw [if_neg c33] at H
              exact absurd H (by simp)
           ·
            rw [if_neg c28] at H
            exact absurd H (by simp)
          ·
           rw [if_neg c26] at H
           have c26b0 : decide (x8_2 < (x1005_1.length : Int)) = false := decide_eq_false c26
           clear c26
           have hix37e : x6_1 = 1 := eq_of_beq (by first | (with_reducible assumption) | assumption)
           have hix37 : (x6_1).toNat = 1 := by rw [hix37e]; rfl
           have hix37c : (0 ≤ x6_1 ∧ x6_1 < (4 : Int)) = True := eq_true (by rw [hix37e]; decide)
           clear hix37e
           have H' := Goto.m0 H
           clear H; have hcz38_0 := Goto.bc0 BK0; have hcz38_1 := Goto.bc1 BK0; have hcz38_2 := Goto.bc2 BK0; have hcz38_3 := Goto.bc3 BK0; have hcz38_4 := Goto.bc4 BK0; have hcz38_5 := Goto.bc5 BK0; have hcz38_6 := Goto.bc6 BK0; have hcz38_7 := Goto.bc7 BK0; have hfz38_0 := Goto.bf BK0 0; have hfz38_1 := Goto.bf BK0 1; have hfz38_2 := Goto.bf BK0 2; have hfz38_3 := Goto.bf BK0 3; have hfz38_4 := Goto.bf BK0 4; have hfz38_5 := Goto.bf BK0 5; have hfz38_6 := Goto.bf BK0 6; have hfz38_7 := Goto.bf BK0 7
           obtain ⟨Ao39, co39, eo39, _⟩ := Kd.Q_slice HO_1005.out
           subst eo39
           obtain ⟨Ao40, co40, eo40⟩ := Kd.R_slice HO_7.out
           subst eo40
           go_wp2_with (first | ((with_reducible refine gate_store (t := 52) (p := 52) rfl ?_); refine store_event (t := 52) (p := 52) (v := ?vo_w41) (w1 := (wr.setCell ⟨g, 5, none⟩ (.slice Ao40 x7_2.length co40))) ?hg ?ho ?hn ?hr ?_; (case ho => rfl); (case hg => rfl); (case hn => rfl); (case hr => first | (go_simp; done) | (go_simp; rfl)); intro w41 hw; have n0_ : Aside0 (Kd.R (Kd.int .i64) 3 w41 w0.heap.size (fun k_ => ((P0_4_ k_ ∨ P0_5_ k_ ∨ P0_6_ k_ ∨ P0_7_ k_) ∨ w.heap.size ≤ k_) ∧ some k_ ≠ (u1004 : Value).ownBlock ∧ some k_ ≠ (.slice Ao39 x1005_1.length co39 : Value).ownBlock ∧ some k_ ≠ (u1006 : Value).ownBlock ∧ some k_ ≠ (u1007 : Value).ownBlock) (.slice Ao40 x7_2.length co40) x7_2) := ⟨(by rw [hw]; exact (by (with_reducible repeat (first | apply Kd.R_alloc | apply Kd.R_drewN | apply Kd.R_drew)); exact Kd.R_mono (Kd.R_far (p := ⟨g, 5, none⟩) (Kd.R_types HO_7.out BK0.out (by decide)) (fun _ hk => hk.2) (.slice Ao40 x7_2.length co40)) (fun _ hk => ⟨hk.1.1, ⟨hk.1.2.1, ⟨hk.1.2.2.1, ⟨hk.1.2.2.2.1, hk.1.2.2.2.2⟩⟩⟩⟩)))⟩; have n1_ : Aside0 (Kd.Q (Kd.int .i64) 3 w41 w0.heap.size (fun k_ => ((P0_4_ k_ ∨ P0_5_ k_ ∨ P0_6_ k_ ∨ P0_7_ k_) ∨ w.heap.size ≤ k_) ∧ some k_ ≠ (.slice Ao40 x7_2.length co40 : Value).ownBlock ∧ some k_ ≠ (.slice Ao39 x1005_1.length co39 : Value).ownBlock ∧ some k_ ≠ (u1006 : Value).ownBlock ∧ some k_ ≠ (u1007 : Value).ownBlock) u1004 x1004_1) := ⟨(by rw [hw]; exact (by (with_reducible repeat (first | apply Kd.Q_alloc | apply Kd.Q_drewN | apply Kd.Q_drew)); exact Kd.Q_mono (Kd.Q_far (p := ⟨g, 5, none⟩) (Kd.Q_types HO_1004.out BK0.out (by decide)) (fun _ hk => hk.2) (.slice Ao40 x7_2.length co40)) (fun _ hk => ⟨hk.1.1, ⟨hk.1.2.1, ⟨hk.1.2.2.1, ⟨hk.1.2.2.2.1, hk.1.2.2.2.2⟩⟩⟩⟩)))⟩; have n2_ : Aside0 (Kd.Q (Kd.int .i64) 3 w41 w0.heap.size (fun k_ => ((P0_4_ k_ ∨ P0_5_ k_ ∨ P0_6_ k_ ∨ P0_7_ k_) ∨ w.heap.size ≤ k_) ∧ some k_ ≠ (.slice Ao40 x7_2.length co40 : Value).ownBlock ∧ some k_ ≠ (u1004 : Value).ownBlock ∧ some k_ ≠ (u1006 : Value).ownBlock ∧ some k_ ≠ (u1007 : Value).ownBlock) (.slice Ao39 x1005_1.length co39) x1005_1) := ⟨(by rw [hw]; exact (by (with_reducible repeat (first | apply Kd.Q_alloc | apply Kd.Q_drewN | apply Kd.Q_drew)); exact Kd.Q_mono (Kd.Q_far (p := ⟨g, 5, none⟩) (Kd.Q_types HO_1005.out BK0.out (by decide)) (fun _ hk => hk.2) (.slice Ao40 x7_2.length co40)) (fun _ hk => ⟨hk.1.1, ⟨hk.1.2.1, ⟨hk.1.2.2.1, ⟨hk.1.2.2.2.1, hk.1.2.2.2.2⟩⟩⟩⟩)))⟩; have n3_ : Aside0 (Kd.Q (Kd.int .i64) 3 w41 w0.heap.size (fun k_ => ((P0_4_ k_ ∨ P0_5_ k_ ∨ P0_6_ k_ ∨ P0_7_ k_) ∨ w.heap.size ≤ k_) ∧ some k_ ≠ (.slice Ao40 x7_2.length co40 : Value).ownBlock ∧ some k_ ≠ (u1004 : Value).ownBlock ∧ some k_ ≠ (.slice Ao39 x1005_1.length co39 : Value).ownBlock ∧ some k_ ≠ (u1007 : Value).ownBlock) u1006 x1006_1) := ⟨(by rw [hw]; exact (by (with_reducible repeat (first | apply Kd.Q_alloc | apply Kd.Q_drewN | apply Kd.Q_drew)); exact Kd.Q_mono (Kd.Q_far (p := ⟨g, 5, none⟩) (Kd.Q_types HO_1006.out BK0.out (by decide)) (fun _ hk => hk.2) (.slice Ao40 x7_2.length co40)) (fun _ hk => ⟨hk.1.1, ⟨hk.1.2.1, ⟨hk.1.2.2.1, ⟨hk.1.2.2.2.1, hk.1.2.2.2.2⟩⟩⟩⟩)))⟩; have n4_ : Aside0 (Kd.Q (Kd.int .i64) 3 w41 w0.heap.size (fun k_ => ((P0_4_ k_ ∨ P0_5_ k_ ∨ P0_6_ k_ ∨ P0_7_ k_) ∨ w.heap.size ≤ k_) ∧ some k_ ≠ (.slice Ao40 x7_2.length co40 : Value).ownBlock ∧ some k_ ≠ (u1004 : Value).ownBlock ∧ some k_ ≠ (.slice Ao39 x1005_1.length co39 : Value).ownBlock ∧ some k_ ≠ (u1006 : Value).ownBlock) u1007 x1007_1) := ⟨(by rw [hw]; exact (by (with_reducible repeat (first | apply Kd.Q_alloc | apply Kd.Q_drewN | apply Kd.Q_drew)); exact Kd.Q_mono (Kd.Q_far (p := ⟨g, 5, none⟩) (Kd.Q_types HO_1007.out BK0.out (by decide)) (fun _ hk => hk.2) (.slice Ao40 x7_2.length co40)) (fun _ hk => ⟨hk.1.1, ⟨hk.1.2.1, ⟨hk.1.2.2.1, ⟨hk.1.2.2.2.1, hk.1.2.2.2.2⟩⟩⟩⟩)))⟩; have n5_ : Aside0 (w41.heap[g]? = some (.cells #[.int .i64 a0_0, .int .i64 a0_1, .int .i64 a0_2, .int .i64 a0_3, u1004, .slice Ao40 x7_2.length co40, u1006, u1007] 55 (0, 0))) := ⟨(by rw [hw]; exact (Goto.bx BK0))⟩; have n6_ : Aside0 (Kept w w41 (fun k_ => (P0_4_ k_ ∨ P0_5_ k_ ∨ P0_6_ k_ ∨ P0_7_ k_) ∨ k_ = g)) := ⟨(by rw [hw]; exact (by repeat (first | (with_reducible first | exact HK.out | apply Kept.alloc | apply Kept.drewN | apply Kept.drew | refine Kept.setCell ?_ (.inl (.inr rfl)) _) | exact HK.out)))⟩; have n7_ : Aside0 (Below w0.heap.size w0 w41) := ⟨(by rw [hw]; exact (Goto.hx HB))⟩; clear hw; clear HO_7; clear HO_1004; clear HO_1005; clear HO_1006; clear HO_1007; clear BK0; clear HK; clear HB; have HO_7 := n0_; have HO_1004 := n1_; have HO_1005 := n2_; have HO_1006 := n3_; have HO_1007 := n4_; have BK0 := n5_; have HK := n6_; have HB := n7_; clear n0_ n1_ n2_ n3_ n4_ n5_ n6_ n7_))
           go_roundg k2
           case measure => have := HK1.out; have := HK2.out; omega
           case rel => exact ⟨(x5_2), (wrap64 (x6_1 + 1)), (x1004_1), (x7_2), (x1006_1), (x1007_1), (u1004), (.slice Ao40 x7_2.length co40), (u1006), (u1007), (by first | rfl | (simp; done) | (simp [*]; done) | (congr 1; unfold wrap64; omega)), (by first | rfl | (simp; done) | (simp [*]; done) | (congr 1; unfold wrap64; omega)), H', ⟨by have := HK1.out; have := HK2.out; omega⟩, ⟨by (with_reducible repeat (first | apply Kd.Q_alloc | apply Kd.Q_drewN | apply Kd.Q_drew)); exact Kd.Q_mono HO_1004.out (fun _ hk => ⟨hk.1, ⟨hk.2.1, ⟨hk.2.2.2.1, hk.2.2.2.2⟩⟩⟩)⟩, ⟨Kd.Q_of_R (by (with_reducible repeat (first | apply Kd.R_alloc | apply Kd.R_drewN | apply Kd.R_drew)); exact Kd.R_mono HO_7.out (fun _ hk => ⟨hk.1, ⟨hk.2.1, ⟨hk.2.2.2.1, hk.2.2.2.2⟩⟩⟩))⟩, ⟨by (with_reducible repeat (first | apply Kd.Q_alloc | apply Kd.Q_drewN | apply Kd.Q_drew)); exact Kd.Q_mono HO_1006.out (fun _ hk => ⟨hk.1, ⟨hk.2.2.1, ⟨hk.2.1, hk.2.2.2.2⟩⟩⟩)⟩, ⟨by (with_reducible repeat (first | apply Kd.Q_alloc | apply Kd.Q_drewN | apply Kd.Q_drew)); exact Kd.Q_mono HO_1007.out (fun _ hk => ⟨hk.1, ⟨hk.2.2.1, ⟨hk.2.1, hk.2.2.2.2⟩⟩⟩)⟩, ⟨Goto.bx BK0⟩, ⟨by repeat (first | (with_reducible first | exact HK.out | apply Kept.alloc | apply Kept.drewN | apply Kept.drew | refine Kept.setCell ?_ (.inl (.inr rfl)) _) | exact HK.out)⟩, ⟨Goto.hx HB⟩⟩
         ·
          rw [if_neg c24] at H
          have c24b0 : (x6_1 == 1) = false := beq_eq_false_iff_ne.mpr c24
          have c24b1 : (x6_1 != 1) = true := bne_iff_ne.mpr c24
          by_cases c42 : x6_1 = 2
          ·
           rw [if_pos c42] at H
           have c42b0 : (x6_1 == 2) = true := beq_iff_eq.mpr c42
           have c42b1 : (x6_1 != 2) = false := bne_eq_false_iff_eq.mpr c42
           clear c42
           have hix43e : x6_1 = 2 := eq_of_beq (by first | (with_reducible assumption) | assumption)
           have hix43 : (x6_1).toNat = 2 := by rw [hix43e]; rfl
           have hix43c : (0 ≤ x6_1 ∧ x6_1 < (4 : Int)) = True := eq_true (by rw [hix43e]; decide)
           clear hix43e
           by_cases c44 : x8_2 < (x1006_1.length : Int)
           ·
            rw [if_pos c44] at H
            have c44b0 : decide (x8_2 < (x1006_1.length : Int)) = true := decide_eq_true c44
            clear c44
            have hix45e : x6_1 = 2 := eq_of_beq (by first | (with_reducible assumption) | assumption)
            have hix45 : (x6_1).toNat = 2 := by rw [hix45e]; rfl
            have hix45c : (0 ≤ x6_1 ∧ x6_1 < (4 : Int)) = True := eq_true (by rw [hix45e]; decide)
            clear hix45e
            by_cases c46 : 0 ≤ x8_2
            ·
             rw [if_pos c46] at H
             have c46b0 : decide (0 ≤ x8_2) = true := decide_eq_true c46
             clear c46
             by_cases c47 : (rd x1006_1 x8_2) = a1
             ·
              rw [if_pos c47] at H
              have c47b0 : ((rd x1006_1 x8_2) == a1) = true := beq_iff_eq.mpr c47
              have c47b1 : ((rd x1006_1 x8_2) != a1) = false := bne_eq_false_iff_eq.mpr c47
              clear c47
              have H' := Goto.m0 H
              clear H; have hcz48_0 := Goto.bc0 BK0; have hcz48_1 := Goto.bc1 BK0; have hcz48_2 := Goto.bc2 BK0; have hcz48_3 := Goto.bc3 BK0; have hcz48_4 := Goto.bc4 BK0; have hcz48_5 := Goto.bc5 BK0; have hcz48_6 := Goto.bc6 BK0; have hcz48_7 := Goto.bc7 BK0; have hfz48_0 := Goto.bf BK0 0; have hfz48_1 := Goto.bf BK0 1; have hfz48_2 := Goto.bf BK0 2; have hfz48_3 := Goto.bf BK0 3; have hfz48_4 := Goto.bf BK0 4; have hfz48_5 := Goto.bf BK0 5; have hfz48_6 := Goto.bf BK0 6; have hfz48_7 := Goto.bf BK0 7
              obtain ⟨Ao49, co49, eo49, _⟩ := Kd.Q_slice HO_1006.out
              subst eo49
              have p460 : 0 ≤ (x8_2 : Int) := Goto.od
              have q460 : x8_2 < (x1006_1.length : Int) := Goto.od
              obtain ⟨ad460, e460, hx460_0⟩ := Kd.at_int (Kd.Q_reads' HO_1006.out).2.2 x8_2 p460 q460
              cases e460
              replace p460 := eq_true p460; replace q460 := eq_true q460
              go_wp2
              go_roundg k2
              case measure => have := HK1.out; have := HK2.out; omega
              case rel => exact ⟨(true), (x7_2), (wrap64 (x8_2 + 1)), (by first | rfl | (simp; done) | (simp [*]; done) | (congr 1; unfold wrap64; omega)), (by first | rfl | (simp; done) | (simp [*]; done) | (congr 1; unfold wrap64; omega)), H', ⟨by have := HK1.out; have := HK2.out; omega⟩, ⟨Goto.rk HO_7⟩, ⟨by (with_reducible repeat (first | apply Kd.Q_alloc | apply Kd.Q_drewN | apply Kd.Q_drew)); exact HO_1004.out⟩, ⟨by (with_reducible repeat (first | apply Kd.Q_alloc | apply Kd.Q_drewN | apply Kd.Q_drew)); exact HO_1005.out⟩, ⟨by (with_reducible repeat (first | apply Kd.Q_alloc | apply Kd.Q_drewN | apply Kd.Q_drew)); exact HO_1006.out⟩, ⟨by (with_reducible repeat (first | apply Kd.Q_alloc | apply Kd.Q_drewN | apply Kd.Q_drew)); exact HO_1007.out⟩, ⟨Goto.bx BK0⟩, ⟨by repeat (first | (with_reducible first | exact HK.out | apply Kept.alloc | apply Kept.drewN | apply Kept.drew | refine Kept.setCell ?_ (.inl (.inr rfl)) _) | exact HK.out)⟩, ⟨Goto.hx HB⟩⟩
             ·
              rw [if_neg c47] at H
              have c47b0 : ((rd x1006_1 x8_2) == a1) = false := beq_eq_false_iff_ne.mpr c47
              have c47b1 : ((rd x1006_1 x8_2) != a1) = true := bne_iff_ne.mpr c47
              have hix50e : x6_1 = 2 := eq_of_beq (by first | (with_reducible assumption) | assumption)
              have hix50 : (x6_1).toNat = 2 := by rw [hix50e]; rfl
              have hix50c : (0 ≤ x6_1 ∧ x6_1 < (4 : Int)) = True := eq_true (by rw [hix50e]; decide)
              clear hix50e
              by_cases c51 : x7_2.length < 17592186044416
              ·
               rw [if_pos c51] at H
               have LMc51 := Goto.m0 c51
               clear c51
               obtain ⟨y462, hy462⟩ : ∃ y_ : List Int, y_ = (x7_2 ++ [rd x1006_1 x8_2]) := ⟨_, rfl⟩
               replace H : (tontineref8_Objects_Drop.l1 k2 a1 x5_2 x6_1 y462 (wrap64 (x8_2 + 1)) a0_0 a0_1 a0_2 a0_3 x1004_1 x1005_1 x1006_1 x1007_1) = some (r1, r2, r3, r4, r5, r6, r7, r8, r9) := by first | (rw [hy462]; with_reducible exact H) | (have H2_ := (Option.bind_some _ _).symm.trans H; rw [hy462]; with_reducible exact H2_) | (have H2_ := (Option.bind_some _ _).symm.trans H; with_reducible exact H2_) | with_reducible exact H | (rw [hy462]; exact H) | exact H
               have Ny462 := Goto.m0 hy462
               clear hy462
               have H' := Goto.m0 H
               clear H; have hcz52_0 := Goto.bc0 BK0; have hcz52_1 := Goto.bc1 BK0; have hcz52_2 := Goto.bc2 BK0; have hcz52_3 := Goto.bc3 BK0; have hcz52_4 := Goto.bc4 BK0; have hcz52_5 := Goto.bc5 BK0; have hcz52_6 := Goto.bc6 BK0; have hcz52_7 := Goto.bc7 BK0; have hfz52_0 := Goto.bf BK0 0; have hfz52_1 := Goto.bf BK0 1; have hfz52_2 := Goto.bf BK0 2; have hfz52_3 := Goto.bf BK0 3; have hfz52_4 := Goto.bf BK0 4; have hfz52_5 := Goto.bf BK0 5; have hfz52_6 := Goto.bf BK0 6; have hfz52_7 := Goto.bf BK0 7
               obtain ⟨Ao53, co53, eo53, _⟩ := Kd.Q_slice HO_1006.out
               subst eo53
               have p460 : 0 ≤ (x8_2 : Int) := Goto.od
               have q460 : x8_2 < (x1006_1.length : Int) := Goto.od
               obtain ⟨ad460, e460, hx460_0⟩ := Kd.at_int (Kd.Q_reads' HO_1006.out).2.2 x8_2 p460 q460
               cases e460
               replace p460 := eq_true p460; replace q460 := eq_true q460
               have p461 : 0 ≤ (x8_2 : Int) := Goto.od
               have q461 : x8_2 < (x1006_1.length : Int) := Goto.od
               obtain ⟨ad461, e461, hx461_0⟩ := Kd.at_int (Kd.Q_reads' HO_1006.out).2.2 x8_2 p461 q461
               obtain rfl : ad460 = ad461 := (by injection e461)
               replace p461 := eq_true p461; replace q461 := eq_true q461
               go_wp2_with (first | ((with_reducible refine gate_builtin (b := .append) (xs := #[.tmp 35, .tmp 45]) rfl ?_); at_builtin; refine Kd.R_append (Kd.int .i64) (w0 := w0) w0.heap.size rfl (.tmp 35) (.tmp 45) 52 3 (.int .i64 0) 8 rfl Tryd.underlying52 info3 rfl (by decide) (by omega) u7 x7_2 (rd x1006_1 x8_2) [.int .i64 (rd x1006_1 x8_2)] (fun k_ => ((P0_4_ k_ ∨ P0_5_ k_ ∨ P0_6_ k_ ∨ P0_7_ k_) ∨ w.heap.size ≤ k_) ∧ some k_ ≠ (u1004 : Value).ownBlock ∧ some k_ ≠ (u1005 : Value).ownBlock ∧ some k_ ≠ (.slice (some ad460) x1006_1.length co53 : Value).ownBlock ∧ some k_ ≠ (u1007 : Value).ownBlock) (fun _ => False) rfl rfl ?aP (fun _ hk => hk.elim) ?aF ?aO ?aB ?aS ?aL ?_; (case aP => exact rfl); (case aB => exact (Goto.hx HB)); (case aF => exact (fun k_ hk => ⟨(.inr (Nat.le_trans (by first | exact HK.out.1 | exact (show Kept w _ (fun k_ => (P0_4_ k_ ∨ P0_5_ k_ ∨ P0_6_ k_ ∨ P0_7_ k_) ∨ k_ = g) from by repeat (first | (with_reducible first | exact HK.out | apply Kept.alloc | apply Kept.drewN | apply Kept.drew | refine Kept.setCell ?_ (.inl (.inr rfl)) _) | exact HK.out)).1) hk)), Kd.fresh' (Kd.Q_lt (by (with_reducible repeat (first | apply Kd.Q_alloc | apply Kd.Q_drewN | apply Kd.Q_drew)); exact HO_1004.out)) k_ hk, Kd.fresh' (Kd.Q_lt (by (with_reducible repeat (first | apply Kd.Q_alloc | apply Kd.Q_drewN | apply Kd.Q_drew)); exact HO_1005.out)) k_ hk, Kd.fresh' (Kd.Q_lt (by (with_reducible repeat (first | apply Kd.Q_alloc | apply Kd.Q_drewN | apply Kd.Q_drew)); exact HO_1006.out)) k_ hk, Kd.fresh' (Kd.Q_lt (by (with_reducible repeat (first | apply Kd.Q_alloc | apply Kd.Q_drewN | apply Kd.Q_drew)); exact HO_1007.out)) k_ hk⟩)); (case aO => exact (Goto.rk HO_7)); (case aS => exact (below_size (Goto.hx HB))); (case aL => have := LMc51.out; omega); intro v463 w54 ho hb hg hat; rw [← Ny462.out] at ho; have n0_ := Goto.m0 (Kd.Q_after (ok := (fun k_ => ((P0_4_ k_ ∨ P0_5_ k_ ∨ P0_6_ k_ ∨ P0_7_ k_) ∨ w.heap.size ≤ k_) ∧ some k_ ≠ (u1005 : Value).ownBlock ∧ some k_ ≠ (.slice (some ad460) x1006_1.length co53 : Value).ownBlock ∧ some k_ ≠ (u1007 : Value).ownBlock)) (by (with_reducible repeat (first | apply Kd.Q_alloc | apply Kd.Q_drewN | apply Kd.Q_drew)); exact Kd.Q_mono HO_1004.out (fun _ hk => ⟨⟨hk.1, ⟨hk.2.2.1, ⟨hk.2.2.2.1, hk.2.2.2.2⟩⟩⟩, hk.2.1⟩)) hg hat); have n1_ := Goto.m0 (Kd.Q_after (ok := (fun k_ => ((P0_4_ k_ ∨ P0_5_ k_ ∨ P0_6_ k_ ∨ P0_7_ k_) ∨ w.heap.size ≤ k_) ∧ some k_ ≠ (u1004 : Value).ownBlock ∧ some k_ ≠ (.slice (some ad460) x1006_1.length co53 : Value).ownBlock ∧ some k_ ≠ (u1007 : Value).ownBlock)) (by (with_reducible repeat (first | apply Kd.Q_alloc | apply Kd.Q_drewN | apply Kd.Q_drew)); exact Kd.Q_mono HO_1005.out (fun _ hk => ⟨⟨hk.1, ⟨hk.2.2.1, ⟨hk.2.2.2.1, hk.2.2.2.2⟩⟩⟩, hk.2.1⟩)) hg hat); have n2_ := Goto.m0 (Kd.Q_after (ok := (fun k_ => ((P0_4_ k_ ∨ P0_5_ k_ ∨ P0_6_ k_ ∨ P0_7_ k_) ∨ w.heap.size ≤ k_) ∧ some k_ ≠ (u1004 : Value).ownBlock ∧ some k_ ≠ (u1005 : Value).ownBlock ∧ some k_ ≠ (u1007 : Value).ownBlock)) (by (with_reducible repeat (first | apply Kd.Q_alloc | apply Kd.Q_drewN | apply Kd.Q_drew)); exact Kd.Q_mono HO_1006.out (fun _ hk => ⟨⟨hk.1, ⟨hk.2.2.1, ⟨hk.2.2.2.1, hk.2.2.2.2⟩⟩⟩, hk.2.1⟩)) hg hat); have n3_ := Goto.m0 (Kd.Q_after (ok := (fun k_ => ((P0_4_ k_ ∨ P0_5_ k_ ∨ P0_6_ k_ ∨ P0_7_ k_) ∨ w.heap.size ≤ k_) ∧ some k_ ≠ (u1004 : Value).ownBlock ∧ some k_ ≠ (u1005 : Value).ownBlock ∧ some k_ ≠ (.slice (some ad460) x1006_1.length co53 : Value).ownBlock)) (by (with_reducible repeat (first | apply Kd.Q_alloc | apply Kd.Q_drewN | apply Kd.Q_drew)); exact Kd.Q_mono HO_1007.out (fun _ hk => ⟨⟨hk.1, ⟨hk.2.2.1, ⟨hk.2.2.2.1, hk.2.2.2.2⟩⟩⟩, hk.2.1⟩)) hg hat); have n4_ := Goto.m0 (blk_grown (g := g) (o := .cells #[.int .i64 a0_0, .int .i64 a0_1, .int .i64 a0_2, .int .i64 a0_3, u1004, u1005, .slice (some ad460) x1006_1.length co53, u1007] 55 (0, 0)) (Goto.bx BK0) hg (Kd.R_ne HO_7.out BK0.out (by decide))); have n5_ := Goto.m0 (hb); have n6_ := Goto.m0 (Kept.of_grown (S := (fun k_ => (P0_4_ k_ ∨ P0_5_ k_ ∨ P0_6_ k_ ∨ P0_7_ k_) ∨ k_ = g)) hg (by repeat (first | (with_reducible first | exact HK.out | apply Kept.alloc | apply Kept.drewN | apply Kept.drew | refine Kept.setCell ?_ (.inl (.inr rfl)) _) | exact HK.out)) (fun k_ e_ => Or.imp_left Or.inl ((HO_7.out.1 k_ e_).1))); have n7_ := Goto.m0 (ho); clear HO_1004; clear HO_1005; clear HO_1006; clear HO_1007; clear BK0; clear HB; clear HK; clear HO_7; have HO_1004 := n0_; have HO_1005 := n1_; have HO_1006 := n2_; have HO_1007 := n3_; have BK0 := n4_; have HB := n5_; have HK := n6_; have HO464 := n7_; clear n0_ n1_ n2_ n3_ n4_ n5_ n6_ n7_; clear ho hb hg hat))
               go_roundg k2
               case measure => have := HK1.out; have := HK2.out; omega
               case rel => exact ⟨(x5_2), (y462), (wrap64 (x8_2 + 1)), (by first | rfl | (simp; done) | (simp [*]; done) | (congr 1; unfold wrap64; omega)), (by first | rfl | (simp; done) | (simp [*]; done) | (congr 1; unfold wrap64; omega)), H', ⟨by have := HK1.out; have := HK2.out; omega⟩, ⟨Goto.rk HO464⟩, ⟨by (with_reducible repeat (first | apply Kd.Q_alloc | apply Kd.Q_drewN | apply Kd.Q_drew)); exact Kd.Q_mono HO_1004.out (fun _ hk => ⟨hk.1.1, ⟨hk.2, ⟨hk.1.2.1, ⟨hk.1.2.2.1, hk.1.2.2.2⟩⟩⟩⟩)⟩, ⟨by (with_reducible repeat (first | apply Kd.Q_alloc | apply Kd.Q_drewN | apply Kd.Q_drew)); exact Kd.Q_mono HO_1005.out (fun _ hk => ⟨hk.1.1, ⟨hk.2, ⟨hk.1.2.1, ⟨hk.1.2.2.1, hk.1.2.2.2⟩⟩⟩⟩)⟩, ⟨by (with_reducible repeat (first | apply Kd.Q_alloc | apply Kd.Q_drewN | apply Kd.Q_drew)); exact Kd.Q_mono HO_1006.out (fun _ hk => ⟨hk.1.1, ⟨hk.2, ⟨hk.1.2.1, ⟨hk.1.2.2.1, hk.1.2.2.2⟩⟩⟩⟩)⟩, ⟨by (with_reducible repeat (first | apply Kd.Q_alloc | apply Kd.Q_drewN | apply Kd.Q_drew)); exact Kd.Q_mono HO_1007.out (fun _ hk => ⟨hk.1.1, ⟨hk.2, ⟨hk.1.2.1, ⟨hk.1.2.2.1, hk.1.2.2.2⟩⟩⟩⟩)⟩, ⟨Goto.bx BK0⟩, ⟨by repeat (first | (with_reducible first | exact HK.out | apply Kept.alloc | apply Kept.drewN | apply Kept.drew | refine Kept.setCell ?_ (.inl (.inr rfl)) _) | exact HK.out)⟩, ⟨Goto.hx HB⟩⟩
              ·
               rw [if_neg c51] at H
               exact absurd H (by simp)
            ·
             rw [if_neg c46] at H
             exact absurd H (by simp)
           ·
            rw [if_neg c44] at H
            have c44b0 : decide (x8_2 < (x1006_1.length : Int)) = false := decide_eq_false c44
            clear c44
            have hix55e : x6_1 = 2 := eq_of_beq (by first | (with_reducible assumption) | assumption)
            have hix55 : (x6_1).toNat = 2 := by rw [hix55e]; rfl
            have hix55c : (0 ≤ x6_1 ∧ x6_1 < (4 : Int)) = True := eq_true (by rw [hix55e]; decide)
            clear hix55e
            have H' := Goto.m0 H
            clear H; have hcz56_0 := Goto.bc0 BK0; have hcz56_1 := Goto.bc1 BK0; have hcz56_2 := Goto.bc2 BK0; have hcz56_3 := Goto.bc3 BK0; have hcz56_4 := Goto.bc4 BK0; have hcz56_5 := Goto.bc5 BK0; have hcz56_6 := Goto.bc6 BK0; have hcz56_7 := Goto.bc7 BK0; have hfz56_0 := Goto.bf BK0 0; have hfz56_1 := Goto.bf BK0 1; have hfz56_2 := Goto.bf BK0 2; have hfz56_3 := Goto.bf BK0 3; have hfz56_4 := Goto.bf BK0 4; have hfz56_5 := Goto.bf BK0 5; have hfz56_6 := Goto.bf BK0 6; have hfz56_7 := Goto.bf BK0 7
            obtain ⟨Ao57, co57, eo57, _⟩ := Kd.Q_slice HO_1006.out
            subst eo57
            obtain ⟨Ao58, co58, eo58⟩ := Kd.R_slice HO_7.out
            subst eo58
            go_wp2_with (first | ((with_reducible refine gate_store (t := 52) (p := 52) rfl ?_); refine store_event (t := 52) (p := 52) (v := ?vo_w59) (w1 := (wr.setCell ⟨g, 6, none⟩ (.slice Ao58 x7_2.length co58))) ?hg ?ho ?hn ?hr ?_; (case ho => rfl); (case hg => rfl); (case hn => rfl); (case hr => first | (go_simp; done) | (go_simp; rfl)); intro w59 hw; have n0_ : Aside0 (Kd.R (Kd.int .i64) 3 w59 w0.heap.size (fun k_ => ((P0_4_ k_ ∨ P0_5_ k_ ∨ P0_6_ k_ ∨ P0_7_ k_) ∨ w.heap.size ≤ k_) ∧ some k_ ≠ (u1004 : Value).ownBlock ∧ some k_ ≠ (u1005 : Value).ownBlock ∧ some k_ ≠ (.slice Ao57 x1006_1.length co57 : Value).ownBlock ∧ some k_ ≠ (u1007 : Value).ownBlock) (.slice Ao58 x7_2.length co58) x7_2) := ⟨(by rw [hw]; exact (by (with_reducible repeat (first | apply Kd.R_alloc | apply Kd.R_drewN | apply Kd.R_drew)); exact Kd.R_mono (Kd.R_far (p := ⟨g, 6, none⟩) (Kd.R_types HO_7.out BK0.out (by decide)) (fun _ hk => hk.2) (.slice Ao58 x7_2.length co58)) (fun _ hk => ⟨hk.1.1, ⟨hk.1.2.1, ⟨hk.1.2.2.1, ⟨hk.1.2.2.2.1, hk.1.2.2.2.2⟩⟩⟩⟩)))⟩; have n1_ : Aside0 (Kd.Q (Kd.int .i64) 3 w59 w0.heap.size (fun k_ => ((P0_4_ k_ ∨ P0_5_ k_ ∨ P0_6_ k_ ∨ P0_7_ k_) ∨ w.heap.size ≤ k_) ∧ some k_ ≠ (.slice Ao58 x7_2.length co58 : Value).ownBlock ∧ some k_ ≠ (u1005 : Value).ownBlock ∧ some k_ ≠ (.slice Ao57 x1006_1.length co57 : Value).ownBlock ∧ some k_ ≠ (u1007 : Value).ownBlock) u1004 x1004_1) := ⟨(by rw [hw]; exact (by (with_reducible repeat (first | apply Kd.Q_alloc | apply Kd.Q_drewN | apply Kd.Q_drew)); exact Kd.Q_mono (Kd.Q_far (p := ⟨g, 6, none⟩) (Kd.Q_types HO_1004.out BK0.out (by decide)) (fun _ hk => hk.2) (.slice Ao58 x7_2.length co58)) (fun _ hk => ⟨hk.1.1, ⟨hk.1.2.1, ⟨hk.1.2.2.1, ⟨hk.1.2.2.2.1, hk.1.2.2.2.2⟩⟩⟩⟩)))⟩; have n2_ : Aside0 (Kd.Q (Kd.int .i64) 3 w59 w0.heap.size (fun k_ => ((P0_4_ k_ ∨ P0_5_ k_ ∨ P0_6_ k_ ∨ P0_7_ k_) ∨ w.heap.size ≤ k_) ∧ some k_ ≠ (.slice Ao58 x7_2.length co58 : Value).ownBlock ∧ some k_ ≠ (u1004 : Value).ownBlock ∧ some k_ ≠ (.slice Ao57 x1006_1.length co57 : Value).ownBlock ∧ some k_ ≠ (u1007 : Value).ownBlock) u1005 x1005_1) := ⟨(by rw [hw]; exact (by (with_reducible repeat (first | apply Kd.Q_alloc | apply Kd.Q_drewN | apply Kd.Q_drew)); exact Kd.Q_mono (Kd.Q_far (p := ⟨g, 6, none⟩) (Kd.Q_types HO_1005.out BK0.out (by decide)) (fun _ hk => hk.2) (.slice Ao58 x7_2.length co58)) (fun _ hk => ⟨hk.1.1, ⟨hk.1.2.1, ⟨hk.1.2.2.1, ⟨hk.1.2.2.2.1, hk.1.2.2.2.2⟩⟩⟩⟩)))⟩; have n3_ : Aside0 (Kd.Q (Kd.int .i64) 3 w59 w0.heap.size (fun k_ => ((P0_4_ k_ ∨ P0_5_ k_ ∨ P0_6_ k_ ∨ P0_7_ k_) ∨ w.heap.size ≤ k_) ∧ some k_ ≠ (.slice Ao58 x7_2.length co58 : Value).ownBlock ∧ some k_ ≠ (u1004 : Value).ownBlock ∧ some k_ ≠ (u1005 : Value).ownBlock ∧ some k_ ≠ (u1007 : Value).ownBlock) (.slice Ao57 x1006_1.length co57) x1006_1) := ⟨(by rw [hw]; exact (by (with_reducible repeat (first | apply Kd.Q_alloc | apply Kd.Q_drewN | apply Kd.Q_drew)); exact Kd.Q_mono (Kd.Q_far (p := ⟨g, 6, none⟩) (Kd.Q_types HO_1006.out BK0.out (by decide)) (fun _ hk => hk.2) (.slice Ao58 x7_2.length co58)) (fun _ hk => ⟨hk.1.1, ⟨hk.1.2.1, ⟨hk.1.2.2.1, ⟨hk.1.2.2.2.1, hk.1.2.2.2.2⟩⟩⟩⟩)))⟩; have n4_ : Aside0 (Kd.Q (Kd.int .i64) 3 w59 w0.heap.size (fun k_ => ((P0_4_ k_ ∨ P0_5_ k_ ∨ P0_6_ k_ ∨ P0_7_ k_) ∨ w.heap.size ≤ k_) ∧ some k_ ≠ (.slice Ao58 x7_2.length co58 : Value).ownBlock ∧ some k_ ≠ (u1004 : Value).ownBlock ∧ some k_ ≠ (u1005 : Value).ownBlock ∧ some k_ ≠ (.slice Ao57 x1006_1.length co57 : Value).ownBlock) u1007 x1007_1) := ⟨(by rw [hw]; exact (by (with_reducible repeat (first | apply Kd.Q_alloc | apply Kd.Q_drewN | apply Kd.Q_drew)); exact Kd.Q_mono (Kd.Q_far (p := ⟨g, 6, none⟩) (Kd.Q_types HO_1007.out BK0.out (by decide)) (fun _ hk => hk.2) (.slice Ao58 x7_2.length co58)) (fun _ hk => ⟨hk.1.1, ⟨hk.1.2.1, ⟨hk.1.2.2.1, ⟨hk.1.2.2.2.1, hk.1.2.2.2.2⟩⟩⟩⟩)))⟩; have n5_ : Aside0 (w59.heap[g]? = some (.cells #[.int .i64 a0_0, .int .i64 a0_1, .int .i64 a0_2, .int .i64 a0_3, u1004, u1005, .slice Ao58 x7_2.length co58, u1007] 55 (0, 0))) := ⟨(by rw [hw]; exact (Goto.bx BK0))⟩; have n6_ : Aside0 (Kept w w59 (fun k_ => (P0_4_ k_ ∨ P0_5_ k_ ∨ P0_6_ k_ ∨ P0_7_ k_) ∨ k_ = g)) := ⟨(by rw [hw]; exact (by repeat (first | (with_reducible first | exact HK.out | apply Kept.alloc | apply Kept.drewN | apply Kept.drew | refine Kept.setCell ?_ (.inl (.inr rfl)) _) | exact HK.out)))⟩; have n7_ : Aside0 (Below w0.heap.size w0 w59) := ⟨(by rw [hw]; exact (Goto.hx HB))⟩; clear hw; clear HO_7; clear HO_1004; clear HO_1005; clear HO_1006; clear HO_1007; clear BK0; clear HK; clear HB; have HO_7 := n0_; have HO_1004 := n1_; have HO_1005 := n2_; have HO_1006 := n3_; have HO_1007 := n4_; have BK0 := n5_; have HK := n6_; have HB := n7_; clear n0_ n1_ n2_ n3_ n4_ n5_ n6_ n7_))
            go_roundg k2
            case measure => have := HK1.out; have := HK2.out; omega
            case rel => exact ⟨(x5_2), (wrap64 (x6_1 + 1)), (x1004_1), (x1005_1), (x7_2), (x1007_1), (u1004), (u1005), (.slice Ao58 x7_2.length co58), (u1007), (by first | rfl | (simp; done) | (simp [*]; done) | (congr 1; unfold wrap64; omega)), (by first | rfl | (simp; done) | (simp [*]; done) | (congr 1; unfold wrap64; omega)), H', ⟨by have := HK1.out; have := HK2.out; omega⟩, ⟨by (with_reducible repeat (first | apply Kd.Q_alloc | apply Kd.Q_drewN | apply Kd.Q_drew)); exact Kd.Q_mono HO_1004.out (fun _ hk => ⟨hk.1, ⟨hk.2.2.1, ⟨hk.2.1, hk.2.2.2.2⟩⟩⟩)⟩, ⟨by (with_reducible repeat (first | apply Kd.Q_alloc | apply Kd.Q_drewN | apply Kd.Q_drew)); exact Kd.Q_mono HO_1005.out (fun _ hk => ⟨hk.1, ⟨hk.2.2.1, ⟨hk.2.1, hk.2.2.2.2⟩⟩⟩)⟩, ⟨Kd.Q_of_R (by (with_reducible repeat (first | apply Kd.R_alloc | apply Kd.R_drewN | apply Kd.R_drew)); exact Kd.R_mono HO_7.out (fun _ hk => ⟨hk.1, ⟨hk.2.1, ⟨hk.2.2.1, hk.2.2.2.2⟩⟩⟩))⟩, ⟨by (with_reducible repeat (first | apply Kd.Q_alloc | apply Kd.Q_drewN | apply Kd.Q_drew)); exact Kd.Q_mono HO_1007.out (fun _ hk => ⟨hk.1, ⟨hk.2.2.1, ⟨hk.2.2.2.1, hk.2.1⟩⟩⟩)⟩, ⟨Goto.bx BK0⟩, ⟨by repeat (first | (with_reducible first | exact HK.out | apply Kept.alloc | apply Kept.drewN | apply Kept.drew | refine Kept.setCell ?_ (.inl (.inr rfl)) _) | exact HK.out)⟩, ⟨Goto.hx HB⟩⟩
          ·
           rw [if_neg c42] at H
           have c42b0 : (x6_1 == 2) = false := beq_eq_false_iff_ne.mpr c42
           have c42b1 : (x6_1 != 2) = true := bne_iff_ne.mpr c42
           by_cases c60 : x6_1 = 3
           ·
            rw [if_pos c60] at H
            have c60b0 : (x6_1 == 3) = true := beq_iff_eq.mpr c60
            have c60b1 : (x6_1 != 3) = false := bne_eq_false_iff_eq.mpr c60
            clear c60
            have hix61e : x6_1 = 3 := eq_of_beq (by first | (with_reducible assumption) | assumption)
            have hix61 : (x6_1).toNat = 3 := by rw [hix61e]; rfl
            have hix61c : (0 ≤ x6_1 ∧ x6_1 < (4 : Int)) = True := eq_true (by rw [hix61e]; decide)
            clear hix61e
            by_cases c62 : x8_2 < (x1007_1.length : Int)
            ·
             rw [if_pos c62] at H
             have c62b0 : decide (x8_2 < (x1007_1.length : Int)) = true := decide_eq_true c62
             clear c62
             have hix63e : x6_1 = 3 := eq_of_beq (by first | (with_reducible assumption) | assumption)
             have hix63 : (x6_1).toNat = 3 := by rw [hix63e]; rfl
             have hix63c : (0 ≤ x6_1 ∧ x6_1 < (4 : Int)) = True := eq_true (by rw [hix63e]; decide)
             clear hix63e
             by_cases c64 : 0 ≤ x8_2
             ·
              rw [if_pos c64] at H
              have c64b0 : decide (0 ≤ x8_2) = true := decide_eq_true c64
              clear c64
              by_cases c65 : (rd x1007_1 x8_2) = a1
              ·
               rw [if_pos c65] at H
               have c65b0 : ((rd x1007_1 x8_2) == a1) = true := beq_iff_eq.mpr c65
               have c65b1 : ((rd x1007_1 x8_2) != a1) = false := bne_eq_false_iff_eq.mpr c65
               clear c65
               have H' := Goto.m0 H
               clear H; have hcz66_0 := Goto.bc0 BK0; have hcz66_1 := Goto.bc1 BK0; have hcz66_2 := Goto.bc2 BK0; have hcz66_3 := Goto.bc3 BK0; have hcz66_4 := Goto.bc4 BK0; have hcz66_5 := Goto.bc5 BK0; have hcz66_6 := Goto.bc6 BK0; have hcz66_7 := Goto.bc7 BK0; have hfz66_0 := Goto.bf BK0 0; have hfz66_1 := Goto.bf BK0 1; have hfz66_2 := Goto.bf BK0 2; have hfz66_3 := Goto.bf BK0 3; have hfz66_4 := Goto.bf BK0 4; have hfz66_5 := Goto.bf BK0 5; have hfz66_6 := Goto.bf BK0 6; have hfz66_7 := Goto.bf BK0 7
               obtain ⟨Ao67, co67, eo67, _⟩ := Kd.Q_slice HO_1007.out
               subst eo67
               have p465 : 0 ≤ (x8_2 : Int) := Goto.od
               have q465 : x8_2 < (x1007_1.length : Int) := Goto.od
               obtain ⟨ad465, e465, hx465_0⟩ := Kd.at_int (Kd.Q_reads' HO_1007.out).2.2 x8_2 p465 q465
               cases e465
               replace p465 := eq_true p465; replace q465 := eq_true q465
               go_wp2
               go_roundg k2
               case measure => have := HK1.out; have := HK2.out; omega
               case rel => exact ⟨(true), (x7_2), (wrap64 (x8_2 + 1)), (by first | rfl | (simp; done) | (simp [*]; done) | (congr 1; unfold wrap64; omega)), (by first | rfl | (simp; done) | (simp [*]; done) | (congr 1; unfold wrap64; omega)), H', ⟨by have := HK1.out; have := HK2.out; omega⟩, ⟨Goto.rk HO_7⟩, ⟨by (with_reducible repeat (first | apply Kd.Q_alloc | apply Kd.Q_drewN | apply Kd.Q_drew)); exact HO_1004.out⟩, ⟨by (with_reducible repeat (first | apply Kd.Q_alloc | apply Kd.Q_drewN | apply Kd.Q_drew)); exact HO_1005.out⟩, ⟨by (with_reducible repeat (first | apply Kd.Q_alloc | apply Kd.Q_drewN | apply Kd.Q_drew)); exact HO_1006.out⟩, ⟨by (with_reducible repeat (first | apply Kd.Q_alloc | apply Kd.Q_drewN | apply Kd.Q_drew)); exact HO_1007.out⟩, ⟨Goto.bx BK0⟩, ⟨by repeat (first | (with_reducible first | exact HK.out | apply Kept.alloc | apply Kept.drewN | apply Kept.drew | refine Kept.setCell ?_ (.inl (.inr rfl)) _) | exact HK.out)⟩, ⟨Goto.hx HB⟩⟩
              ·
               rw [if_neg c65] at H
               have c65b0 : ((rd x1007_1 x8_2) == a1) = false := beq_eq_false_iff_ne.mpr c65
               have c65b1 : ((rd x1007_1 x8_2) != a1) = true := bne_iff_ne.mpr c65
               have hix68e : x6_1 = 3 := eq_of_beq (by first | (with_reducible assumption) | assumption)
               have hix68 : (x6_1).toNat = 3 := by rw [hix68e]; rfl
               have hix68c : (0 ≤ x6_1 ∧ x6_1 < (4 : Int)) = True := eq_true (by rw [hix68e]; decide)
               clear hix68e
               by_cases c69 : x7_2.length < 17592186044416
               ·
                rw [if_pos c69] at H
                have LMc69 := Goto.m0 c69
                clear c69
                obtain ⟨y467, hy467⟩ : ∃ y_ : List Int, y_ = (x7_2 ++ [rd x1007_1 x8_2]) := ⟨_, rfl⟩
                replace H : (tontineref8_Objects_Drop.l1 k2 a1 x5_2 x6_1 y467 (wrap64 (x8_2 + 1)) a0_0 a0_1 a0_2 a0_3 x1004_1 x1005_1 x1006_1 x1007_1) = some (r1, r2, r3, r4, r5, r6, r7, r8, r9) := by first | (rw [hy467]; with_reducible exact H) | (have H2_ := (Option.bind_some _ _).symm.trans H; rw [hy467]; with_reducible exact H2_) | (have H2_ := (Option.bind_some _ _).symm.trans H; with_reducible exact H2_) | with_reducible exact H | (rw [hy467]; exact H) | exact H
                have Ny467 := Goto.m0 hy467
                clear hy467
                have H' := Goto.m0 H
                clear H; have hcz70_0 := Goto.bc0 BK0; have hcz70_1 := Goto.bc1 BK0; have hcz70_2 := Goto.bc2 BK0; have hcz70_3 := Goto.bc3 BK0; have hcz70_4 := Goto.bc4 BK0; have hcz70_5 := Goto.bc5 BK0; have hcz70_6 := Goto.bc6 BK0; have hcz70_7 := Goto.bc7 BK0; have hfz70_0 := Goto.bf BK0 0; have hfz70_1 := Goto.bf BK0 1; have hfz70_2 := Goto.bf BK0 2; have hfz70_3 := Goto.bf BK0 3; have hfz70_4 := Goto.bf BK0 4; have hfz70_5 := Goto.bf BK0 5; have hfz70_6 := Goto.bf BK0 6; have hfz70_7 := Goto.bf BK0 7
                obtain ⟨Ao71, co71, eo71, _⟩ := Kd.Q_slice HO_1007.out
                subst eo71
                have p465 : 0 ≤ (x8_2 : Int) := Goto.od
                have q465 : x8_2 < (x1007_1.length : Int) := Goto.od
                obtain ⟨ad465, e465, hx465_0⟩ := Kd.at_int (Kd.Q_reads' HO_1007.out).2.2 x8_2 p465 q465
                cases e465
                replace p465 := eq_true p465; replace q465 := eq_true q465
                have p466 : 0 ≤ (x8_2 : Int) := Goto.od
                have q466 : x8_2 < (x1007_1.length : Int) := Goto.od
                obtain ⟨ad466, e466, hx466_0⟩ := Kd.at_int (Kd.Q_reads' HO_1007.out).2.2 x8_2 p466 q466
                obtain rfl : ad465 = ad466 := (by injection e466)
                replace p466 := eq_true p466; replace q466 := eq_true q466
                go_wp2_with (first | ((with_reducible refine gate_builtin (b := .append) (xs := #[.tmp 35, .tmp 45]) rfl ?_); at_builtin; refine Kd.R_append (Kd.int .i64) (w0 := w0) w0.heap.size rfl (.tmp 35) (.tmp 45) 52 3 (.int .i64 0) 8 rfl Tryd.underlying52 info3 rfl (by decide) (by omega) u7 x7_2 (rd x1007_1 x8_2) [.int .i64 (rd x1007_1 x8_2)] (fun k_ => ((P0_4_ k_ ∨ P0_5_ k_ ∨ P0_6_ k_ ∨ P0_7_ k_) ∨ w.heap.size ≤ k_) ∧ some k_ ≠ (u1004 : Value).ownBlock ∧ some k_ ≠ (u1005 : Value).ownBlock ∧ some k_ ≠ (u1006 : Value).ownBlock ∧ some k_ ≠ (.slice (some ad465) x1007_1.length co71 : Value).ownBlock) (fun _ => False) rfl rfl ?aP (fun _ hk => hk.elim) ?aF ?aO ?aB ?aS ?aL ?_; (case aP => exact rfl); (case aB => exact (Goto.hx HB)); (case aF => exact (fun k_ hk => ⟨(.inr (Nat.le_trans (by first | exact HK.out.1 | exact (show Kept w _ (fun k_ => (P0_4_ k_ ∨ P0_5_ k_ ∨ P0_6_ k_ ∨ P0_7_ k_) ∨ k_ = g) from by repeat (first | (with_reducible first | exact HK.out | apply Kept.alloc | apply Kept.drewN | apply Kept.drew | refine Kept.setCell ?_ (.inl (.inr rfl)) _) | exact HK.out)).1) hk)), Kd.fresh' (Kd.Q_lt (by (with_reducible repeat (first | apply Kd.Q_alloc | apply Kd.Q_drewN | apply Kd.Q_drew)); exact HO_1004.out)) k_ hk, Kd.fresh' (Kd.Q_lt (by (with_reducible repeat (first | apply Kd.Q_alloc | apply Kd.Q_drewN | apply Kd.Q_drew)); exact HO_1005.out)) k_ hk, Kd.fresh' (Kd.Q_lt (by (with_reducible repeat (first | apply Kd.Q_alloc | apply Kd.Q_drewN | apply Kd.Q_drew)); exact HO_1006.out)) k_ hk, Kd.fresh' (Kd.Q_lt (by (with_reducible repeat (first | apply Kd.Q_alloc | apply Kd.Q_drewN | apply Kd.Q_drew)); exact HO_1007.out)) k_ hk⟩)); (case aO => exact (Goto.rk HO_7)); (case aS => exact (below_size (Goto.hx HB))); (case aL => have := LMc69.out; omega); intro v468 w72 ho hb hg hat; rw [← Ny467.out] at ho; have n0_ := Goto.m0 (Kd.Q_after (ok := (fun k_ => ((P0_4_ k_ ∨ P0_5_ k_ ∨ P0_6_ k_ ∨ P0_7_ k_) ∨ w.heap.size ≤ k_) ∧ some k_ ≠ (u1005 : Value).ownBlock ∧ some k_ ≠ (u1006 : Value).ownBlock ∧ some k_ ≠ (.slice (some ad465) x1007_1.length co71 : Value).ownBlock)) (by (with_reducible repeat (first | apply Kd.Q_alloc | apply Kd.Q_drewN | apply Kd.Q_drew)); exact Kd.Q_mono HO_1004.out (fun _ hk => ⟨⟨hk.1, ⟨hk.2.2.1, ⟨hk.2.2.2.1, hk.2.2.2.2⟩⟩⟩, hk.2.1⟩)) hg hat); have n1_ := Goto.m0 (Kd.Q_after (ok := (fun k_ => ((P0_4_ k_ ∨ P0_5_ k_ ∨ P0_6_ k_ ∨ P0_7_ k_) ∨ w.heap.size ≤ k_) ∧ some k_ ≠ (u1004 : Value).ownBlock ∧ some k_ ≠ (u1006 : Value).ownBlock ∧ some k_ ≠ (.slice (some ad465) x1007_1.length co71 : Value).ownBlock)) (by (with_reducible repeat (first | apply Kd.Q_alloc | apply Kd.Q_drewN | apply Kd.Q_drew)); exact Kd.Q_mono HO_1005.out (fun _ hk => ⟨⟨hk.1, ⟨hk.2.2.1, ⟨hk.2.2.2.1, hk.2.2.2.2⟩⟩⟩, hk.2.1⟩)) hg hat); have n2_ := Goto.m0 (Kd.Q_after (ok := (fun k_ => ((P0_4_ k_ ∨ P0_5_ k_ ∨ P0_6_ k_ ∨ P0_7_ k_) ∨ w.heap.size ≤ k_) ∧ some k_ ≠ (u1004 : Value).ownBlock ∧ some k_ ≠ (u1005 : Value).ownBlock ∧ some k_ ≠ (.slice (some ad465) x1007_1.length co71 : Value).ownBlock)) (by (with_reducible repeat (first | apply Kd.Q_alloc | apply Kd.Q_drewN | apply Kd.Q_drew)); exact Kd.Q_mono HO_1006.out (fun _ hk => ⟨⟨hk.1, ⟨hk.2.2.1, ⟨hk.2.2.2.1, hk.2.2.2.2⟩⟩⟩, hk.2.1⟩)) hg hat); have n3_ := Goto.m0 (Kd.Q_after (ok := (fun k_ => ((P0_4_ k_ ∨ P0_5_ k_ ∨ P0_6_ k_ ∨ P0_7_ k_) ∨ w.heap.size ≤ k_) ∧ some k_ ≠ (u1004 : Value).ownBlock ∧ some k_ ≠ (u1005 : Value).ownBlock ∧ some k_ ≠ (u1006 : Value).ownBlock)) (by (with_reducible repeat (first | apply Kd.Q_alloc | apply Kd.Q_drewN | apply Kd.Q_drew)); exact Kd.Q_mono HO_1007.out (fun _ hk => ⟨⟨hk.1, ⟨hk.2.2.1, ⟨hk.2.2.2.1, hk.2.2.2.2⟩⟩⟩, hk.2.1⟩)) hg hat); have n4_ := Goto.m0 (blk_grown (g := g) (o := .cells #[.int .i64 a0_0, .int .i64 a0_1, .int .i64 a0_2, .int .i64 a0_3, u1004, u1005, u1006, .slice (some ad465) x1007_1.length co71] 55 (0, 0)) (Goto.bx BK0) hg (Kd.R_ne HO_7.out BK0.out (by decide))); have n5_ := Goto.m0 (hb); have n6_ := Goto.m0 (Kept.of_grown (S := (fun k_ => (P0_4_ k_ ∨ P0_5_ k_ ∨ P0_6_ k_ ∨ P0_7_ k_) ∨ k_ = g)) hg (by repeat (first | (with_reducible first | exact HK.out | apply Kept.alloc | apply Kept.drewN | apply Kept.drew | refine Kept.setCell ?_ (.inl (.inr rfl)) _) | exact HK.out)) (fun k_ e_ => Or.imp_left Or.inl ((HO_7.out.1 k_ e_).1))); have n7_ := Goto.m0 (ho); clear HO_1004; clear HO_1005; clear HO_1006; clear HO_1007; clear BK0; clear HB; clear HK; clear HO_7; have HO_1004 := n0_; have HO_1005 := n1_; have HO_1006 := n2_; have HO_1007 := n3_; have BK0 := n4_; have HB := n5_; have HK := n6_; have HO469 := n7_; clear n0_ n1_ n2_ n3_ n4_ n5_ n6_ n7_; clear ho hb hg hat))
                go_roundg k2
                case measure => have := HK1.out; have := HK2.out; omega
                case rel => exact ⟨(x5_2), (y467), (wrap64 (x8_2 + 1)), (by first | rfl | (simp; done) | (simp [*]; done) | (congr 1; unfold wrap64; omega)), (by first | rfl | (simp; done) | (simp [*]; done) | (congr 1; unfold wrap64; omega)), H', ⟨by have := HK1.out; have := HK2.out; omega⟩, ⟨Goto.rk HO469⟩, ⟨by (with_reducible repeat (first | apply Kd.Q_alloc | apply Kd.Q_drewN | apply Kd.Q_drew)); exact Kd.Q_mono HO_1004.out (fun _ hk => ⟨hk.1.1, ⟨hk.2, ⟨hk.1.2.1, ⟨hk.1.2.2.1, hk.1.2.2.2⟩⟩⟩⟩)⟩, ⟨by (with_reducible repeat (first | apply Kd.Q_alloc | apply Kd.Q_drewN | apply Kd.Q_drew)); exact Kd.Q_mono HO_1005.out (fun _ hk => ⟨hk.1.1, ⟨hk.2, ⟨hk.1.2.1, ⟨hk.1.2.2.1, hk.1.2.2.2⟩⟩⟩⟩)⟩, ⟨by (with_reducible repeat (first | apply Kd.Q_alloc | apply Kd.Q_drewN | apply Kd.Q_drew)); exact Kd.Q_mono HO_1006.out (fun _ hk => ⟨hk.1.1, ⟨hk.2, ⟨hk.1.2.1, ⟨hk.1.2.2.1, hk.1.2.2.2⟩⟩⟩⟩)⟩, ⟨by (with_reducible repeat (first | apply Kd.Q_alloc | apply Kd.Q_drewN | apply Kd.Q_drew)); exact Kd.Q_mono HO_1007.out (fun _ hk => ⟨hk.1.1, ⟨hk.2, ⟨hk.1.2.1, ⟨hk.1.2.2.1, hk.1.2.2.2⟩⟩⟩⟩)⟩, ⟨Goto.bx BK0⟩, ⟨by repeat (first | (with_reducible first | exact HK.out | apply Kept.alloc | apply Kept.drewN | apply Kept.drew | refine Kept.setCell ?_ (.inl (.inr rfl)) _) | exact HK.out)⟩, ⟨Goto.hx HB⟩⟩
               ·
                rw [if_neg c69] at H
                exact absurd H (by simp)
             ·
              rw [if_neg c64] at H
              exact absurd H (by simp)
            ·
             rw [if_neg c62] at H
             have c62b0 : decide (x8_2 < (x1007_1.length : Int)) = false := decide_eq_false c62
             clear c62
             have hix73e : x6_1 = 3 := eq_of_beq (by first | (with_reducible assumption) | assumption)
             have hix73 : (x6_1).toNat = 3 := by rw [hix73e]; rfl
             have hix73c : (0 ≤ x6_1 ∧ x6_1 < (4 : Int)) = True := eq_true (by rw [hix73e]; decide)
             clear hix73e
             have H' := Goto.m0 H
             clear H; have hcz74_0 := Goto.bc0 BK0; have hcz74_1 := Goto.bc1 BK0; have hcz74_2 := Goto.bc2 BK0; have hcz74_3 := Goto.bc3 BK0; have hcz74_4 := Goto.bc4 BK0; have hcz74_5 := Goto.bc5 BK0; have hcz74_6 := Goto.bc6 BK0; have hcz74_7 := Goto.bc7 BK0; have hfz74_0 := Goto.bf BK0 0; have hfz74_1 := Goto.bf BK0 1; have hfz74_2 := Goto.bf BK0 2; have hfz74_3 := Goto.bf BK0 3; have hfz74_4 := Goto.bf BK0 4; have hfz74_5 := Goto.bf BK0 5; have hfz74_6 := Goto.bf BK0 6; have hfz74_7 := Goto.bf BK0 7
             obtain ⟨Ao75, co75, eo75, _⟩ := Kd.Q_slice HO_1007.out
             subst eo75
             obtain ⟨Ao76, co76, eo76⟩ := Kd.R_slice HO_7.out
             subst eo76
             go_wp2_with (first | ((with_reducible refine gate_store (t := 52) (p := 52) rfl ?_); refine store_event (t := 52) (p := 52) (v := ?vo_w77) (w1 := (wr.setCell ⟨g, 7, none⟩ (.slice Ao76 x7_2.length co76))) ?hg ?ho ?hn ?hr ?_; (case ho => rfl); (case hg => rfl); (case hn => rfl); (case hr => first | (go_simp; done) | (go_simp; rfl)); intro w77 hw; have n0_ : Aside0 (Kd.R (Kd.int .i64) 3 w77 w0.heap.size (fun k_ => ((P0_4_ k_ ∨ P0_5_ k_ ∨ P0_6_ k_ ∨ P0_7_ k_) ∨ w.heap.size ≤ k_) ∧ some k_ ≠ (u1004 : Value).ownBlock ∧ some k_ ≠ (u1005 : Value).ownBlock ∧ some k_ ≠ (u1006 : Value).ownBlock ∧ some k_ ≠ (.slice Ao75 x1007_1.length co75 : Value).ownBlock) (.slice Ao76 x7_2.length co76) x7_2) := ⟨(by rw [hw]; exact (by (with_reducible repeat (first | apply Kd.R_alloc | apply Kd.R_drewN | apply Kd.R_drew)); exact Kd.R_mono (Kd.R_far (p := ⟨g, 7, none⟩) (Kd.R_types HO_7.out BK0.out (by decide)) (fun _ hk => hk.2) (.slice Ao76 x7_2.length co76)) (fun _ hk => ⟨hk.1.1, ⟨hk.1.2.1, ⟨hk.1.2.2.1, ⟨hk.1.2.2.2.1, hk.1.2.2.2.2⟩⟩⟩⟩)))⟩; have n1_ : Aside0 (Kd.Q (Kd.int .i64) 3 w77 w0.heap.size (fun k_ => ((P0_4_ k_ ∨ P0_5_ k_ ∨ P0_6_ k_ ∨ P0_7_ k_) ∨ w.heap.size ≤ k_) ∧ some k_ ≠ (.slice Ao76 x7_2.length co76 : Value).ownBlock ∧ some k_ ≠ (u1005 : Value).ownBlock ∧ some k_ ≠ (u1006 : Value).ownBlock ∧ some k_ ≠ (.slice Ao75 x1007_1.length co75 : Value).ownBlock) u1004 x1004_1) := ⟨(by rw [hw]; exact (by (with_reducible repeat (first | apply Kd.Q_alloc | apply Kd.Q_drewN | apply Kd.Q_drew)); exact Kd.Q_mono (Kd.Q_far (p := ⟨g, 7, none⟩) (Kd.Q_types HO_1004.out BK0.out (by decide)) (fun _ hk => hk.2) (.slice Ao76 x7_2.length co76)) (fun _ hk => ⟨hk.1.1, ⟨hk.1.2.1, ⟨hk.1.2.2.1, ⟨hk.1.2.2.2.1, hk.1.2.2.2.2⟩⟩⟩⟩)))⟩; have n2_ : Aside0 (Kd.Q (Kd.int .i64) 3 w77 w0.heap.size (fun k_ => ((P0_4_ k_ ∨ P0_5_ k_ ∨ P0_6_ k_ ∨ P0_7_ k_) ∨ w.heap.size ≤ k_) ∧ some k_ ≠ (.slice Ao76 x7_2.length co76 : Value).ownBlock ∧ some k_ ≠ (u1004 : Value).ownBlock ∧ some k_ ≠ (u1006 : Value).ownBlock ∧ some k_ ≠ (.slice Ao75 x1007_1.length co75 : Value).ownBlock) u1005 x1005_1) := ⟨(by rw [hw]; exact (by (with_reducible repeat (first | apply Kd.Q_alloc | apply Kd.Q_drewN | apply Kd.Q_drew)); exact Kd.Q_mono (Kd.Q_far (p := ⟨g, 7, none⟩) (Kd.Q_types HO_1005.out BK0.out (by decide)) (fun _ hk => hk.2) (.slice Ao76 x7_2.length co76)) (fun _ hk => ⟨hk.1.1, ⟨hk.1.2.1, ⟨hk.1.2.2.1, ⟨hk.1.2.2.2.1, hk.1.2.2.2.2⟩⟩⟩⟩)))⟩; have n3_ : Aside0 (Kd.Q (Kd.int .i64) 3 w77 w0.heap.size (fun k_ => ((P0_4_ k_ ∨ P0_5_ k_ ∨ P0_6_ k_ ∨ P0_7_ k_) ∨ w.heap.size ≤ k_) ∧ some k_ ≠ (.slice Ao76 x7_2.length co76 : Value).ownBlock ∧ some k_ ≠ (u1004 : Value).ownBlock ∧ some k_ ≠ (u1005 : Value).ownBlock ∧ some k_ ≠ (.slice Ao75 x1007_1.length co75 : Value).ownBlock) u1006 x1006_1) := ⟨(by rw [hw]; exact (by (with_reducible repeat (first | apply Kd.Q_alloc | apply Kd.Q_drewN | apply Kd.Q_drew)); exact Kd.Q_mono (Kd.Q_far (p := ⟨g, 7, none⟩) (Kd.Q_types HO_1006.out BK0.out (by decide)) (fun _ hk => hk.2) (.slice Ao76 x7_2.length co76)) (fun _ hk => ⟨hk.1.1, ⟨hk.1.2.1, ⟨hk.1.2.2.1, ⟨hk.1.2.2.2.1, hk.1.2.2.2.2⟩⟩⟩⟩)))⟩; have n4_ : Aside0 (Kd.Q (Kd.int .i64) 3 w77 w0.heap.size (fun k_ => ((P0_4_ k_ ∨ P0_5_ k_ ∨ P0_6_ k_ ∨ P0_7_ k_) ∨ w.heap.size ≤ k_) ∧ some k_ ≠ (.slice Ao76 x7_2.length co76 : Value).ownBlock ∧ some k_ ≠ (u1004 : Value).ownBlock ∧ some k_ ≠ (u1005 : Value).ownBlock ∧ some k_ ≠ (u1006 : Value).ownBlock) (.slice Ao75 x1007_1.length co75) x1007_1) := ⟨(by rw [hw]; exact (by (with_reducible repeat (first | apply Kd.Q_alloc | apply Kd.Q_drewN | apply Kd.Q_drew)); exact Kd.Q_mono (Kd.Q_far (p := ⟨g, 7, none⟩) (Kd.Q_types HO_1007.out BK0.out (by decide)) (fun _ hk => hk.2) (.slice Ao76 x7_2.length co76)) (fun _ hk => ⟨hk.1.1, ⟨hk.1.2.1, ⟨hk.1.2.2.1, ⟨hk.1.2.2.2.1, hk.1.2.2.2.2⟩⟩⟩⟩)))⟩; have n5_ : Aside0 (w77.heap[g]? = some (.cells #[.int .i64 a0_0, .int .i64 a0_1, .int .i64 a0_2, .int .i64 a0_3, u1004, u1005, u1006, .slice Ao76 x7_2.length co76] 55 (0, 0))) := ⟨(by rw [hw]; exact (Goto.bx BK0))⟩; have n6_ : Aside0 (Kept w w77 (fun k_ => (P0_4_ k_ ∨ P0_5_ k_ ∨ P0_6_ k_ ∨ P0_7_ k_) ∨ k_ = g)) := ⟨(by rw [hw]; exact (by repeat (first | (with_reducible first | exact HK.out | apply Kept.alloc | apply Kept.drewN | apply Kept.drew | refine Kept.setCell ?_ (.inl (.inr rfl)) _) | exact HK.out)))⟩; have n7_ : Aside0 (Below w0.heap.size w0 w77) := ⟨(by rw [hw]; exact (Goto.hx HB))⟩; clear hw; clear HO_7; clear HO_1004; clear HO_1005; clear HO_1006; clear HO_1007; clear BK0; clear HK; clear HB; have HO_7 := n0_; have HO_1004 := n1_; have HO_1005 := n2_; have HO_1006 := n3_; have HO_1007 := n4_; have BK0 := n5_; have HK := n6_; have HB := n7_; clear n0_ n1_ n2_ n3_ n4_ n5_ n6_ n7_))
             go_roundg k2
             case measure => have := HK1.out; have := HK2.out; omega
             case rel => exact ⟨(x5_2), (wrap64 (x6_1 + 1)), (x1004_1), (x1005_1), (x1006_1), (x7_2), (u1004), (u1005), (u1006), (.slice Ao76 x7_2.length co76), (by first | rfl | (simp; done) | (simp [*]; done) | (congr 1; unfold wrap64; omega)), (by first | rfl | (simp; done) | (simp [*]; done) | (congr 1; unfold wrap64; omega)), H', ⟨by have := HK1.out; have := HK2.out; omega⟩, ⟨by (with_reducible repeat (first | apply Kd.Q_alloc | apply Kd.Q_drewN | apply Kd.Q_drew)); exact Kd.Q_mono HO_1004.out (fun _ hk => ⟨hk.1, ⟨hk.2.2.1, ⟨hk.2.2.2.1, hk.2.1⟩⟩⟩)⟩, ⟨by (with_reducible repeat (first | apply Kd.Q_alloc | apply Kd.Q_drewN | apply Kd.Q_drew)); exact Kd.Q_mono HO_1005.out (fun _ hk => ⟨hk.1, ⟨hk.2.2.1, ⟨hk.2.2.2.1, hk.2.1⟩⟩⟩)⟩, ⟨by (with_reducible repeat (first | apply Kd.Q_alloc | apply Kd.Q_drewN | apply Kd.Q_drew)); exact Kd.Q_mono HO_1006.out (fun _ hk => ⟨hk.1, ⟨hk.2.2.1, ⟨hk.2.2.2.1, hk.2.1⟩⟩⟩)⟩, ⟨Kd.Q_of_R (by (with_reducible repeat (first | apply Kd.R_alloc | apply Kd.R_drewN | apply Kd.R_drew)); exact Kd.R_mono HO_7.out (fun _ hk => ⟨hk.1, ⟨hk.2.1, ⟨hk.2.2.1, hk.2.2.2.1⟩⟩⟩))⟩, ⟨Goto.bx BK0⟩, ⟨by repeat (first | (with_reducible first | exact HK.out | apply Kept.alloc | apply Kept.drewN | apply Kept.drew | refine Kept.setCell ?_ (.inl (.inr rfl)) _) | exact HK.out)⟩, ⟨Goto.hx HB⟩⟩
           ·
            rw [if_neg c60] at H
            exact absurd H (by simp)
       ·
        rw [if_neg c5] at H
        exact absurd H (by simp)
      ·
       rw [if_neg c4] at H
       exact absurd H (by simp)
   ·
    rw [if_neg c3] at H
    have c3b0 : decide (x6_1 < 4) = false := decide_eq_false c3
    clear c3
    simp only [Option.some.injEq, Prod.mk.injEq] at H
    obtain ⟨rfl, rfl, rfl, rfl, rfl, rfl, rfl, rfl, rfl⟩ := H
    go_wp2
    go_ret
    (try simp only [← exists_and_left])
    exact ⟨_, _, _, _, Goto.er, by (with_reducible repeat (first | apply Kd.Q_alloc | apply Kd.Q_drewN | apply Kd.Q_drew)); exact HO_1004.out, by (with_reducible repeat (first | apply Kd.Q_alloc | apply Kd.Q_drewN | apply Kd.Q_drew)); exact HO_1005.out, by (with_reducible repeat (first | apply Kd.Q_alloc | apply Kd.Q_drewN | apply Kd.Q_drew)); exact HO_1006.out, by (with_reducible repeat (first | apply Kd.Q_alloc | apply Kd.Q_drewN | apply Kd.Q_drew)); exact HO_1007.out, by (with_reducible repeat first | refine blk_drewN ?_ _ | refine blk_drew ?_ | refine blk_alloc ?_ _); exact BK0.out, by repeat (first | (with_reducible first | exact HB.out | apply below_alloc | apply pw_below_drewN | apply below_drew1 | refine below_set ?_ GE0.out) | exact HB.out), by repeat (first | (with_reducible first | exact HK.out | apply Kept.alloc | apply Kept.drewN | apply Kept.drew | refine Kept.setCell ?_ (.inl (.inr rfl)) _) | exact HK.out)⟩

/-! ### tontineref1_SameInts: function 31 -/
def tontineref1_SameInts.l0 : Nat → List Int → List Int → Int → Option (Bool)
  | 0, _, _, _ => none
  | k + 1, x0, x1, x5 => if x5 < (x0.length : Int) then (if 0 ≤ x5 then (if x5 < (x1.length : Int) then (if (rd x0 x5) = (rd x1 x5) then (tontineref1_SameInts.l0 k x0 x1 (wrap64 (x5 + 1))) else (some false)) else (none)) else (none)) else (some true)
def tontineref1_SameInts.f (k : Nat) (l0 : List Int) (l1 : List Int) : Option (Bool) := if (l0.length : Int) = (l1.length : Int) then (tontineref1_SameInts.l0 k l0 l1 0) else (some false)
set_option maxHeartbeats 8000000 in
set_option maxRecDepth 100000 in
theorem tontineref1_SameInts.calls (k : Nat) (A0 : Option Addr) (c0 : Nat) (l0 : List Int) (A1 : Option Addr) (c1 : Nat) (l1 : List Int) (r : Bool) (w : World) (hr0 : Kd.C (Kd.int .i64) w A0 l0.length l0) (hc0 : l0.length ≤ c0) (hr1 : Kd.C (Kd.int .i64) w A1 l1.length l1) (hc1 : l1.length ≤ c1) (h : tontineref1_SameInts.f k l0 l1 = some r) :
    Calls Tryd.prog 31 #[.slice A0 l0.length c0, .slice A1 l1.length c1] w fun e w' => e = .returned (.bool r) ∧ Drawn0 w w' := by
 have HR0 := Goto.m0 hr0
 have HC0 := Goto.m0 hc0
 clear hr0 hc0
 have HR1 := Goto.m0 hr1
 have HC1 := Goto.m0 hc1
 clear hr1 hc1
 have H : (if (l0.length : Int) = (l1.length : Int) then (tontineref1_SameInts.l0 k l0 l1 0) else (some false)) = some r := h
 clear h
 by_cases c3 : (l0.length : Int) = (l1.length : Int)
 ·
  rw [if_pos c3] at H
  have c3b0 : ((l0.length : Int) == (l1.length : Int)) = true := beq_iff_eq.mpr c3
  have c3b1 : ((l0.length : Int) != (l1.length : Int)) = false := bne_eq_false_iff_eq.mpr c3
  have c3b2 : (l0.length == l1.length) = true := by first | simpa using c3 | (simp at c3 ⊢; omega)
  clear c3
  have H' := Goto.m0 H
  clear H
  go_enter Tryd.func31, Tryd.ntmps31
  go_wp2
  repeat (go_quiet (fail); try go_wp2)
  go_loopg [5] k (fun kq v5 w' => ∃ (x5_1 : Int), v5 = .int .i64 x5_1 ∧ Aside0 (tontineref1_SameInts.l0 kq l0 l1 x5_1 = some r) ∧ Aside0 (kq ≤ k) ∧ Drawn0 w w')
  case atStart => exact ⟨(0), (by first | rfl | (simp; done) | (simp [*]; done) | (congr 1; unfold wrap64; omega)), H', ⟨Nat.le_refl _⟩, by repeat (first | exact Drawn0.refl _ | apply Drawn0.step)⟩
  case round =>
   clear H'
   try clear c1; try clear p2; try clear c3; try clear c3b0; try clear c3b1; try clear c3b2
   obtain ⟨x5_1, rfl, HA, HK1, ⟨m1, rfl⟩⟩ := hrel
   cases gk with
   | zero => exact absurd HA.out (by simp [tontineref1_SameInts.l0])
   | succ k1 =>
    have H := HA.out; clear HA
    simp only [tontineref1_SameInts.l0] at H
    by_cases c4 : x5_1 < (l0.length : Int)
    ·
     rw [if_pos c4] at H
     have c4b0 : decide (x5_1 < (l0.length : Int)) = true := decide_eq_true c4
     clear c4
     by_cases c5 : 0 ≤ x5_1
     ·
      rw [if_pos c5] at H
      have c5b0 : decide (0 ≤ x5_1) = true := decide_eq_true c5
      clear c5
      by_cases c6 : x5_1 < (l1.length : Int)
      ·
       rw [if_pos c6] at H
       have c6b0 : decide (x5_1 < (l1.length : Int)) = true := decide_eq_true c6
       clear c6
       by_cases c7 : (rd l0 x5_1) = (rd l1 x5_1)
       ·
        rw [if_pos c7] at H
        have c7b0 : ((rd l0 x5_1) == (rd l1 x5_1)) = true := beq_iff_eq.mpr c7
        have c7b1 : ((rd l0 x5_1) != (rd l1 x5_1)) = false := bne_eq_false_iff_eq.mpr c7
        clear c7
        have H' := Goto.m0 H
        clear H
        have p470 : 0 ≤ (x5_1 : Int) := Goto.od
        have q470 : x5_1 < (l0.length : Int) := Goto.od
        obtain ⟨ad470, e470, hx470_0⟩ := Kd.at_int HR0.out x5_1 p470 q470
        cases e470
        replace p470 := eq_true p470; replace q470 := eq_true q470
        have p471 : 0 ≤ (x5_1 : Int) := Goto.od
        have q471 : x5_1 < (l1.length : Int) := Goto.od
        obtain ⟨ad471, e471, hx471_0⟩ := Kd.at_int HR1.out x5_1 p471 q471
        cases e471
        replace p471 := eq_true p471; replace q471 := eq_true q471
        go_wp2
        repeat (go_quiet (fail); try go_wp2)
        go_roundg k1
        case measure => have := HK1.out; omega
        case rel => exact ⟨(wrap64 (x5_1 + 1)), (by first | rfl | (simp; done) | (simp [*]; done) | (congr 1; unfold wrap64; omega)), H', ⟨by have := HK1.out; omega⟩, by repeat (first | exact Drawn0.refl _ | apply Drawn0.step)⟩
       ·
        rw [if_neg c7] at H
        have c7b0 : ((rd l0 x5_1) == (rd l1 x5_1)) = false := beq_eq_false_iff_ne.mpr c7
        have c7b1 : ((rd l0 x5_1) != (rd l1 x5_1)) = true := bne_iff_ne.mpr c7
        obtain rfl := Option.some.inj H
        have p470 : 0 ≤ (x5_1 : Int) := Goto.od
        have q470 : x5_1 < (l0.length : Int) := Goto.od
        obtain ⟨ad470, e470, hx470_0⟩ := Kd.at_int HR0.out x5_1 p470 q470
        cases e470
        replace p470 := eq_true p470; replace q470 := eq_true q470
        have p471 : 0 ≤ (x5_1 : Int) := Goto.od
        have q471 : x5_1 < (l1.length : Int) := Goto.od
        obtain ⟨ad471, e471, hx471_0⟩ := Kd.at_int HR1.out x5_1 p471 q471
        cases e471
        replace p471 := eq_true p471; replace q471 := eq_true q471
        go_wp2
        repeat (go_quiet (fail); try go_wp2)
        go_ret
        exact ⟨by first | rfl | (simp; done) | (simp [*]; done) | (congr 1; unfold wrap64; omega), by repeat (first | exact Drawn0.refl _ | apply Drawn0.step)⟩
      ·
       rw [if_neg c6] at H
       exact absurd H (by simp)
     ·
      rw [if_neg c5] at H
      exact absurd H (by simp)
    ·
     rw [if_neg c4] at H
     have c4b0 : decide (x5_1 < (l0.length : Int)) = false := decide_eq_false c4
     clear c4
     obtain rfl := Option.some.inj H
     go_wp2
     repeat (go_quiet (fail); try go_wp2)
     go_ret
     exact ⟨by first | rfl | (simp; done) | (simp [*]; done) | (congr 1; unfold wrap64; omega), by repeat (first | exact Drawn0.refl _ | apply Drawn0.step)⟩
 ·
  rw [if_neg c3] at H
  have c3b0 : ((l0.length : Int) == (l1.length : Int)) = false := beq_eq_false_iff_ne.mpr c3
  have c3b1 : ((l0.length : Int) != (l1.length : Int)) = true := bne_iff_ne.mpr c3
  have c3b2 : (l0.length == l1.length) = false := by first | simpa using c3 | (simp at c3 ⊢; omega)
  obtain rfl := Option.some.inj H
  go_enter Tryd.func31, Tryd.ntmps31
  go_wp2
  repeat (go_quiet (fail); try go_wp2)
  go_ret
  exact ⟨by first | rfl | (simp; done) | (simp [*]; done) | (congr 1; unfold wrap64; omega), by repeat (first | exact Drawn0.refl _ | apply Drawn0.step)⟩

-- NOT PRINTED: function 4 (tontinelaw9_ObjectPlays)

end Go.Proofs.YtiejhnijfgdapaaDoor.P
