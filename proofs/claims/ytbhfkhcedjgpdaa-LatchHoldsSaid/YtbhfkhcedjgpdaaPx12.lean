/- Printed by a program of this workplace (a turned copy of the kit's optional print), out of the translation; not trusted: Lean checks it. -/
import Derived.Test.YtbhfkhcedjgpdaaPx0
namespace Go.Proofs.Ytbhfkhcedjgpdaa.P
open Go.RowKit Go.Proofs.YtbhfkhcedjgpdaaW.PrintWords Go.Proofs.YtbhfkhcedjgpdaaW.PrintLast Go.Proofs.YtbhfkhcedjgpdaaW.PrintMore
attribute [local go_sem] max2_int min2_int max_two min_two max_three min_three max_four min_four   -- for this text's walks alone
set_option linter.unusedVariables false
set_option linter.unusedSimpArgs false

/-! ### latch_Latch_Turn: function 40 -/
def latch_Latch_Turn.l0 : Nat → Int → Int → Int → List (List Int) → List (S44) → Int → List Int → Int → List Int → Option (Int × List Int × Int × List Int)
  | 0, _, _, _, _, _, _, _, _, _ => none
  | k + 1, x2, x1000, x1001, x1002, x1003, x1004, x1005, x1006, x1007 => if x2 < (x1007.length : Int) then (if 0 ≤ x2 then (if x2 < (x1005.length : Int) then (latch_Latch_Turn.l0 k (wrap64 (x2 + 1)) x1000 x1001 x1002 x1003 x1004 (x1005.set (x2 : Int).toNat (rd x1007 x2)) x1006 x1007) else (none)) else (none)) else (some (x1004, x1005, x1006, x1007))
def latch_Latch_Turn.f (k : Nat) (a0_0 : Int) (a0_1 : Int) (l0_2 : List (List Int)) (l0_3 : List (S44)) (a0_4 : Int) (l0_5 : List Int) (a0_6 : Int) (l0_7 : List Int) : Option (Int × List Int × Int × List Int) := latch_Latch_Turn.l0 k 0 a0_0 a0_1 l0_2 l0_3 a0_6 l0_5 a0_6 l0_7
theorem latch_Latch_Turn.mono_l : ∀ k, (∀ y0 y1 y2 y3 y4 y5 y6 y7 y8, LeO (latch_Latch_Turn.l0 k y0 y1 y2 y3 y4 y5 y6 y7 y8) (latch_Latch_Turn.l0 (k + 1) y0 y1 y2 y3 y4 y5 y6 y7 y8))
  | 0 => fun _ _ _ _ _ _ _ _ _ r h => by simp [latch_Latch_Turn.l0] at h
  | k + 1 => by
    have ih0 := latch_Latch_Turn.mono_l k
    · intro y0 y1 y2 y3 y4 y5 y6 y7 y8
      unfold latch_Latch_Turn.l0
      repeat' first
      | (with_reducible exact ih0 _ _ _ _ _ _ _ _ _)
      | (with_reducible exact LeO.refl _)
      | (with_reducible exact LeO.none _)
      | (with_reducible refine LeO.ite ?_ ?_)
      | (with_reducible refine LeO.bind ?_ (fun _ => ?_))
      | exact ih0 _ _ _ _ _ _ _ _ _
      | exact LeO.none _
      | refine LeO.ite ?_ ?_
      | refine LeO.bind ?_ (fun _ => ?_)
theorem latch_Latch_Turn.mono : ∀ a0 a1 a2 a3 a4 a5 a6 a7 k, LeO (latch_Latch_Turn.f k a0 a1 a2 a3 a4 a5 a6 a7) (latch_Latch_Turn.f (k + 1) a0 a1 a2 a3 a4 a5 a6 a7) := by
 intro a0 a1 a2 a3 a4 a5 a6 a7 k
 have ih0 := latch_Latch_Turn.mono_l k
 unfold latch_Latch_Turn.f
 repeat' first
   | (with_reducible exact ih0 _ _ _ _ _ _ _ _ _)
   | (with_reducible exact LeO.refl _)
   | (with_reducible exact LeO.none _)
   | (with_reducible refine LeO.ite ?_ ?_)
   | (with_reducible refine LeO.bind ?_ (fun _ => ?_))
   | exact ih0 _ _ _ _ _ _ _ _ _
   | exact LeO.none _
   | refine LeO.ite ?_ ?_
   | refine LeO.bind ?_ (fun _ => ?_)
def latch_Latch_Turn.T3 : Bool × List (List Nat × List Nat) := (true, [([], []), ([0], [0]), ([1], [1]), ([2], [2]), ([3], [3]), ([], []), ([], []), ([6], [6]), ([7], [7]), ([8], [8]), ([9], [9]), ([], []), ([10, 11], [10, 11]), ([12], [12]), ([4, 5, 0, 1, 2, 3, 4, 5, 6, 7, 8, 9, 10, 11, 12, 13], [4, 5]), ([14, 13, 0, 1, 2, 3, 4, 5, 6, 7, 8, 9, 10, 11, 12, 13], [13, 14])])
def latch_Latch_Turn.B3 : List Nat := [0, 1, 3, 7, 15, 0, 0, 64, 192, 448, 960, 0, 4032, 8128, 16383, 32767]
theorem latch_Latch_Turn.tab3 : rtab .any (opsOf Try.f40 3) = latch_Latch_Turn.T3 := by kernel_rfl
theorem latch_Latch_Turn.bits3 : waitsOk latch_Latch_Turn.T3.2 latch_Latch_Turn.B3 = true := by kernel_rfl
set_option maxHeartbeats 8000000 in
set_option maxRecDepth 100000 in
theorem latch_Latch_Turn.calls (k : Nat) (g : Nat) (a0_0 : Int) (a0_1 : Int) (A0_2 : Option Addr) (c0_2 : Nat) (l0_2 : List (List Int)) (A0_3 : Option Addr) (c0_3 : Nat) (l0_3 : List (S44)) (a0_4 : Int) (P0_5_ : Nat → Prop) (u9000_ : Value) (l0_5 : List Int) (a0_6 : Int) (P0_7_ : Nat → Prop) (u9001_ : Value) (l0_7 : List Int) (r1 : Int) (r2 : List Int) (r3 : Int) (r4 : List Int) (w0 w : World) (hI : w.heap[g]? = some (.cells #[.int .i64 a0_0, .int .i64 a0_1, .slice A0_2 l0_2.length c0_2, .slice A0_3 l0_3.length c0_3, .int .i64 a0_4, u9000_, .int .i64 a0_6, u9001_] 86 (0, 0))) (hG : w0.heap.size ≤ g) (hB : Below w0.heap.size w0 w) (hr0_2 : ∀ W_, Kept w W_ (fun k_ => (P0_5_ k_ ∨ P0_7_ k_) ∨ k_ = g) → Kd.C (Kd.slice 3 (Kd.int .i64)) W_ A0_2 l0_2.length l0_2) (hc0_2 : l0_2.length ≤ c0_2) (hr0_3 : ∀ W_, Kept w W_ (fun k_ => (P0_5_ k_ ∨ P0_7_ k_) ∨ k_ = g) → Kd.C k44 W_ A0_3 l0_3.length l0_3) (hc0_3 : l0_3.length ≤ c0_3) (ho0_5 : Kd.R (Kd.int .i64) 3 w w0.heap.size P0_5_ u9000_ l0_5) (hp0_5_0_7 : ∀ k_, P0_5_ k_ → ¬ P0_7_ k_) (ho0_7 : Kd.R (Kd.int .i64) 3 w w0.heap.size P0_7_ u9001_ l0_7) (hp0_7_0_5 : ∀ k_, P0_7_ k_ → ¬ P0_5_ k_) (h : latch_Latch_Turn.f k a0_0 a0_1 l0_2 l0_3 a0_4 l0_5 a0_6 l0_7 = some (r1, r2, r3, r4)) :
    Calls Try.prog 40 #[.pointer (some ⟨g, 0, none⟩)] w fun e w' => ∃ v1_ v3_ : Value, e = .returned (.tuple #[]) ∧ Kd.R (Kd.int .i64) 3 w' w0.heap.size (fun k_ => ((P0_5_ k_ ∨ P0_7_ k_) ∨ w.heap.size ≤ k_) ∧ some k_ ≠ (v3_ : Value).ownBlock) v1_ r2 ∧ Kd.R (Kd.int .i64) 3 w' w0.heap.size (fun k_ => ((P0_5_ k_ ∨ P0_7_ k_) ∨ w.heap.size ≤ k_) ∧ some k_ ≠ (v1_ : Value).ownBlock) v3_ r4 ∧ w'.heap[g]? = some (.cells #[.int .i64 a0_0, .int .i64 a0_1, .slice A0_2 l0_2.length c0_2, .slice A0_3 l0_3.length c0_3, .int .i64 r1, v1_, .int .i64 r3, v3_] 86 (0, 0)) ∧ Below w0.heap.size w0 w' ∧ Kept w w' (fun k_ => (P0_5_ k_ ∨ P0_7_ k_) ∨ k_ = g) := by
 have HR0_2 := Goto.m0 hr0_2
 have HC0_2 := Goto.m0 hc0_2
 clear hr0_2 hc0_2
 have HR0_3 := Goto.m0 hr0_3
 have HC0_3 := Goto.m0 hc0_3
 clear hr0_3 hc0_3
 have HO0_5 := Goto.m0 (show Kd.R (Kd.int .i64) 3 w w0.heap.size (fun k_ => ((P0_5_ k_ ∨ P0_7_ k_) ∨ w.heap.size ≤ k_) ∧ some k_ ≠ (u9001_ : Value).ownBlock) u9000_ l0_5 from Kd.R_mono ho0_5 (fun k_ hk => ⟨(.inl (.inl hk)), fun e_ => hp0_5_0_7 k_ hk (ho0_7.1 k_ e_.symm)⟩))
 have HO0_7 := Goto.m0 (show Kd.R (Kd.int .i64) 3 w w0.heap.size (fun k_ => ((P0_5_ k_ ∨ P0_7_ k_) ∨ w.heap.size ≤ k_) ∧ some k_ ≠ (u9000_ : Value).ownBlock) u9001_ l0_7 from Kd.R_mono ho0_7 (fun k_ hk => ⟨(.inl (.inr hk)), fun e_ => hp0_7_0_5 k_ hk (ho0_5.1 k_ e_.symm)⟩))
 have BK0 := Goto.m0 hI
 have GE0 := Goto.m0 hG
 clear hI hG
 have HK := Goto.m0 (Kept.refl w (fun k_ => (P0_5_ k_ ∨ P0_7_ k_) ∨ k_ = g))
 have HW0 := Goto.m0 hB.size
 have HB := Goto.m0 hB
 clear hB
 have H : (latch_Latch_Turn.l0 k 0 a0_0 a0_1 l0_2 l0_3 a0_6 l0_5 a0_6 l0_7) = some (r1, r2, r3, r4) := h
 clear h
 have H' := Goto.m0 H
 clear H; have hcz2_0 := Goto.bc0 BK0; have hcz2_1 := Goto.bc1 BK0; have hcz2_2 := Goto.bc2 BK0; have hcz2_3 := Goto.bc3 BK0; have hcz2_4 := Goto.bc4 BK0; have hcz2_5 := Goto.bc5 BK0; have hcz2_6 := Goto.bc6 BK0; have hcz2_7 := Goto.bc7 BK0; have hfz2_0 := blk_frozen BK0.out 0; have hfz2_1 := blk_frozen BK0.out 1; have hfz2_2 := blk_frozen BK0.out 2; have hfz2_3 := blk_frozen BK0.out 3; have hfz2_4 := blk_frozen BK0.out 4; have hfz2_5 := blk_frozen BK0.out 5; have hfz2_6 := blk_frozen BK0.out 6; have hfz2_7 := blk_frozen BK0.out 7
 go_enter Try.func40, Try.ntmps40
 go_wp2_with (first | ((with_reducible refine gate_store (t := 3) (p := 11) rfl ?_); refine store_event (t := 3) (p := 11) (v := ?vo_w3) (w1 := (w.setCell ⟨g, 4, none⟩ (.int .i64 a0_6))) ?hg ?ho ?hn ?hr ?_; (case ho => rfl); (case hg => rfl); (case hn => rfl); (case hr => first | (go_simp; done) | (go_simp; rfl)); intro w3 hw; have n0_ : Aside0 (Kd.R (Kd.int .i64) 3 w3 w0.heap.size (fun k_ => ((P0_5_ k_ ∨ P0_7_ k_) ∨ w.heap.size ≤ k_) ∧ some k_ ≠ (u9001_ : Value).ownBlock) u9000_ l0_5) := ⟨(by rw [hw]; exact (by (with_reducible repeat (first | apply Kd.R_alloc | apply Kd.R_drewN | apply Kd.R_drew)); exact Kd.R_mono (Kd.R_far (p := ⟨g, 4, none⟩) (Kd.R_types HO0_5.out BK0.out (by decide)) (fun _ hk => hk.2) (.int .i64 a0_6)) (fun _ hk => ⟨hk.1.1, hk.1.2⟩)))⟩; have n1_ : Aside0 (Kd.R (Kd.int .i64) 3 w3 w0.heap.size (fun k_ => ((P0_5_ k_ ∨ P0_7_ k_) ∨ w.heap.size ≤ k_) ∧ some k_ ≠ (u9000_ : Value).ownBlock) u9001_ l0_7) := ⟨(by rw [hw]; exact (by (with_reducible repeat (first | apply Kd.R_alloc | apply Kd.R_drewN | apply Kd.R_drew)); exact Kd.R_mono (Kd.R_far (p := ⟨g, 4, none⟩) (Kd.R_types HO0_7.out BK0.out (by decide)) (fun _ hk => hk.2) (.int .i64 a0_6)) (fun _ hk => ⟨hk.1.1, hk.1.2⟩)))⟩; have n2_ : Aside0 (w3.heap[g]? = some (.cells #[.int .i64 a0_0, .int .i64 a0_1, .slice A0_2 l0_2.length c0_2, .slice A0_3 l0_3.length c0_3, .int .i64 a0_6, u9000_, .int .i64 a0_6, u9001_] 86 (0, 0))) := ⟨(by rw [hw]; exact (Goto.bx BK0))⟩; have n3_ : Aside0 (Kept w w3 (fun k_ => (P0_5_ k_ ∨ P0_7_ k_) ∨ k_ = g)) := ⟨(by rw [hw]; exact (by repeat (first | (with_reducible first | exact HK.out | apply Kept.alloc | apply Kept.drewN | apply Kept.drew | refine Kept.setCell ?_ (.inl (.inr rfl)) _) | exact HK.out)))⟩; have n4_ : Aside0 (Below w0.heap.size w0 w3) := ⟨(by rw [hw]; exact (Goto.hx HB))⟩; clear hw; clear HO0_5; clear HO0_7; clear BK0; clear HK; clear HB; have HO0_5 := n0_; have HO0_7 := n1_; have BK0 := n2_; have HK := n3_; have HB := n4_; clear n0_ n1_ n2_ n3_ n4_) | (with_reducible refine Goto.scope_enter ?_))
 rename_i K0_ hK0_
 refine Goto.label_ghost (l := 0) hK0_ (fun a0_ kq a_ w' => ∃ v2 w12_ w13_ w14_ w15_ w16_ w17_ w18_ w19_ w20_ w21_ w22_ w23_ w24_ w25_ w26_ w27_ w28_ w29_ w30_ w31_ w32_ w33_ w34_ w35_ w36_ : Value, (∃ (x2_1 : Int) (x1005_1 : List Int) (x1007_1 : List Int) (u1005 : Value) (u1007 : Value), v2 = .int .i64 x2_1 ∧ Aside0 (latch_Latch_Turn.l0 kq x2_1 a0_0 a0_1 l0_2 l0_3 a0_6 x1005_1 a0_6 x1007_1 = some (r1, r2, r3, r4)) ∧ Aside0 (kq ≤ k) ∧ Aside0 (Kd.R (Kd.int .i64) 3 w' w0.heap.size (fun k_ => ((P0_5_ k_ ∨ P0_7_ k_) ∨ w.heap.size ≤ k_) ∧ some k_ ≠ (u1007 : Value).ownBlock) u1005 x1005_1) ∧ Aside0 (Kd.R (Kd.int .i64) 3 w' w0.heap.size (fun k_ => ((P0_5_ k_ ∨ P0_7_ k_) ∨ w.heap.size ≤ k_) ∧ some k_ ≠ (u1005 : Value).ownBlock) u1007 x1007_1) ∧ Aside0 (w'.heap[g]? = some (.cells #[.int .i64 a0_0, .int .i64 a0_1, (.slice A0_2 l0_2.length c0_2), (.slice A0_3 l0_3.length c0_3), .int .i64 a0_6, u1005, .int .i64 a0_6, u1007] 86 (0, 0))) ∧ Aside0 (Kept w w' (fun k_ => (P0_5_ k_ ∨ P0_7_ k_) ∨ k_ = g)) ∧ Aside0 (Below w0.heap.size w0 w')) ∧ a_ = { tmps := #[Goto.slot a0_.tmps.toList 0, Goto.slot a0_.tmps.toList 1, v2, Goto.slot a0_.tmps.toList 3, Goto.slot a0_.tmps.toList 4, Goto.slot a0_.tmps.toList 5, Goto.slot a0_.tmps.toList 6, Goto.slot a0_.tmps.toList 7, Goto.slot a0_.tmps.toList 8, Goto.slot a0_.tmps.toList 9, Goto.slot a0_.tmps.toList 10, Goto.slot a0_.tmps.toList 11, w12_, w13_, w14_, w15_, w16_, w17_, w18_, w19_, w20_, w21_, w22_, w23_, w24_, w25_, w26_, w27_, w28_, w29_, w30_, w31_, w32_, w33_, w34_, w35_, w36_], defers := a0_.defers }) k ?hfl_ ?atStart ?round
 case hfl_ => rfl
 case atStart => ((repeat apply Exists.intro); refine ⟨?_, ?fr_⟩; (case fr_ => ((try simp only [Goto.slot_zero, Goto.slot_succ]); rfl)); exact ⟨(0), (l0_5), (l0_7), (u9000_), (u9001_), (by first | rfl | (simp; done) | (simp [*]; done)), H', ⟨Nat.le_refl _⟩, ⟨by (with_reducible repeat (first | apply Kd.R_alloc | apply Kd.R_drewN | apply Kd.R_drew)); exact HO0_5.out⟩, ⟨by (with_reducible repeat (first | apply Kd.R_alloc | apply Kd.R_drewN | apply Kd.R_drew)); exact HO0_7.out⟩, ⟨Goto.bx BK0⟩, ⟨by repeat (first | (with_reducible first | exact HK.out | apply Kept.alloc | apply Kept.drewN | apply Kept.drew | refine Kept.setCell ?_ (.inl (.inr rfl)) _) | exact HK.out)⟩, ⟨Goto.hx HB⟩⟩)
 case round =>
  clear hK0_ K0_
  clear H'
  try clear p2; try clear hcz2_0; try clear hcz2_1; try clear hcz2_2; try clear hcz2_3; try clear hcz2_4; try clear hcz2_5; try clear hcz2_6; try clear hcz2_7; try clear hfz2_0; try clear hfz2_1; try clear hfz2_2; try clear hfz2_3; try clear hfz2_4; try clear hfz2_5; try clear hfz2_6; try clear hfz2_7
  intro gk _ wr hinv_
  obtain ⟨v2, w12_, w13_, w14_, w15_, w16_, w17_, w18_, w19_, w20_, w21_, w22_, w23_, w24_, w25_, w26_, w27_, w28_, w29_, w30_, w31_, w32_, w33_, w34_, w35_, w36_, hrel, ha_⟩ := hinv_
  subst ha_
  (try simp only [Goto.slot_zero, Goto.slot_succ])
  intro _ _ _ _
  obtain ⟨x2_1, x1005_1, x1007_1, u1005, u1007, rfl, HA, HK1, HO_1005, HO_1007, BK0, HK, HB⟩ := hrel
  cases gk with
  | zero => exact absurd HA.out (by simp [latch_Latch_Turn.l0])
  | succ k1 =>
   have H := HA.out; clear HA
   simp only [latch_Latch_Turn.l0] at H
   by_cases c4 : x2_1 < (x1007_1.length : Int)
   ·
    rw [if_pos c4] at H
    have c4b0 : decide (x2_1 < (x1007_1.length : Int)) = true := decide_eq_true c4
    clear c4
    by_cases c5 : 0 ≤ x2_1
    ·
     rw [if_pos c5] at H
     have c5b0 : decide (0 ≤ x2_1) = true := decide_eq_true c5
     clear c5
     by_cases c6 : x2_1 < (x1005_1.length : Int)
     ·
      rw [if_pos c6] at H
      have c6b0 : decide (x2_1 < (x1005_1.length : Int)) = true := decide_eq_true c6
      clear c6
      obtain ⟨y217, hy217⟩ : ∃ y_ : List Int, y_ = (x1005_1.set (x2_1 : Int).toNat (rd x1007_1 x2_1)) := ⟨_, rfl⟩
      replace H : (latch_Latch_Turn.l0 k1 (wrap64 (x2_1 + 1)) a0_0 a0_1 l0_2 l0_3 a0_6 y217 a0_6 x1007_1) = some (r1, r2, r3, r4) := by first | (rw [hy217]; with_reducible exact H) | (have H2_ := (Option.bind_some _ _).symm.trans H; rw [hy217]; with_reducible exact H2_) | (have H2_ := (Option.bind_some _ _).symm.trans H; with_reducible exact H2_) | with_reducible exact H | (rw [hy217]; exact H) | exact H
      have Ny217 := Goto.m0 hy217
      clear hy217
      have H' := Goto.m0 H
      clear H; have hcz8_0 := Goto.bc0 BK0; have hcz8_1 := Goto.bc1 BK0; have hcz8_2 := Goto.bc2 BK0; have hcz8_3 := Goto.bc3 BK0; have hcz8_4 := Goto.bc4 BK0; have hcz8_5 := Goto.bc5 BK0; have hcz8_6 := Goto.bc6 BK0; have hcz8_7 := Goto.bc7 BK0; have hfz8_0 := blk_frozen BK0.out 0; have hfz8_1 := blk_frozen BK0.out 1; have hfz8_2 := blk_frozen BK0.out 2; have hfz8_3 := blk_frozen BK0.out 3; have hfz8_4 := blk_frozen BK0.out 4; have hfz8_5 := blk_frozen BK0.out 5; have hfz8_6 := blk_frozen BK0.out 6; have hfz8_7 := blk_frozen BK0.out 7
      obtain ⟨Ao9, co9, eo9⟩ := Kd.R_slice HO_1007.out
      subst eo9
      try go_wp2_with (first | (with_reducible refine Goto.scope_enter ?_))
      replace HO_1005 := Goto.m0 (Kd.R_drew HO_1005.out); replace HO_1007 := Goto.m0 (Kd.R_drew HO_1007.out); replace BK0 := Goto.m0 (blk_drew BK0.out); replace HK := Goto.m0 (Kept.drew HK.out); replace HB := Goto.m0 (below_drew1 HB.out)
      have p216 : 0 ≤ (x2_1 : Int) := of_decide_eq_true (by first | (with_reducible assumption) | assumption)
      have q216 : x2_1 < (x1007_1.length : Int) := of_decide_eq_true (by first | (with_reducible assumption) | assumption)
      obtain ⟨ad216, e216, hx216_0⟩ := Kd.at_int (Kd.R_reads' HO_1007.out).2.2 x2_1 p216 q216
      cases e216
      replace p216 := eq_true p216; replace q216 := eq_true q216
      have p7 : 0 ≤ (x2_1 : Int) := of_decide_eq_true (by first | (with_reducible assumption) | assumption)
      have q7 : (x2_1 : Int) < ((x1005_1.length : Int) : Int) := of_decide_eq_true (by first | (with_reducible assumption) | assumption)
      obtain ⟨go7, co7, eo7, gb7, gl7, cl7, HG7⟩ := Kd.R_form HO_1005.out (by omega)
      (first | cases eo7 | (injection eo7 with ea_ en_ ec_; (first | subst ea_ | (injection ea_ with ea_; subst ea_)); subst ec_; clear en_))
      have GB7 := Goto.m0 gb7
      have GG7 := Goto.m0 HG7
      clear gb7 gl7 HG7
      have HMgo7 := Goto.m0 (show ((P0_5_ go7 ∨ P0_7_ go7) ∨ w.heap.size ≤ go7) from (HO_1005.out.1 _ rfl).1)
      obtain ⟨hx7_0, hf7_0⟩ := Kd.R_celln 0 HO_1005.out (x2_1 : Int) p7 q7
      replace p7 := eq_true p7; replace q7 := eq_true q7
      have HP11 := Kd.R_putn HO_1005.out (x2_1 : Int) (rd x1007_1 x2_1)
      rw [← Ny217.out] at HP11
      have HQ11 := Goto.m0 HP11
      clear HP11
      refine start_ (n := 16) (S := fun w' => w'.cell? ⟨g, 0, none⟩ = some (.int .i64 a0_0) ∧ w'.cell? ⟨g, 1, none⟩ = some (.int .i64 a0_1) ∧ w'.cell? ⟨g, 2, none⟩ = some (.slice A0_2 l0_2.length c0_2) ∧ w'.cell? ⟨g, 3, none⟩ = some (.slice A0_3 l0_3.length c0_3) ∧ w'.cell? ⟨g, 4, none⟩ = some (.int .i64 a0_6) ∧ w'.cell? ⟨g, 5, none⟩ = some (.slice (some ⟨go7, 0, none⟩) x1005_1.length co7) ∧ w'.cell? ⟨g, 6, none⟩ = some (.int .i64 a0_6) ∧ w'.cell? ⟨g, 7, none⟩ = some (.slice (some ad216) x1007_1.length co9) ∧ w'.cell? (ad216.add (x2_1).toNat) = some (.int .i64 (rd x1007_1 x2_1))) (ds := [15]) (.replicate 16 false) (by kernel_rfl) rfl rfl ⟨(blk_cell BK0.out 0).trans rfl, (blk_cell BK0.out 1).trans rfl, (blk_cell BK0.out 2).trans rfl, (blk_cell BK0.out 3).trans rfl, (blk_cell BK0.out 4).trans rfl, (blk_cell BK0.out 5).trans rfl, (blk_cell BK0.out 6).trans rfl, (blk_cell BK0.out 7).trans rfl, hx216_0⟩ (fun hHeld => ?_); refine with_tabW latch_Latch_Turn.tab3 latch_Latch_Turn.bits3 (fun HT_ HW_ => ?_)
      generalize wr.drew = w10 at HO_1005 HO_1007 BK0 HK HB GG7 HQ11 hf7_0 hx216_0 hx7_0 hHeld ⊢
      refine pure_ (i := 0) (N := some 20) (v := ?_) (a' := ?_) (Goto.bs 16 1) rfl rfl (any_of HT_.out (by kernel_rfl)) (fun _ _ _ h => h) (Or.inl ⟨by rfl, ?_⟩) ?_ ?_
      rotate_left
      ·
       intro w'
       go_simp
       with_reducible rfl
      rotate_left
      ·
       exact Goto.ap
      refine pure_ (i := 1) (N := some 21) (v := ?_) (a' := ?_) (Goto.bs 16 3) rfl rfl (any_of HT_.out (by kernel_rfl)) (fun _ _ _ h => h) (Or.inl ⟨by rfl, ?_⟩) ?_ ?_
      rotate_left
      ·
       intro w'
       go_simp
       with_reducible rfl
      rotate_left
      ·
       exact Goto.ap
      refine pure_ (i := 2) (N := some 22) (v := ?_) (a' := ?_) (Goto.bs 16 7) rfl rfl (any_of HT_.out (by kernel_rfl)) (fun _ _ _ h => h) (Or.inl ⟨by rfl, ?_⟩) ?_ ?_
      rotate_left
      ·
       intro w'
       go_simp
       with_reducible rfl
      rotate_left
      ·
       exact Goto.ap
      refine pure_ (i := 3) (N := some 23) (v := ?_) (a' := ?_) (Goto.bs 16 15) rfl rfl (any_of HT_.out (by kernel_rfl)) (fun _ _ _ h => h) (Or.inl ⟨by rfl, ?_⟩) ?_ ?_
      rotate_left
      ·
       intro w'
       go_simp
       with_reducible rfl
      rotate_left
      ·
       exact Goto.ap
      refine pure_ (i := 5) (N := some 25) (v := ?_) (a' := ?_) (Goto.bs 16 47) rfl rfl (any_of HT_.out (by kernel_rfl)) (fun _ _ _ h => h) (Or.inl ⟨by rfl, ?_⟩) ?_ ?_
      rotate_left
      ·
       intro w'
       go_simp
       with_reducible rfl
      rotate_left
      ·
       exact Goto.ap
      refine pure_ (i := 6) (N := some 26) (v := ?_) (a' := ?_) (Goto.bs 16 111) rfl rfl (any_of HT_.out (by kernel_rfl)) (fun _ _ _ h => h) (Or.inl ⟨by rfl, ?_⟩) ?_ ?_
      rotate_left
      ·
       intro w'
       go_simp
       with_reducible rfl
      rotate_left
      ·
       exact Goto.ap
      refine pure_ (i := 7) (N := some 27) (v := ?_) (a' := ?_) (Goto.bs 16 239) rfl rfl (any_of HT_.out (by kernel_rfl)) (fun _ _ _ h => h) (Or.inl ⟨by rfl, ?_⟩) ?_ ?_
      rotate_left
      ·
       intro w'
       go_simp
       with_reducible rfl
      rotate_left
      ·
       exact Goto.ap
      refine pure_ (i := 8) (N := some 28) (v := ?_) (a' := ?_) (Goto.bs 16 495) rfl rfl (any_of HT_.out (by kernel_rfl)) (fun _ _ _ h => h) (Or.inl ⟨by rfl, ?_⟩) ?_ ?_
      rotate_left
      ·
       intro w'
       go_simp
       with_reducible rfl
      rotate_left
      ·
       exact Goto.ap
      refine pure_ (i := 9) (N := some 29) (v := ?_) (a' := ?_) (Goto.bs 16 1007) rfl rfl (any_of HT_.out (by kernel_rfl)) (fun _ _ _ h => h) (Or.inl ⟨by rfl, ?_⟩) ?_ ?_
      rotate_left
      ·
       intro w'
       go_simp
       with_reducible rfl
      rotate_left
      ·
       exact Goto.ap
      refine pure_ (i := 11) (N := some 31) (v := ?_) (a' := ?_) (Goto.bs 16 3055) rfl rfl (any_of HT_.out (by kernel_rfl)) (fun _ _ _ h => h) (Or.inl ⟨by rfl, ?_⟩) ?_ ?_
      rotate_left
      ·
       intro w'
       go_simp
       with_reducible rfl
      rotate_left
      ·
       exact Goto.ap
      refine take_ (i := 4) (N := some 24) (v := ?_) (a' := ?_) (Goto.bs 16 3071) rfl rfl (take_ofW HT_.out HW_.out (by kernel_rfl)) (fun _ _ _ h => h) (Or.inl ⟨by rfl, ?_⟩) hHeld ?_ ?_
      rotate_left
      ·
       rintro w' ⟨s0, s1, s2, s3, s4, s5, s6, s7, s8⟩
       go_simp
       with_reducible rfl
      rotate_left
      ·
       exact Goto.ap
      refine take_ (i := 10) (N := some 30) (v := ?_) (a' := ?_) (Goto.bs 16 4095) rfl rfl (take_ofW HT_.out HW_.out (by kernel_rfl)) (fun _ _ _ h => h) (Or.inl ⟨by rfl, ?_⟩) hHeld ?_ ?_
      rotate_left
      ·
       rintro w' ⟨s0, s1, s2, s3, s4, s5, s6, s7, s8⟩
       go_simp
       with_reducible rfl
      rotate_left
      ·
       exact Goto.ap
      refine pure_ (i := 12) (N := some 32) (v := ?_) (a' := ?_) (Goto.bs 16 8191) rfl rfl (any_of HT_.out (by kernel_rfl)) (fun _ _ _ h => h) (Or.inl ⟨by rfl, ?_⟩) ?_ ?_
      rotate_left
      ·
       intro w'
       go_simp
       with_reducible rfl
      rotate_left
      ·
       exact Goto.ap
      refine take_ (i := 13) (N := some 33) (v := ?_) (a' := ?_) (Goto.bs 16 16383) rfl rfl (take_ofW HT_.out HW_.out (by kernel_rfl)) (fun _ _ _ h => h) (Or.inl ⟨by rfl, ?_⟩) hHeld ?_ ?_
      rotate_left
      ·
       rintro w' ⟨s0, s1, s2, s3, s4, s5, s6, s7, s8⟩
       go_simp
       with_reducible rfl
      rotate_left
      ·
       exact Goto.ap
      refine pure_ (i := 14) (N := some 34) (v := ?_) (a' := ?_) (Goto.bs 16 32767) rfl rfl (any_of HT_.out (by kernel_rfl)) (fun _ _ _ h => h) (Or.inl ⟨by rfl, ?_⟩) ?_ ?_
      rotate_left
      ·
       intro w'
       go_simp
       with_reducible rfl
      rotate_left
      ·
       exact Goto.ap
      refine last_ (i := 15) (N := none) (Goto.bs 16 65535) rfl rfl (one_of HT_.out (by kernel_rfl)) (by decide) (fun K hK => ?_)
      refine skip_ (w1 := ?_) (by rfl) rfl ?_ ?_
      rotate_left
      ·
       go_simp
       rfl
      refine hK.out _ _ ?_
      clear hK K
      refine done_ (done_of HT_.out (by kernel_rfl)) ?_
      try go_wp2_with (first | (with_reducible refine Goto.scope_enter ?_))
      refine wp_goto ?_
      (try simp only [Exit.then, Exit.inBlock])
      refine Goto.jump_hit ?_
      go_step
      go_roundg k1
      case measure => have := HK1.out; omega
      case rel => exact ⟨(wrap64 (x2_1 + 1)), (y217), (x1007_1), (.slice (some ⟨go7, 0, none⟩) x1005_1.length co7), (.slice (some ad216) x1007_1.length co9), (by first | rfl | (simp; done) | (simp [*]; done)), H', ⟨by have := HK1.out; omega⟩, ⟨by (with_reducible repeat (first | apply Kd.R_alloc | apply Kd.R_drewN | apply Kd.R_drew)); exact HQ11.out⟩, ⟨by (with_reducible repeat (first | apply Kd.R_alloc | apply Kd.R_drewN | apply Kd.R_drew)); exact Kd.R_mono (Kd.R_far (p := ⟨go7, (x2_1 : Int).toNat, none⟩) (Kd.R_mono HO_1007.out (fun k_ hk => (⟨hk, fun e_ => hk.2 (by rw [e_]; rfl)⟩ : _ ∧ k_ ≠ go7))) (fun _ hk => hk.2) (.int .i64 (rd x1007_1 x2_1))) (fun _ hk => ⟨hk.1.1, hk.1.2⟩)⟩, ⟨by (with_reducible repeat first | refine blk_drewN ?_ _ | refine blk_drew ?_ | refine blk_alloc ?_ _); refine blk_far ?_ (by have h_ := Kd.R_ne HO_1005.out BK0.out (by decide); intro e_; exact h_ (by rw [e_]; rfl)) _; (with_reducible repeat first | refine blk_drewN ?_ _ | refine blk_drew ?_ | refine blk_alloc ?_ _); exact BK0.out⟩, ⟨by repeat (first | (with_reducible first | exact HK.out | apply Kept.alloc | apply Kept.drewN | apply Kept.drew | refine Kept.setCell ?_ (Or.imp_left Or.inl HMgo7.out) _ | refine Kept.setCell ?_ (.inl (.inr rfl)) _) | exact HK.out)⟩, ⟨by repeat (first | (with_reducible first | exact HB.out | apply below_alloc | apply pw_below_drewN | apply below_drew1 | refine below_set ?_ GB7.out | refine below_set ?_ GE0.out) | exact HB.out)⟩⟩
     ·
      rw [if_neg c6] at H
      exact absurd H (by simp)
    ·
     rw [if_neg c5] at H
     exact absurd H (by simp)
   ·
    rw [if_neg c4] at H
    have c4b0 : decide (x2_1 < (x1007_1.length : Int)) = false := decide_eq_false c4
    clear c4
    simp only [Option.some.injEq, Prod.mk.injEq] at H
    obtain ⟨rfl, rfl, rfl, rfl⟩ := H
    have hcz12_0 := Goto.bc0 BK0; have hcz12_1 := Goto.bc1 BK0; have hcz12_2 := Goto.bc2 BK0; have hcz12_3 := Goto.bc3 BK0; have hcz12_4 := Goto.bc4 BK0; have hcz12_5 := Goto.bc5 BK0; have hcz12_6 := Goto.bc6 BK0; have hcz12_7 := Goto.bc7 BK0; have hfz12_0 := blk_frozen BK0.out 0; have hfz12_1 := blk_frozen BK0.out 1; have hfz12_2 := blk_frozen BK0.out 2; have hfz12_3 := blk_frozen BK0.out 3; have hfz12_4 := blk_frozen BK0.out 4; have hfz12_5 := blk_frozen BK0.out 5; have hfz12_6 := blk_frozen BK0.out 6; have hfz12_7 := blk_frozen BK0.out 7
    obtain ⟨Ao13, co13, eo13⟩ := Kd.R_slice HO_1007.out
    subst eo13
    go_wp2_with (first | (with_reducible refine Goto.scope_enter ?_))
    (try simp only [Exit.inBlock, Exit.then])
    (try refine Goto.ret_hit ?_)
    (try refine Goto.end_hit ?_)
    first | go_end0 | ((try simp only [Exit.inBlock, Exit.then]); refine bodyPost_ret (results_none rfl _ _ _) rfl ?_)
    (try simp only [← exists_and_left])
    exact ⟨_, _, by first | rfl | (simp [errW_none, errW_some] <;> rfl) | (simp [*, errW_none, errW_some] <;> rfl), by (with_reducible repeat (first | apply Kd.R_alloc | apply Kd.R_drewN | apply Kd.R_drew)); exact HO_1005.out, by (with_reducible repeat (first | apply Kd.R_alloc | apply Kd.R_drewN | apply Kd.R_drew)); exact HO_1007.out, by (with_reducible repeat first | refine blk_drewN ?_ _ | refine blk_drew ?_ | refine blk_alloc ?_ _); exact BK0.out, by repeat (first | (with_reducible first | exact HB.out | apply below_alloc | apply pw_below_drewN | apply below_drew1 | refine below_set ?_ GE0.out) | exact HB.out), by repeat (first | (with_reducible first | exact HK.out | apply Kept.alloc | apply Kept.drewN | apply Kept.drew | refine Kept.setCell ?_ (.inl (.inr rfl)) _) | exact HK.out)⟩

end Go.Proofs.Ytbhfkhcedjgpdaa.P
