/- Printed by a program of this workplace (a turned copy of the kit's optional print), out of the translation; not trusted: Lean checks it. -/
import Derived.Test.YtiejhnijfgdapaaDoorPx0
import Derived.Test.YtiejhnijfgdapaaDoorPx6
namespace Go.Proofs.YtiejhnijfgdapaaDoor.P
open Go.RowKit Go.Proofs.YtiejhnijfgdapaaDoorW.PrintWords Go.Proofs.YtiejhnijfgdapaaDoorW.PrintLast Go.Proofs.YtiejhnijfgdapaaDoorW.PrintMore
attribute [local go_sem] max2_int min2_int max_two min_two max_three min_three max_four min_four   -- for this text's walks alone
set_option linter.unusedVariables false
set_option linter.unusedSimpArgs false

/-! ### tontineref8_Objects_Wait: function 23 -/
def tontineref8_Objects_Wait.l0 : Nat → Int → Int → Int → Int → Int → Int → Int → List Int → List Int → List Int → List Int → Option (Bool × Int × Int × Int × Int × Int × List Int × List Int × List Int × List Int)
  | 0, _, _, _, _, _, _, _, _, _, _, _ => none
  | k + 1, x1, x2, x8, x1000, x1001, x1002, x1003, x1004, x1005, x1006, x1007 => if x8 < 4 then (if 0 ≤ x8 then (if x8 = 0 then ((tontineref8_has.f k x1004 x1).bind fun t446 => (if t446 = true then (some (false, 20, x1000, x1001, x1002, x1003, x1004, x1005, x1006, x1007)) else (tontineref8_Objects_Wait.l0 k x1 x2 (wrap64 (x8 + 1)) x1000 x1001 x1002 x1003 x1004 x1005 x1006 x1007))) else (if x8 = 1 then ((tontineref8_has.f k x1005 x1).bind fun t447 => (if t447 = true then (some (false, 20, x1000, x1001, x1002, x1003, x1004, x1005, x1006, x1007)) else (tontineref8_Objects_Wait.l0 k x1 x2 (wrap64 (x8 + 1)) x1000 x1001 x1002 x1003 x1004 x1005 x1006 x1007))) else (if x8 = 2 then ((tontineref8_has.f k x1006 x1).bind fun t448 => (if t448 = true then (some (false, 20, x1000, x1001, x1002, x1003, x1004, x1005, x1006, x1007)) else (tontineref8_Objects_Wait.l0 k x1 x2 (wrap64 (x8 + 1)) x1000 x1001 x1002 x1003 x1004 x1005 x1006 x1007))) else (if x8 = 3 then ((tontineref8_has.f k x1007 x1).bind fun t449 => (if t449 = true then (some (false, 20, x1000, x1001, x1002, x1003, x1004, x1005, x1006, x1007)) else (tontineref8_Objects_Wait.l0 k x1 x2 (wrap64 (x8 + 1)) x1000 x1001 x1002 x1003 x1004 x1005 x1006 x1007))) else (none))))) else (none)) else (if 0 ≤ x2 then (if x2 < 4 then (if x2 = 0 then (if x1000 > 0 then (some (true, 0, wrap64 (x1000 - 1), x1001, x1002, x1003, x1004, x1005, x1006, x1007)) else (if ([] : List Int).length + x1004.length < 17592186044416 then ((some (([] : List Int) ++ x1004 : List Int)).bind fun y410 => ((some (([x1] : List Int) : List Int)).bind fun y413 => (if y410.length + y413.length < 17592186044416 then (some (false, 0, x1000, x1001, x1002, x1003, (y410 ++ y413), x1005, x1006, x1007)) else (none)))) else (none))) else (if x2 = 1 then (if x1001 > 0 then (some (true, 0, x1000, wrap64 (x1001 - 1), x1002, x1003, x1004, x1005, x1006, x1007)) else (if ([] : List Int).length + x1005.length < 17592186044416 then ((some (([] : List Int) ++ x1005 : List Int)).bind fun y419 => ((some (([x1] : List Int) : List Int)).bind fun y422 => (if y419.length + y422.length < 17592186044416 then (some (false, 0, x1000, x1001, x1002, x1003, x1004, (y419 ++ y422), x1006, x1007)) else (none)))) else (none))) else (if x2 = 2 then (if x1002 > 0 then (some (true, 0, x1000, x1001, wrap64 (x1002 - 1), x1003, x1004, x1005, x1006, x1007)) else (if ([] : List Int).length + x1006.length < 17592186044416 then ((some (([] : List Int) ++ x1006 : List Int)).bind fun y428 => ((some (([x1] : List Int) : List Int)).bind fun y431 => (if y428.length + y431.length < 17592186044416 then (some (false, 0, x1000, x1001, x1002, x1003, x1004, x1005, (y428 ++ y431), x1007)) else (none)))) else (none))) else (if x2 = 3 then (if x1003 > 0 then (some (true, 0, x1000, x1001, x1002, wrap64 (x1003 - 1), x1004, x1005, x1006, x1007)) else (if ([] : List Int).length + x1007.length < 17592186044416 then ((some (([] : List Int) ++ x1007 : List Int)).bind fun y437 => ((some (([x1] : List Int) : List Int)).bind fun y440 => (if y437.length + y440.length < 17592186044416 then (some (false, 0, x1000, x1001, x1002, x1003, x1004, x1005, x1006, (y437 ++ y440))) else (none)))) else (none))) else (none))))) else (none)) else (none))
def tontineref8_Objects_Wait.f (k : Nat) (a0_0 : Int) (a0_1 : Int) (a0_2 : Int) (a0_3 : Int) (l0_4 : List Int) (l0_5 : List Int) (l0_6 : List Int) (l0_7 : List Int) (a1 : Int) (a2 : Int) : Option (Bool × Int × Int × Int × Int × Int × List Int × List Int × List Int × List Int) := (tontineref8_obj.f a2).bind fun t409 => (if t409 = true then (tontineref8_Objects_Wait.l0 k a1 a2 0 a0_0 a0_1 a0_2 a0_3 l0_4 l0_5 l0_6 l0_7) else (some (false, 10, a0_0, a0_1, a0_2, a0_3, l0_4, l0_5, l0_6, l0_7)))
def tontineref8_Objects_Wait.T9 : Bool × List (List Nat × List Nat) := (true, [([], []), ([], []), ([], []), ([], []), ([2], [2]), ([4], [4]), ([5, 3], [3, 5]), ([6], [6]), ([7], [7]), ([0], [0]), ([9], [9]), ([10, 1, 0, 1, 2, 3, 4, 5, 6, 7, 8], [1, 10]), ([11, 8, 0, 1, 2, 3, 4, 5, 6, 7, 8], [8, 11])])
def tontineref8_Objects_Wait.B9 : List Nat := [0, 0, 0, 0, 4, 20, 60, 124, 252, 1, 513, 2047, 4095]
theorem tontineref8_Objects_Wait.tab9 : rtab .any (opsOf Tryd.f23 9) = tontineref8_Objects_Wait.T9 := by kernel_rfl
theorem tontineref8_Objects_Wait.bits9 : waitsOk tontineref8_Objects_Wait.T9.2 tontineref8_Objects_Wait.B9 = true := by kernel_rfl
def tontineref8_Objects_Wait.T11 : Bool × List (List Nat × List Nat) := (true, [([], []), ([], []), ([], []), ([], []), ([2], [2]), ([4], [4]), ([5, 3], [3, 5]), ([6], [6]), ([7], [7]), ([], []), ([9], [9]), ([8, 10, 8], [8, 10]), ([0], [0]), ([12], [12]), ([13, 1, 0, 1, 2, 3, 4, 5, 6, 7, 8, 9, 10, 11], [1, 13]), ([14, 11, 11, 0, 1, 2, 3, 4, 5, 6, 7, 8, 9, 10, 11], [11, 14])])
def tontineref8_Objects_Wait.B11 : List Nat := [0, 0, 0, 0, 4, 20, 60, 124, 252, 0, 512, 2044, 1, 4097, 16383, 32767]
theorem tontineref8_Objects_Wait.tab11 : rtab .any (opsOf Tryd.f23 11) = tontineref8_Objects_Wait.T11 := by kernel_rfl
theorem tontineref8_Objects_Wait.bits11 : waitsOk tontineref8_Objects_Wait.T11.2 tontineref8_Objects_Wait.B11 = true := by kernel_rfl
set_option maxHeartbeats 8000000 in
set_option maxRecDepth 100000 in
theorem tontineref8_Objects_Wait.calls (k : Nat) (g : Nat) (a0_0 : Int) (a0_1 : Int) (a0_2 : Int) (a0_3 : Int) (P0_4_ : Nat → Prop) (u9000_ : Value) (l0_4 : List Int) (P0_5_ : Nat → Prop) (u9001_ : Value) (l0_5 : List Int) (P0_6_ : Nat → Prop) (u9002_ : Value) (l0_6 : List Int) (P0_7_ : Nat → Prop) (u9003_ : Value) (l0_7 : List Int) (a1 : Int) (a2 : Int) (r1 : Bool) (r2 : Int) (r3 : Int) (r4 : Int) (r5 : Int) (r6 : Int) (r7 : List Int) (r8 : List Int) (r9 : List Int) (r10 : List Int) (w0 w : World) (hI : w.heap[g]? = some (.cells #[.int .i64 a0_0, .int .i64 a0_1, .int .i64 a0_2, .int .i64 a0_3, u9000_, u9001_, u9002_, u9003_] 55 (0, 0))) (hG : w0.heap.size ≤ g) (hB : Below w0.heap.size w0 w) (ho0_4 : Kd.Q (Kd.int .i64) 3 w w0.heap.size P0_4_ u9000_ l0_4) (hp0_4_0_5 : ∀ k_, P0_4_ k_ → ¬ P0_5_ k_) (hp0_4_0_6 : ∀ k_, P0_4_ k_ → ¬ P0_6_ k_) (hp0_4_0_7 : ∀ k_, P0_4_ k_ → ¬ P0_7_ k_) (ho0_5 : Kd.Q (Kd.int .i64) 3 w w0.heap.size P0_5_ u9001_ l0_5) (hp0_5_0_4 : ∀ k_, P0_5_ k_ → ¬ P0_4_ k_) (hp0_5_0_6 : ∀ k_, P0_5_ k_ → ¬ P0_6_ k_) (hp0_5_0_7 : ∀ k_, P0_5_ k_ → ¬ P0_7_ k_) (ho0_6 : Kd.Q (Kd.int .i64) 3 w w0.heap.size P0_6_ u9002_ l0_6) (hp0_6_0_4 : ∀ k_, P0_6_ k_ → ¬ P0_4_ k_) (hp0_6_0_5 : ∀ k_, P0_6_ k_ → ¬ P0_5_ k_) (hp0_6_0_7 : ∀ k_, P0_6_ k_ → ¬ P0_7_ k_) (ho0_7 : Kd.Q (Kd.int .i64) 3 w w0.heap.size P0_7_ u9003_ l0_7) (hp0_7_0_4 : ∀ k_, P0_7_ k_ → ¬ P0_4_ k_) (hp0_7_0_5 : ∀ k_, P0_7_ k_ → ¬ P0_5_ k_) (hp0_7_0_6 : ∀ k_, P0_7_ k_ → ¬ P0_6_ k_) (h : tontineref8_Objects_Wait.f k a0_0 a0_1 a0_2 a0_3 l0_4 l0_5 l0_6 l0_7 a1 a2 = some (r1, r2, r3, r4, r5, r6, r7, r8, r9, r10)) :
    Calls Tryd.prog 23 #[.pointer (some ⟨g, 0, none⟩), .int .i64 a1, .int .i64 a2] w fun e w' => ∃ v6_ v7_ v8_ v9_ : Value, e = .returned (.tuple #[.bool r1, .int .i64 r2]) ∧ Kd.Q (Kd.int .i64) 3 w' w0.heap.size (fun k_ => ((P0_4_ k_ ∨ P0_5_ k_ ∨ P0_6_ k_ ∨ P0_7_ k_) ∨ w.heap.size ≤ k_) ∧ some k_ ≠ (v7_ : Value).ownBlock ∧ some k_ ≠ (v8_ : Value).ownBlock ∧ some k_ ≠ (v9_ : Value).ownBlock) v6_ r7 ∧ Kd.Q (Kd.int .i64) 3 w' w0.heap.size (fun k_ => ((P0_4_ k_ ∨ P0_5_ k_ ∨ P0_6_ k_ ∨ P0_7_ k_) ∨ w.heap.size ≤ k_) ∧ some k_ ≠ (v6_ : Value).ownBlock ∧ some k_ ≠ (v8_ : Value).ownBlock ∧ some k_ ≠ (v9_ : Value).ownBlock) v7_ r8 ∧ Kd.Q (Kd.int .i64) 3 w' w0.heap.size (fun k_ => ((P0_4_ k_ ∨ P0_5_ k_ ∨ P0_6_ k_ ∨ P0_7_ k_) ∨ w.heap.size ≤ k_) ∧ some k_ ≠ (v6_ : Value).ownBlock ∧ some k_ ≠ (v7_ : Value).ownBlock ∧ some k_ ≠ (v9_ : Value).ownBlock) v8_ r9 ∧ Kd.Q (Kd.int .i64) 3 w' w0.heap.size (fun k_ => ((P0_4_ k_ ∨ P0_5_ k_ ∨ P0_6_ k_ ∨ P0_7_ k_) ∨ w.heap.size ≤ k_) ∧ some k_ ≠ (v6_ : Value).ownBlock ∧ some k_ ≠ (v7_ : Value).ownBlock ∧ some k_ ≠ (v8_ : Value).ownBlock) v9_ r10 ∧ w'.heap[g]? = some (.cells #[.int .i64 r3, .int .i64 r4, .int .i64 r5, .int .i64 r6, v6_, v7_, v8_, v9_] 55 (0, 0)) ∧ Below w0.heap.size w0 w' ∧ Kept w w' (fun k_ => (P0_4_ k_ ∨ P0_5_ k_ ∨ P0_6_ k_ ∨ P0_7_ k_) ∨ k_ = g) := by
 have HO0_4 := Goto.m0 (show Kd.Q (Kd.int .i64) 3 w w0.heap.size (fun k_ => ((P0_4_ k_ ∨ P0_5_ k_ ∨ P0_6_ k_ ∨ P0_7_ k_) ∨ w.heap.size ≤ k_) ∧ some k_ ≠ (u9001_ : Value).ownBlock ∧ some k_ ≠ (u9002_ : Value).ownBlock ∧ some k_ ≠ (u9003_ : Value).ownBlock) u9000_ l0_4 from Kd.Q_mono ho0_4 (fun k_ hk => ⟨(.inl (.inl hk)), fun e_ => hp0_4_0_5 k_ hk (ho0_5.1 k_ e_.symm), fun e_ => hp0_4_0_6 k_ hk (ho0_6.1 k_ e_.symm), fun e_ => hp0_4_0_7 k_ hk (ho0_7.1 k_ e_.symm)⟩))
 have HO0_5 := Goto.m0 (show Kd.Q (Kd.int .i64) 3 w w0.heap.size (fun k_ => ((P0_4_ k_ ∨ P0_5_ k_ ∨ P0_6_ k_ ∨ P0_7_ k_) ∨ w.heap.size ≤ k_) ∧ some k_ ≠ (u9000_ : Value).ownBlock ∧ some k_ ≠ (u9002_ : Value).ownBlock ∧ some k_ ≠ (u9003_ : Value).ownBlock) u9001_ l0_5 from Kd.Q_mono ho0_5 (fun k_ hk => ⟨(.inl (.inr (.inl hk))), fun e_ => hp0_5_0_4 k_ hk (ho0_4.1 k_ e_.symm), fun e_ => hp0_5_0_6 k_ hk (ho0_6.1 k_ e_.symm), fun e_ => hp0_5_0_7 k_ hk (ho0_7.1 k_ e_.symm)⟩))
 have HO0_6 := Goto.m0 (show Kd.Q (Kd.int .i64) 3 w w0.heap.size (fun k_ => ((P0_4_ k_ ∨ P0_5_ k_ ∨ P0_6_ k_ ∨ P0_7_ k_) ∨ w.heap.size ≤ k_) ∧ some k_ ≠ (u9000_ : Value).ownBlock ∧ some k_ ≠ (u9001_ : Value).ownBlock ∧ some k_ ≠ (u9003_ : Value).ownBlock) u9002_ l0_6 from Kd.Q_mono ho0_6 (fun k_ hk => ⟨(.inl (.inr (.inr (.inl hk)))), fun e_ => hp0_6_0_4 k_ hk (ho0_4.1 k_ e_.symm), fun e_ => hp0_6_0_5 k_ hk (ho0_5.1 k_ e_.symm), fun e_ => hp0_6_0_7 k_ hk (ho0_7.1 k_ e_.symm)⟩))
 have HO0_7 := Goto.m0 (show Kd.Q (Kd.int .i64) 3 w w0.heap.size (fun k_ => ((P0_4_ k_ ∨ P0_5_ k_ ∨ P0_6_ k_ ∨ P0_7_ k_) ∨ w.heap.size ≤ k_) ∧ some k_ ≠ (u9000_ : Value).ownBlock ∧ some k_ ≠ (u9001_ : Value).ownBlock ∧ some k_ ≠ (u9002_ : Value).ownBlock) u9003_ l0_7 from Kd.Q_mono ho0_7 (fun k_ hk => ⟨(.inl (.inr (.inr (.inr hk)))), fun e_ => hp0_7_0_4 k_ hk (ho0_4.1 k_ e_.symm), fun e_ => hp0_7_0_5 k_ hk (ho0_5.1 k_ e_.symm), fun e_ => hp0_7_0_6 k_ hk (ho0_6.1 k_ e_.symm)⟩))
 have BK0 := Goto.m0 hI
 have GE0 := Goto.m0 hG
 clear hI hG
 have HK := Goto.m0 (Kept.refl w (fun k_ => (P0_4_ k_ ∨ P0_5_ k_ ∨ P0_6_ k_ ∨ P0_7_ k_) ∨ k_ = g))
 have HW0 := Goto.m0 hB.size
 have HB := Goto.m0 hB
 clear hB
 have H : ((tontineref8_obj.f a2).bind fun t409 => (if t409 = true then (tontineref8_Objects_Wait.l0 k a1 a2 0 a0_0 a0_1 a0_2 a0_3 l0_4 l0_5 l0_6 l0_7) else (some (false, 10, a0_0, a0_1, a0_2, a0_3, l0_4, l0_5, l0_6, l0_7)))) = some (r1, r2, r3, r4, r5, r6, r7, r8, r9, r10) := h
 clear h
 replace H := Option.bind_eq_some_iff.mp H
 obtain ⟨t409, A40, H⟩ := H
 have A4 := Goto.m0 A40
 clear A40
 by_cases c5 : t409 = true
 ·
  subst c5
  rw [if_pos rfl] at H
  have H' := Goto.m0 H
  clear H
  go_enter Tryd.func23, Tryd.ntmps23
  go_wp2_with (first | ((with_reducible refine gate_callee (f := 38) rfl ?_); refine goesL_ (some 10) rfl rfl Tryd.func38 (by kernel_rfl) rfl #[.int .i64 a2] rfl (by (try simp only [List.map_toArray, List.map_cons, List.map_nil]); first | done | rfl | (simp only [List.length_drop, List.length_take]; rfl)) ?_; (with_reducible refine (tontineref8_obj.calls a2 true _ A4.out).mono ?_); rintro e w' ⟨rfl, ⟨nd, rfl⟩⟩; refine ⟨_, rfl, ?_⟩))
  go_loopg [8] k (fun kq v8 w' => ∃ (x8_1 : Int), v8 = .int .i64 x8_1 ∧ Aside0 (tontineref8_Objects_Wait.l0 kq a1 a2 x8_1 a0_0 a0_1 a0_2 a0_3 l0_4 l0_5 l0_6 l0_7 = some (r1, r2, r3, r4, r5, r6, r7, r8, r9, r10)) ∧ Aside0 (kq ≤ k) ∧ Aside0 (Kd.Q (Kd.int .i64) 3 w' w0.heap.size (fun k_ => ((P0_4_ k_ ∨ P0_5_ k_ ∨ P0_6_ k_ ∨ P0_7_ k_) ∨ w.heap.size ≤ k_) ∧ some k_ ≠ (u9001_ : Value).ownBlock ∧ some k_ ≠ (u9002_ : Value).ownBlock ∧ some k_ ≠ (u9003_ : Value).ownBlock) u9000_ l0_4) ∧ Aside0 (Kd.Q (Kd.int .i64) 3 w' w0.heap.size (fun k_ => ((P0_4_ k_ ∨ P0_5_ k_ ∨ P0_6_ k_ ∨ P0_7_ k_) ∨ w.heap.size ≤ k_) ∧ some k_ ≠ (u9000_ : Value).ownBlock ∧ some k_ ≠ (u9002_ : Value).ownBlock ∧ some k_ ≠ (u9003_ : Value).ownBlock) u9001_ l0_5) ∧ Aside0 (Kd.Q (Kd.int .i64) 3 w' w0.heap.size (fun k_ => ((P0_4_ k_ ∨ P0_5_ k_ ∨ P0_6_ k_ ∨ P0_7_ k_) ∨ w.heap.size ≤ k_) ∧ some k_ ≠ (u9000_ : Value).ownBlock ∧ some k_ ≠ (u9001_ : Value).ownBlock ∧ some k_ ≠ (u9003_ : Value).ownBlock) u9002_ l0_6) ∧ Aside0 (Kd.Q (Kd.int .i64) 3 w' w0.heap.size (fun k_ => ((P0_4_ k_ ∨ P0_5_ k_ ∨ P0_6_ k_ ∨ P0_7_ k_) ∨ w.heap.size ≤ k_) ∧ some k_ ≠ (u9000_ : Value).ownBlock ∧ some k_ ≠ (u9001_ : Value).ownBlock ∧ some k_ ≠ (u9002_ : Value).ownBlock) u9003_ l0_7) ∧ Aside0 (w'.heap[g]? = some (.cells #[.int .i64 a0_0, .int .i64 a0_1, .int .i64 a0_2, .int .i64 a0_3, u9000_, u9001_, u9002_, u9003_] 55 (0, 0))) ∧ Aside0 (Kept w w' (fun k_ => (P0_4_ k_ ∨ P0_5_ k_ ∨ P0_6_ k_ ∨ P0_7_ k_) ∨ k_ = g)) ∧ Aside0 (Below w0.heap.size w0 w'))
  case atStart => exact ⟨(0), (by first | rfl | (simp; done) | (simp [*]; done) | (congr 1; unfold wrap64; omega)), H', ⟨Nat.le_refl _⟩, ⟨by (with_reducible repeat (first | apply Kd.Q_alloc | apply Kd.Q_drewN | apply Kd.Q_drew)); exact HO0_4.out⟩, ⟨by (with_reducible repeat (first | apply Kd.Q_alloc | apply Kd.Q_drewN | apply Kd.Q_drew)); exact HO0_5.out⟩, ⟨by (with_reducible repeat (first | apply Kd.Q_alloc | apply Kd.Q_drewN | apply Kd.Q_drew)); exact HO0_6.out⟩, ⟨by (with_reducible repeat (first | apply Kd.Q_alloc | apply Kd.Q_drewN | apply Kd.Q_drew)); exact HO0_7.out⟩, ⟨Goto.bx BK0⟩, ⟨by repeat (first | (with_reducible first | exact HK.out | apply Kept.alloc | apply Kept.drewN | apply Kept.drew | refine Kept.setCell ?_ (.inl (.inr rfl)) _) | exact HK.out)⟩, ⟨Goto.hx HB⟩⟩
  case round =>
   clear H'
   try clear c2; try clear p2; try clear c3; try clear c5
   obtain ⟨x8_1, rfl, HA, HK1, HO_1004, HO_1005, HO_1006, HO_1007, BK0, HK, HB⟩ := hrel
   cases gk with
   | zero => exact absurd HA.out (by simp [tontineref8_Objects_Wait.l0])
   | succ k1 =>
    have H := HA.out; clear HA
    simp only [tontineref8_Objects_Wait.l0] at H
    by_cases c6 : x8_1 < 4
    ·
     rw [if_pos c6] at H
     have c6b0 : decide (x8_1 < 4) = true := decide_eq_true c6
     clear c6
     by_cases c7 : 0 ≤ x8_1
     ·
      rw [if_pos c7] at H
      have c7b0 : decide (0 ≤ x8_1) = true := decide_eq_true c7
      clear c7
      by_cases c8 : x8_1 = 0
      ·
       rw [if_pos c8] at H
       have c8b0 : (x8_1 == 0) = true := beq_iff_eq.mpr c8
       have c8b1 : (x8_1 != 0) = false := bne_eq_false_iff_eq.mpr c8
       clear c8
       have hix9e : x8_1 = 0 := eq_of_beq (by first | (with_reducible assumption) | assumption)
       have hix9 : (x8_1).toNat = 0 := by rw [hix9e]; rfl
       have hix9c : (0 ≤ x8_1 ∧ x8_1 < (4 : Int)) = True := eq_true (by rw [hix9e]; decide)
       clear hix9e
       replace H := Option.bind_eq_some_iff.mp H
       obtain ⟨t446, A100, H⟩ := H
       have A10 := Goto.m0 A100
       clear A100
       by_cases c11 : t446 = true
       ·
        subst c11
        rw [if_pos rfl] at H
        simp only [Option.some.injEq, Prod.mk.injEq] at H
        obtain ⟨rfl, rfl, rfl, rfl, rfl, rfl, rfl, rfl, rfl, rfl⟩ := H
        have hcz12_0 := Goto.bc0 BK0; have hcz12_1 := Goto.bc1 BK0; have hcz12_2 := Goto.bc2 BK0; have hcz12_3 := Goto.bc3 BK0; have hcz12_4 := Goto.bc4 BK0; have hcz12_5 := Goto.bc5 BK0; have hcz12_6 := Goto.bc6 BK0; have hcz12_7 := Goto.bc7 BK0; have hfz12_0 := Goto.bf BK0 0; have hfz12_1 := Goto.bf BK0 1; have hfz12_2 := Goto.bf BK0 2; have hfz12_3 := Goto.bf BK0 3; have hfz12_4 := Goto.bf BK0 4; have hfz12_5 := Goto.bf BK0 5; have hfz12_6 := Goto.bf BK0 6; have hfz12_7 := Goto.bf BK0 7
        obtain ⟨Ao13, co13, eo13, _⟩ := Kd.Q_slice HO_1004.out
        subst eo13
        go_wp2_with (first | ((with_reducible refine gate_callee (f := 39) rfl ?_); refine goesL_ (some 23) rfl rfl Tryd.func39 (by kernel_rfl) rfl #[.slice Ao13 l0_4.length co13, .int .i64 a1] rfl (by (try simp only [List.map_toArray, List.map_cons, List.map_nil]); first | done | rfl | (simp only [List.length_drop, List.length_take]; rfl)) ?_; (with_reducible refine (tontineref8_has.calls k1 _ _ l0_4 a1 true _ ?side1 ?side2 A10.out).mono ?_); (case side1 => repeat (first | exact (Kd.Q_reads' HO_1004.out).2.2 | (with_reducible refine Kd.C_alloc ?_ _) | (with_reducible refine Kd.C_drewN ?_ _) | (with_reducible refine Kd.C_drew ?_))); (case side2 => exact (Kd.Q_reads' HO_1004.out).2.1); rintro e w' ⟨rfl, ⟨nd, rfl⟩⟩; refine ⟨_, rfl, ?_⟩))
        go_ret2
        (try simp only [← exists_and_left])
        exact ⟨_, _, _, _, Goto.er, by (with_reducible repeat (first | apply Kd.Q_alloc | apply Kd.Q_drewN | apply Kd.Q_drew)); exact HO_1004.out, by (with_reducible repeat (first | apply Kd.Q_alloc | apply Kd.Q_drewN | apply Kd.Q_drew)); exact HO_1005.out, by (with_reducible repeat (first | apply Kd.Q_alloc | apply Kd.Q_drewN | apply Kd.Q_drew)); exact HO_1006.out, by (with_reducible repeat (first | apply Kd.Q_alloc | apply Kd.Q_drewN | apply Kd.Q_drew)); exact HO_1007.out, by (with_reducible repeat first | refine blk_drewN ?_ _ | refine blk_drew ?_ | refine blk_alloc ?_ _); exact BK0.out, by repeat (first | (with_reducible first | exact HB.out | apply below_alloc | apply pw_below_drewN | apply below_drew1 | refine below_set ?_ GE0.out) | exact HB.out), by repeat (first | (with_reducible first | exact HK.out | apply Kept.alloc | apply Kept.drewN | apply Kept.drew | refine Kept.setCell ?_ (.inl (.inr rfl)) _) | exact HK.out)⟩
       ·
        replace c11 := Bool.eq_false_iff.mpr c11
        subst c11
        rw [if_neg (show ¬ (false = true) by decide)] at H
        have H' := Goto.m0 H
        clear H; have hcz14_0 := Goto.bc0 BK0; have hcz14_1 := Goto.bc1 BK0; have hcz14_2 := Goto.bc2 BK0; have hcz14_3 := Goto.bc3 BK0; have hcz14_4 := Goto.bc4 BK0; have hcz14_5 := Goto.bc5 BK0; have hcz14_6 := Goto.bc6 BK0; have hcz14_7 := Goto.bc7 BK0; have hfz14_0 := Goto.bf BK0 0; have hfz14_1 := Goto.bf BK0 1; have hfz14_2 := Goto.bf BK0 2; have hfz14_3 := Goto.bf BK0 3; have hfz14_4 := Goto.bf BK0 4; have hfz14_5 := Goto.bf BK0 5; have hfz14_6 := Goto.bf BK0 6; have hfz14_7 := Goto.bf BK0 7
        obtain ⟨Ao15, co15, eo15, _⟩ := Kd.Q_slice HO_1004.out
        subst eo15
        go_wp2_with (first | ((with_reducible refine gate_callee (f := 39) rfl ?_); refine goesL_ (some 23) rfl rfl Tryd.func39 (by kernel_rfl) rfl #[.slice Ao15 l0_4.length co15, .int .i64 a1] rfl (by (try simp only [List.map_toArray, List.map_cons, List.map_nil]); first | done | rfl | (simp only [List.length_drop, List.length_take]; rfl)) ?_; (with_reducible refine (tontineref8_has.calls k1 _ _ l0_4 a1 false _ ?side1 ?side2 A10.out).mono ?_); (case side1 => repeat (first | exact (Kd.Q_reads' HO_1004.out).2.2 | (with_reducible refine Kd.C_alloc ?_ _) | (with_reducible refine Kd.C_drewN ?_ _) | (with_reducible refine Kd.C_drew ?_))); (case side2 => exact (Kd.Q_reads' HO_1004.out).2.1); rintro e w' ⟨rfl, ⟨nd, rfl⟩⟩; refine ⟨_, rfl, ?_⟩))
        go_roundg k1
        case measure => have := HK1.out; omega
        case rel => exact ⟨(wrap64 (x8_1 + 1)), (by first | rfl | (simp; done) | (simp [*]; done) | (congr 1; unfold wrap64; omega)), H', ⟨by have := HK1.out; omega⟩, ⟨by (with_reducible repeat (first | apply Kd.Q_alloc | apply Kd.Q_drewN | apply Kd.Q_drew)); exact HO_1004.out⟩, ⟨by (with_reducible repeat (first | apply Kd.Q_alloc | apply Kd.Q_drewN | apply Kd.Q_drew)); exact HO_1005.out⟩, ⟨by (with_reducible repeat (first | apply Kd.Q_alloc | apply Kd.Q_drewN | apply Kd.Q_drew)); exact HO_1006.out⟩, ⟨by (with_reducible repeat (first | apply Kd.Q_alloc | apply Kd.Q_drewN | apply Kd.Q_drew)); exact HO_1007.out⟩, ⟨Goto.bx BK0⟩, ⟨by repeat (first | (with_reducible first | exact HK.out | apply Kept.alloc | apply Kept.drewN | apply Kept.drew | refine Kept.setCell ?_ (.inl (.inr rfl)) _) | exact HK.out)⟩, ⟨Goto.hx HB⟩⟩
      ·
       rw [if_neg c8] at H
       have c8b0 : (x8_1 == 0) = false := beq_eq_false_iff_ne.mpr c8
       have c8b1 : (x8_1 != 0) = true := bne_iff_ne.mpr c8
       by_cases c16 : x8_1 = 1
       ·
        rw [if_pos c16] at H
        have c16b0 : (x8_1 == 1) = true := beq_iff_eq.mpr c16
        have c16b1 : (x8_1 != 1) = false := bne_eq_false_iff_eq.mpr c16
        clear c16
        have hix17e : x8_1 = 1 := eq_of_beq (by first | (with_reducible assumption) | assumption)
        have hix17 : (x8_1).toNat = 1 := by rw [hix17e]; rfl
        have hix17c : (0 ≤ x8_1 ∧ x8_1 < (4 : Int)) = True := eq_true (by rw [hix17e]; decide)
        clear hix17e
        replace H := Option.bind_eq_some_iff.mp H
        obtain ⟨t447, A180, H⟩ := H
        have A18 := Goto.m0 A180
        clear A180
        by_cases c19 : t447 = true
        ·
         subst c19
         rw [if_pos rfl] at H
         simp only [Option.some.injEq, Prod.mk.injEq] at H
         obtain ⟨rfl, rfl, rfl, rfl, rfl, rfl, rfl, rfl, rfl, rfl⟩ := H
         have hcz20_0 := Goto.bc0 BK0; have hcz20_1 := Goto.bc1 BK0; have hcz20_2 := Goto.bc2 BK0; have hcz20_3 := Goto.bc3 BK0; have hcz20_4 := Goto.bc4 BK0; have hcz20_5 := Goto.bc5 BK0; have hcz20_6 := Goto.bc6 BK0; have hcz20_7 := Goto.bc7 BK0; have hfz20_0 := Goto.bf BK0 0; have hfz20_1 := Goto.bf BK0 1; have hfz20_2 := Goto.bf BK0 2; have hfz20_3 := Goto.bf BK0 3; have hfz20_4 := Goto.bf BK0 4; have hfz20_5 := Goto.bf BK0 5; have hfz20_6 := Goto.bf BK0 6; have hfz20_7 := Goto.bf BK0 7
         obtain ⟨Ao21, co21, eo21, _⟩ := Kd.Q_slice HO_1005.out
         subst eo21
         go_wp2_with (first | ((with_reducible refine gate_callee (f := 39) rfl ?_); refine goesL_ (some 23) rfl rfl Tryd.func39 (by kernel_rfl) rfl #[.slice Ao21 l0_5.length co21, .int .i64 a1] rfl (by (try simp only [List.map_toArray, List.map_cons, List.map_nil]); first | done | rfl | (simp only [List.length_drop, List.length_take]; rfl)) ?_; (with_reducible refine (tontineref8_has.calls k1 _ _ l0_5 a1 true _ ?side1 ?side2 A18.out).mono ?_); (case side1 => repeat (first | exact (Kd.Q_reads' HO_1005.out).2.2 | (with_reducible refine Kd.C_alloc ?_ _) | (with_reducible refine Kd.C_drewN ?_ _) | (with_reducible refine Kd.C_drew ?_))); (case side2 => exact (Kd.Q_reads' HO_1005.out).2.1); rintro e w' ⟨rfl, ⟨nd, rfl⟩⟩; refine ⟨_, rfl, ?_⟩))
         go_ret2
         (try simp only [← exists_and_left])
         exact ⟨_, _, _, _, Goto.er, by (with_reducible repeat (first | apply Kd.Q_alloc | apply Kd.Q_drewN | apply Kd.Q_drew)); exact HO_1004.out, by (with_reducible repeat (first | apply Kd.Q_alloc | apply Kd.Q_drewN | apply Kd.Q_drew)); exact HO_1005.out, by (with_reducible repeat (first | apply Kd.Q_alloc | apply Kd.Q_drewN | apply Kd.Q_drew)); exact HO_1006.out, by (with_reducible repeat (first | apply Kd.Q_alloc | apply Kd.Q_drewN | apply Kd.Q_drew)); exact HO_1007.out, by (with_reducible repeat first | refine blk_drewN ?_ _ | refine blk_drew ?_ | refine blk_alloc ?_ _); exact BK0.out, by repeat (first | (with_reducible first | exact HB.out | apply below_alloc | apply pw_below_drewN | apply below_drew1 | refine below_set ?_ GE0.out) | exact HB.out), by repeat (first | (with_reducible first | exact HK.out | apply Kept.alloc | apply Kept.drewN | apply Kept.drew | refine Kept.setCell ?_ (.inl (.inr rfl)) _) | exact HK.out)⟩
        ·
         replace c19 := Bool.eq_false_iff.mpr c19
         subst c19
         rw [if_neg (show ¬ (false = true) by decide)] at H
         have H' := Goto.m0 H
         clear H; have hcz22_0 := Goto.bc0 BK0; have hcz22_1 := Goto.bc1 BK0; have hcz22_2 := Goto.bc2 BK0; have hcz22_3 := Goto.bc3 BK0; have hcz22_4 := Goto.bc4 BK0; have hcz22_5 := Goto.bc5 BK0; have hcz22_6 := Goto.bc6 BK0; have hcz22_7 := Goto.bc7 BK0; have hfz22_0 := Goto.bf BK0 0; have hfz22_1 := Goto.bf BK0 1; have hfz22_2 := Goto.bf BK0 2; have hfz22_3 := Goto.bf BK0 3; have hfz22_4 := Goto.bf BK0 4; have hfz22_5 := Goto.bf BK0 5; have hfz22_6 := Goto.bf BK0 6; have hfz22_7 := Goto.bf BK0 7
         obtain ⟨Ao23, co23, eo23, _⟩ := Kd.Q_slice HO_1005.out
         subst eo23
         go_wp2_with (first | ((with_reducible refine gate_callee (f := 39) rfl ?_); refine goesL_ (some 23) rfl rfl Tryd.func39 (by kernel_rfl) rfl #[.slice Ao23 l0_5.length co23, .int .i64 a1] rfl (by (try simp only [List.map_toArray, List.map_cons, List.map_nil]); first | done | rfl | (simp only [List.length_drop, List.length_take]; rfl)) ?_; (with_reducible refine (tontineref8_has.calls k1 _ _ l0_5 a1 false _ ?side1 ?side2 A18.out).mono ?_); (case side1 => repeat (first | exact (Kd.Q_reads' HO_1005.out).2.2 | (with_reducible refine Kd.C_alloc ?_ _) | (with_reducible refine Kd.C_drewN ?_ _) | (with_reducible refine Kd.C_drew ?_))); (case side2 => exact (Kd.Q_reads' HO_1005.out).2.1); rintro e w' ⟨rfl, ⟨nd, rfl⟩⟩; refine ⟨_, rfl, ?_⟩))
         go_roundg k1
         case measure => have := HK1.out; omega
         case rel => exact ⟨(wrap64 (x8_1 + 1)), (by first | rfl | (simp; done) | (simp [*]; done) | (congr 1; unfold wrap64; omega)), H', ⟨by have := HK1.out; omega⟩, ⟨by (with_reducible repeat (first | apply Kd.Q_alloc | apply Kd.Q_drewN | apply Kd.Q_drew)); exact HO_1004.out⟩, ⟨by (with_reducible repeat (first | apply Kd.Q_alloc | apply Kd.Q_drewN | apply Kd.Q_drew)); exact HO_1005.out⟩, ⟨by (with_reducible repeat (first | apply Kd.Q_alloc | apply Kd.Q_drewN | apply Kd.Q_drew)); exact HO_1006.out⟩, ⟨by (with_reducible repeat (first | apply Kd.Q_alloc | apply Kd.Q_drewN | apply Kd.Q_drew)); exact HO_1007.out⟩, ⟨Goto.bx BK0⟩, ⟨by repeat (first | (with_reducible first | exact HK.out | apply Kept.alloc | apply Kept.drewN | apply Kept.drew | refine Kept.setCell ?_ (.inl (.inr rfl)) _) | exact HK.out)⟩, ⟨Goto.hx HB⟩⟩
       ·
        rw [if_neg c16] at H
        have c16b0 : (x8_1 == 1) = false := beq_eq_false_iff_ne.mpr c16
        have c16b1 : (x8_1 != 1) = true := bne_iff_ne.mpr c16
        by_cases c24 : x8_1 = 2
        ·
         rw [if_pos c24] at H
         have c24b0 : (x8_1 == 2) = true := beq_iff_eq.mpr c24
         have c24b1 : (x8_1 != 2) = false := bne_eq_false_iff_eq.mpr c24
         clear c24
         have hix25e : x8_1 = 2 := eq_of_beq (by first | (with_reducible assumption) | assumption)
         have hix25 : (x8_1).toNat = 2 := by rw [hix25e]; rfl
         have hix25c : (0 ≤ x8_1 ∧ x8_1 < (4 : Int)) = True := eq_true (by rw [hix25e]; decide)
         clear hix25e
         replace H := Option.bind_eq_some_iff.mp H
         obtain ⟨t448, A260, H⟩ := H
         have A26 := Goto.m0 A260
         clear A260
         by_cases c27 : t448 = true
         ·
          subst c27
          rw [if_pos rfl] at H
          simp only [Option.some.injEq, Prod.mk.injEq] at H
          obtain ⟨rfl, rfl, rfl, rfl, rfl, rfl, rfl, rfl, rfl, rfl⟩ := H
          have hcz28_0 := Goto.bc0 BK0; have hcz28_1 := Goto.bc1 BK0; have hcz28_2 := Goto.bc2 BK0; have hcz28_3 := Goto.bc3 BK0; have hcz28_4 := Goto.bc4 BK0; have hcz28_5 := Goto.bc5 BK0; have hcz28_6 := Goto.bc6 BK0; have hcz28_7 := Goto.bc7 BK0; have hfz28_0 := Goto.bf BK0 0; have hfz28_1 := Goto.bf BK0 1; have hfz28_2 := Goto.bf BK0 2; have hfz28_3 := Goto.bf BK0 3; have hfz28_4 := Goto.bf BK0 4; have hfz28_5 := Goto.bf BK0 5; have hfz28_6 := Goto.bf BK0 6; have hfz28_7 := Goto.bf BK0 7
          obtain ⟨Ao29, co29, eo29, _⟩ := Kd.Q_slice HO_1006.out
          subst eo29
          go_wp2_with (first | ((with_reducible refine gate_callee (f := 39) rfl ?_); refine goesL_ (some 23) rfl rfl Tryd.func39 (by kernel_rfl) rfl #[.slice Ao29 l0_6.length co29, .int .i64 a1] rfl (by (try simp only [List.map_toArray, List.map_cons, List.map_nil]); first | done | rfl | (simp only [List.length_drop, List.length_take]; rfl)) ?_; (with_reducible refine (tontineref8_has.calls k1 _ _ l0_6 a1 true _ ?side1 ?side2 A26.out).mono ?_); (case side1 => repeat (first | exact (Kd.Q_reads' HO_1006.out).2.2 | (with_reducible refine Kd.C_alloc ?_ _) | (with_reducible refine Kd.C_drewN ?_ _) | (with_reducible refine Kd.C_drew ?_))); (case side2 => exact (Kd.Q_reads' HO_1006.out).2.1); rintro e w' ⟨rfl, ⟨nd, rfl⟩⟩; refine ⟨_, rfl, ?_⟩))
          go_ret2
          (try simp only [← exists_and_left])
          exact ⟨_, _, _, _, Goto.er, by (with_reducible repeat (first | apply Kd.Q_alloc | apply Kd.Q_drewN | apply Kd.Q_drew)); exact HO_1004.out, by (with_reducible repeat (first | apply Kd.Q_alloc | apply Kd.Q_drewN | apply Kd.Q_drew)); exact HO_1005.out, by (with_reducible repeat (first | apply Kd.Q_alloc | apply Kd.Q_drewN | apply Kd.Q_drew)); exact HO_1006.out, by (with_reducible repeat (first | apply Kd.Q_alloc | apply Kd.Q_drewN | apply Kd.Q_drew)); exact HO_1007.out, by (with_reducible repeat first | refine blk_drewN ?_ _ | refine blk_drew ?_ | refine blk_alloc ?_ _); exact BK0.out, by repeat (first | (with_reducible first | exact HB.out | apply below_alloc | apply pw_below_drewN | apply below_drew1 | refine below_set ?_ GE0.out) | exact HB.out), by repeat (first | (with_reducible first | exact HK.out | apply Kept.alloc | apply Kept.drewN | apply Kept.drew | refine Kept.setCell ?_ (.inl (.inr rfl)) _) | exact HK.out)⟩
         ·
          replace c27 := Bool.eq_false_iff.mpr c27
          subst c27
          rw [if_neg (show ¬ (false = true) by decide)] at H
          have H' := Goto.m0 H
          clear H; have hcz30_0 := Goto.bc0 BK0; have hcz30_1 := Goto.bc1 BK0; have hcz30_2 := Goto.bc2 BK0; have hcz30_3 := Goto.bc3 BK0; have hcz30_4 := Goto.bc4 BK0; have hcz30_5 := Goto.bc5 BK0; have hcz30_6 := Goto.bc6 BK0; have hcz30_7 := Goto.bc7 BK0; have hfz30_0 := Goto.bf BK0 0; have hfz30_1 := Goto.bf BK0 1; have hfz30_2 := Goto.bf BK0 2; have hfz30_3 := Goto.bf BK0 3; have hfz30_4 := Goto.bf BK0 4; have hfz30_5 := Goto.bf BK0 5; have hfz30_6 := Goto.bf BK0 6; have hfz30_7 := Goto.bf BK0 7
          obtain ⟨Ao31, co31, eo31, _⟩ := Kd.Q_slice HO_1006.out
          subst eo31
          go_wp2_with (first | ((with_reducible refine gate_callee (f := 39) rfl ?_); refine goesL_ (some 23) rfl rfl Tryd.func39 (by kernel_rfl) rfl #[.slice Ao31 l0_6.length co31, .int .i64 a1] rfl (by (try simp only [List.map_toArray, List.map_cons, List.map_nil]); first | done | rfl | (simp only [List.length_drop, List.length_take]; rfl)) ?_; (with_reducible refine (tontineref8_has.calls k1 _ _ l0_6 a1 false _ ?side1 ?side2 A26.out).mono ?_); (case side1 => repeat (first | exact (Kd.Q_reads' HO_1006.out).2.2 | (with_reducible refine Kd.C_alloc ?_ _) | (with_reducible refine Kd.C_drewN ?_ _) | (with_reducible refine Kd.C_drew ?_))); (case side2 => exact (Kd.Q_reads' HO_1006.out).2.1); rintro e w' ⟨rfl, ⟨nd, rfl⟩⟩; refine ⟨_, rfl, ?_⟩))
          go_roundg k1
          case measure => have := HK1.out; omega
          case rel => exact ⟨(wrap64 (x8_1 + 1)), (by first | rfl | (simp; done) | (simp [*]; done) | (congr 1; unfold wrap64; omega)), H', ⟨by have := HK1.out; omega⟩, ⟨by (with_reducible repeat (first | apply Kd.Q_alloc | apply Kd.Q_drewN | apply Kd.Q_drew)); exact HO_1004.out⟩, ⟨by (with_reducible repeat (first | apply Kd.Q_alloc | apply Kd.Q_drewN | apply Kd.Q_drew)); exact HO_1005.out⟩, ⟨by (with_reducible repeat (first | apply Kd.Q_alloc | apply Kd.Q_drewN | apply Kd.Q_drew)); exact HO_1006.out⟩, ⟨by (with_reducible repeat (first | apply Kd.Q_alloc | apply Kd.Q_drewN | apply Kd.Q_drew)); exact HO_1007.out⟩, ⟨Goto.bx BK0⟩, ⟨by repeat (first | (with_reducible first | exact HK.out | apply Kept.alloc | apply Kept.drewN | apply Kept.drew | refine Kept.setCell ?_ (.inl (.inr rfl)) _) | exact HK.out)⟩, ⟨Goto.hx HB⟩⟩
        ·
         rw [if_neg c24] at H
         have c24b0 : (x8_1 == 2) = false := beq_eq_false_iff_ne.mpr c24
         have c24b1 : (x8_1 != 2) = true := bne_iff_ne.mpr c24
         by_cases c32 : x8_1 = 3
         ·
          rw [if_pos c32] at H
          have c32b0 : (x8_1 == 3) = true := beq_iff_eq.mpr c32
          have c32b1 : (x8_1 != 3) = false := bne_eq_false_iff_eq.mpr c32
          clear c32
          have hix33e : x8_1 = 3 := eq_of_beq (by first | (with_reducible assumption) | assumption)
          have hix33 : (x8_1).toNat = 3 := by rw [hix33e]; rfl
          have hix33c : (0 ≤ x8_1 ∧ x8_1 < (4 : Int)) = True := eq_true (by rw [hix33e]; decide)
          clear hix33e
          replace H := Option.bind_eq_some_iff.mp H
          obtain ⟨t449, A340, H⟩ := H
          have A34 := Goto.m0 A340
          clear A340
          by_cases c35 : t449 = true
          ·
           subst c35
           rw [if_pos rfl] at H
           simp only [Option.some.injEq, Prod.mk.injEq] at H
           obtain ⟨rfl, rfl, rfl, rfl, rfl, rfl, rfl, rfl, rfl, rfl⟩ := H
           have hcz36_0 := Goto.bc0 BK0; have hcz36_1 := Goto.bc1 BK0; have hcz36_2 := Goto.bc2 BK0; have hcz36_3 := Goto.bc3 BK0; have hcz36_4 := Goto.bc4 BK0; have hcz36_5 := Goto.bc5 BK0; have hcz36_6 := Goto.bc6 BK0; have hcz36_7 := Goto.bc7 BK0; have hfz36_0 := Goto.bf BK0 0; have hfz36_1 := Goto.bf BK0 1; have hfz36_2 := Goto.bf BK0 2; have hfz36_3 := Goto.bf BK0 3; have hfz36_4 := Goto.bf BK0 4; have hfz36_5 := Goto.bf BK0 5; have hfz36_6 := Goto.bf BK0 6; have hfz36_7 := Goto.bf BK0 7
           obtain ⟨Ao37, co37, eo37, _⟩ := Kd.Q_slice HO_1007.out
           subst eo37
           go_wp2_with (first | ((with_reducible refine gate_callee (f := 39) rfl ?_); refine goesL_ (some 23) rfl rfl Tryd.func39 (by kernel_rfl) rfl #[.slice Ao37 l0_7.length co37, .int .i64 a1] rfl (by (try simp only [List.map_toArray, List.map_cons, List.map_nil]); first | done | rfl | (simp only [List.length_drop, List.length_take]; rfl)) ?_; (with_reducible refine (tontineref8_has.calls k1 _ _ l0_7 a1 true _ ?side1 ?side2 A34.out).mono ?_); (case side1 => repeat (first | exact (Kd.Q_reads' HO_1007.out).2.2 | (with_reducible refine Kd.C_alloc ?_ _) | (with_reducible refine Kd.C_drewN ?_ _) | (with_reducible refine Kd.C_drew ?_))); (case side2 => exact (Kd.Q_reads' HO_1007.out).2.1); rintro e w' ⟨rfl, ⟨nd, rfl⟩⟩; refine ⟨_, rfl, ?_⟩))
           go_ret2
           (try simp only [← exists_and_left])
           exact ⟨_, _, _, _, Goto.er, by (with_reducible repeat (first | apply Kd.Q_alloc | apply Kd.Q_drewN | apply Kd.Q_drew)); exact HO_1004.out, by (with_reducible repeat (first | apply Kd.Q_alloc | apply Kd.Q_drewN | apply Kd.Q_drew)); exact HO_1005.out, by (with_reducible repeat (first | apply Kd.Q_alloc | apply Kd.Q_drewN | apply Kd.Q_drew)); exact HO_1006.out, by (with_reducible repeat (first | apply Kd.Q_alloc | apply Kd.Q_drewN | apply Kd.Q_drew)); exact HO_1007.out, by (with_reducible repeat first | refine blk_drewN ?_ _ | refine blk_drew ?_ | refine blk_alloc ?_ _); exact BK0.out, by repeat (first | (with_reducible first | exact HB.out | apply below_alloc | apply pw_below_drewN | apply below_drew1 | refine below_set ?_ GE0.out) | exact HB.out), by repeat (first | (with_reducible first | exact HK.out | apply Kept.alloc | apply Kept.drewN | apply Kept.drew | refine Kept.setCell ?_ (.inl (.inr rfl)) _) | exact HK.out)⟩
          ·
           replace c35 := Bool.eq_false_iff.mpr c35
           subst c35
           rw [if_neg (show ¬ (false = true) by decide)] at H
           have H' := Goto.m0 H
           clear H; have hcz38_0 := Goto.bc0 BK0; have hcz38_1 := Goto.bc1 BK0; have hcz38_2 := Goto.bc2 BK0; have hcz38_3 := Goto.bc3 BK0; have hcz38_4 := Goto.bc4 BK0; have hcz38_5 := Goto.bc5 BK0; have hcz38_6 := Goto.bc6 BK0; have hcz38_7 := Goto.bc7 BK0; have hfz38_0 := Goto.bf BK0 0; have hfz38_1 := Goto.bf BK0 1; have hfz38_2 := Goto.bf BK0 2; have hfz38_3 := Goto.bf BK0 3; have hfz38_4 := Goto.bf BK0 4; have hfz38_5 := Goto.bf BK0 5; have hfz38_6 := Goto.bf BK0 6; have hfz38_7 := Goto.bf BK0 7
           obtain ⟨Ao39, co39, eo39, _⟩ := Kd.Q_slice HO_1007.out
           subst eo39
           go_wp2_with (first | ((with_reducible refine gate_callee (f := 39) rfl ?_); refine goesL_ (some 23) rfl rfl Tryd.func39 (by kernel_rfl) rfl #[.slice Ao39 l0_7.length co39, .int .i64 a1] rfl (by (try simp only [List.map_toArray, List.map_cons, List.map_nil]); first | done | rfl | (simp only [List.length_drop, List.length_take]; rfl)) ?_; (with_reducible refine (tontineref8_has.calls k1 _ _ l0_7 a1 false _ ?side1 ?side2 A34.out).mono ?_); (case side1 => repeat (first | exact (Kd.Q_reads' HO_1007.out).2.2 | (with_reducible refine Kd.C_alloc ?_ _) | (with_reducible refine Kd.C_drewN ?_ _) | (with_reducible refine Kd.C_drew ?_))); (case side2 => exact (Kd.Q_reads' HO_1007.out).2.1); rintro e w' ⟨rfl, ⟨nd, rfl⟩⟩; refine ⟨_, rfl, ?_⟩))
           go_roundg k1
           case measure => have := HK1.out; omega
           case rel => exact ⟨(wrap64 (x8_1 + 1)), (by first | rfl | (simp; done) | (simp [*]; done) | (congr 1; unfold wrap64; omega)), H', ⟨by have := HK1.out; omega⟩, ⟨by (with_reducible repeat (first | apply Kd.Q_alloc | apply Kd.Q_drewN | apply Kd.Q_drew)); exact HO_1004.out⟩, ⟨by (with_reducible repeat (first | apply Kd.Q_alloc | apply Kd.Q_drewN | apply Kd.Q_drew)); exact HO_1005.out⟩, ⟨by (with_reducible repeat (first | apply Kd.Q_alloc | apply Kd.Q_drewN | apply Kd.Q_drew)); exact HO_1006.out⟩, ⟨by (with_reducible repeat (first | apply Kd.Q_alloc | apply Kd.Q_drewN | apply Kd.Q_drew)); exact HO_1007.out⟩, ⟨Goto.bx BK0⟩, ⟨by repeat (first | (with_reducible first | exact HK.out | apply Kept.alloc | apply Kept.drewN | apply Kept.drew | refine Kept.setCell ?_ (.inl (.inr rfl)) _) | exact HK.out)⟩, ⟨Goto.hx HB⟩⟩
         ·
          rw [if_neg c32] at H
          exact absurd H (by simp)
     ·
      rw [if_neg c7] at H
      exact absurd H (by simp)
    ·
     rw [if_neg c6] at H
     have c6b0 : decide (x8_1 < 4) = false := decide_eq_false c6
     clear c6
     by_cases c40 : 0 ≤ a2
     ·
      rw [if_pos c40] at H
      have c40b0 : decide (0 ≤ a2) = true := decide_eq_true c40
      clear c40
      by_cases c41 : a2 < 4
      ·
       rw [if_pos c41] at H
       have c41b0 : decide (a2 < 4) = true := decide_eq_true c41
       clear c41
       by_cases c42 : a2 = 0
       ·
        rw [if_pos c42] at H
        have c42b0 : (a2 == 0) = true := beq_iff_eq.mpr c42
        have c42b1 : (a2 != 0) = false := bne_eq_false_iff_eq.mpr c42
        clear c42
        have hix43e : a2 = 0 := eq_of_beq (by first | (with_reducible assumption) | assumption)
        have hix43 : (a2).toNat = 0 := by rw [hix43e]; rfl
        have hix43c : (0 ≤ a2 ∧ a2 < (4 : Int)) = True := eq_true (by rw [hix43e]; decide)
        clear hix43e
        by_cases c44 : a0_0 > 0
        ·
         rw [if_pos c44] at H
         have c44b0 : decide (0 < a0_0) = true := decide_eq_true c44
         clear c44
         have hix45e : a2 = 0 := eq_of_beq (by first | (with_reducible assumption) | assumption)
         have hix45 : (a2).toNat = 0 := by rw [hix45e]; rfl
         have hix45c : (0 ≤ a2 ∧ a2 < (4 : Int)) = True := eq_true (by rw [hix45e]; decide)
         clear hix45e
         have hix46e : a2 = 0 := eq_of_beq (by first | (with_reducible assumption) | assumption)
         have hix46 : (a2).toNat = 0 := by rw [hix46e]; rfl
         have hix46c : (0 ≤ a2 ∧ a2 < (4 : Int)) = True := eq_true (by rw [hix46e]; decide)
         clear hix46e
         simp only [Option.some.injEq, Prod.mk.injEq] at H
         obtain ⟨rfl, rfl, rfl, rfl, rfl, rfl, rfl, rfl, rfl, rfl⟩ := H
         have hcz47_0 := Goto.bc0 BK0; have hcz47_1 := Goto.bc1 BK0; have hcz47_2 := Goto.bc2 BK0; have hcz47_3 := Goto.bc3 BK0; have hcz47_4 := Goto.bc4 BK0; have hcz47_5 := Goto.bc5 BK0; have hcz47_6 := Goto.bc6 BK0; have hcz47_7 := Goto.bc7 BK0; have hfz47_0 := Goto.bf BK0 0; have hfz47_1 := Goto.bf BK0 1; have hfz47_2 := Goto.bf BK0 2; have hfz47_3 := Goto.bf BK0 3; have hfz47_4 := Goto.bf BK0 4; have hfz47_5 := Goto.bf BK0 5; have hfz47_6 := Goto.bf BK0 6; have hfz47_7 := Goto.bf BK0 7
         try go_wp2
         replace HO_1004 := Goto.m0 (Kd.Q_drew HO_1004.out); replace HO_1005 := Goto.m0 (Kd.Q_drew HO_1005.out); replace HO_1006 := Goto.m0 (Kd.Q_drew HO_1006.out); replace HO_1007 := Goto.m0 (Kd.Q_drew HO_1007.out); replace BK0 := Goto.m0 (blk_drew BK0.out); replace HK := Goto.m0 (Kept.drew HK.out); replace HB := Goto.m0 (below_drew1 HB.out)
         refine start_ (n := 13) (S := fun w' => w'.cell? ⟨g, 0, none⟩ = some (.int .i64 a0_0) ∧ w'.cell? ⟨g, 1, none⟩ = some (.int .i64 a0_1) ∧ w'.cell? ⟨g, 2, none⟩ = some (.int .i64 a0_2) ∧ w'.cell? ⟨g, 3, none⟩ = some (.int .i64 a0_3) ∧ w'.cell? ⟨g, 4, none⟩ = some (u9000_) ∧ w'.cell? ⟨g, 5, none⟩ = some (u9001_) ∧ w'.cell? ⟨g, 6, none⟩ = some (u9002_) ∧ w'.cell? ⟨g, 7, none⟩ = some (u9003_)) (ds := [12]) (.replicate 13 false) (by kernel_rfl) rfl rfl ⟨(blk_cell BK0.out 0).trans rfl, (blk_cell BK0.out 1).trans rfl, (blk_cell BK0.out 2).trans rfl, (blk_cell BK0.out 3).trans rfl, (blk_cell BK0.out 4).trans rfl, (blk_cell BK0.out 5).trans rfl, (blk_cell BK0.out 6).trans rfl, (blk_cell BK0.out 7).trans rfl⟩ (fun hHeld => ?_); refine with_tabW tontineref8_Objects_Wait.tab9 tontineref8_Objects_Wait.bits9 (fun HT_ HW_ => ?_)
         generalize wr.drew = w48 at HO_1004 HO_1005 HO_1006 HO_1007 BK0 HK HB hHeld ⊢
         refine Goto.pu 0 31 13 1 ?_
         refine Goto.pu 1 32 13 3 ?_
         refine Goto.pu 2 33 13 7 ?_
         refine Goto.pu 3 34 13 15 ?_
         refine Goto.pu 4 35 13 31 ?_
         refine Goto.pu 5 36 13 63 ?_
         refine Goto.pu 6 37 13 127 ?_
         refine Goto.pu 9 40 13 639 ?_
         refine Goto.pu 10 41 13 1663 ?_
         refine take_ (i := 7) (N := some 38) (v := ?_) (a' := ?_) (Goto.bs 13 1791) rfl rfl (take_ofW HT_.out HW_.out (by kernel_rfl)) (fun _ _ _ h => h) (Or.inl ⟨by rfl, ?_⟩) hHeld ?_ ?_
         rotate_left
         ·
          rintro w' ⟨s0, s1, s2, s3, s4, s5, s6, s7⟩
          go_simp
          with_reducible rfl
         rotate_left
         ·
          exact Goto.ap
         refine Goto.pu 8 39 13 2047 ?_
         refine Goto.pu 11 42 13 4095 ?_
         refine last_ (i := 12) (N := none) (Goto.bs 13 8191) rfl rfl (one_of HT_.out (by kernel_rfl)) (by decide) (fun K hK => ?_)
         have hs49 : w48.cell? ⟨g, 0, none⟩ = some (.int .i64 a0_0) := (blk_cell BK0.out 0).trans rfl; have hfs49 := Goto.bf BK0 0
         refine skip_ (w1 := ?_) (by rfl) rfl ?_ ?_
         rotate_left
         ·
          go_simp
          rfl
         refine hK.out _ _ ?_
         clear hK K
         refine done_ (done_of HT_.out (by kernel_rfl)) ?_
         try go_wp2
         go_ret2
         (try simp only [← exists_and_left])
         exact ⟨_, _, _, _, Goto.er, by (with_reducible repeat (first | apply Kd.Q_alloc | apply Kd.Q_drewN | apply Kd.Q_drew)); exact Kd.Q_mono (Kd.Q_far (p := ⟨g, 0, none⟩) (Kd.Q_types HO_1004.out BK0.out (by decide)) (fun _ hk => hk.2) (.int .i64 (wrap64 (a0_0 - 1)))) (fun _ hk => ⟨hk.1.1, ⟨hk.1.2.1, ⟨hk.1.2.2.1, hk.1.2.2.2⟩⟩⟩), by (with_reducible repeat (first | apply Kd.Q_alloc | apply Kd.Q_drewN | apply Kd.Q_drew)); exact Kd.Q_mono (Kd.Q_far (p := ⟨g, 0, none⟩) (Kd.Q_types HO_1005.out BK0.out (by decide)) (fun _ hk => hk.2) (.int .i64 (wrap64 (a0_0 - 1)))) (fun _ hk => ⟨hk.1.1, ⟨hk.1.2.1, ⟨hk.1.2.2.1, hk.1.2.2.2⟩⟩⟩), by (with_reducible repeat (first | apply Kd.Q_alloc | apply Kd.Q_drewN | apply Kd.Q_drew)); exact Kd.Q_mono (Kd.Q_far (p := ⟨g, 0, none⟩) (Kd.Q_types HO_1006.out BK0.out (by decide)) (fun _ hk => hk.2) (.int .i64 (wrap64 (a0_0 - 1)))) (fun _ hk => ⟨hk.1.1, ⟨hk.1.2.1, ⟨hk.1.2.2.1, hk.1.2.2.2⟩⟩⟩), by (with_reducible repeat (first | apply Kd.Q_alloc | apply Kd.Q_drewN | apply Kd.Q_drew)); exact Kd.Q_mono (Kd.Q_far (p := ⟨g, 0, none⟩) (Kd.Q_types HO_1007.out BK0.out (by decide)) (fun _ hk => hk.2) (.int .i64 (wrap64 (a0_0 - 1)))) (fun _ hk => ⟨hk.1.1, ⟨hk.1.2.1, ⟨hk.1.2.2.1, hk.1.2.2.2⟩⟩⟩), by (with_reducible repeat first | refine blk_drewN ?_ _ | refine blk_drew ?_ | refine blk_alloc ?_ _); refine blk_put (cs := #[.int .i64 a0_0, .int .i64 a0_1, .int .i64 a0_2, .int .i64 a0_3, u9000_, u9001_, u9002_, u9003_]) ?_ 0 _ rfl; (with_reducible repeat first | refine blk_drewN ?_ _ | refine blk_drew ?_ | refine blk_alloc ?_ _); exact BK0.out, by repeat (first | (with_reducible first | exact HB.out | apply below_alloc | apply pw_below_drewN | apply below_drew1 | refine below_set ?_ GE0.out) | exact HB.out), by repeat (first | (with_reducible first | exact HK.out | apply Kept.alloc | apply Kept.drewN | apply Kept.drew | refine Kept.setCell ?_ (.inl (.inr rfl)) _) | exact HK.out)⟩
        ·
         rw [if_neg c44] at H
         have c44b0 : decide (0 < a0_0) = false := decide_eq_false c44
         clear c44
         have hix50e : a2 = 0 := eq_of_beq (by first | (with_reducible assumption) | assumption)
         have hix50 : (a2).toNat = 0 := by rw [hix50e]; rfl
         have hix50c : (0 ≤ a2 ∧ a2 < (4 : Int)) = True := eq_true (by rw [hix50e]; decide)
         clear hix50e
         by_cases c51 : ([] : List Int).length + l0_4.length < 17592186044416
         ·
          rw [if_pos c51] at H
          have LMc51 := Goto.m0 c51
          clear c51
          obtain ⟨y410, hy410⟩ : ∃ y_ : List Int, y_ = (([] : List Int) ++ l0_4) := ⟨_, rfl⟩
          replace H : ((some (([a1] : List Int) : List Int)).bind fun y413 => (if y410.length + y413.length < 17592186044416 then (some (false, 0, a0_0, a0_1, a0_2, a0_3, (y410 ++ y413), l0_5, l0_6, l0_7)) else (none))) = some (r1, r2, r3, r4, r5, r6, r7, r8, r9, r10) := by first | (rw [hy410]; with_reducible exact H) | (have H2_ := (Option.bind_some _ _).symm.trans H; rw [hy410]; with_reducible exact H2_) | (have H2_ := (Option.bind_some _ _).symm.trans H; with_reducible exact H2_) | with_reducible exact H | (rw [hy410]; exact H) | exact H
          have Ny410 := Goto.m0 hy410
          clear hy410
          obtain ⟨y413, hy413⟩ : ∃ y_ : List Int, y_ = (([a1] : List Int)) := ⟨_, rfl⟩
          replace H : (if y410.length + y413.length < 17592186044416 then (some (false, 0, a0_0, a0_1, a0_2, a0_3, (y410 ++ y413), l0_5, l0_6, l0_7)) else (none)) = some (r1, r2, r3, r4, r5, r6, r7, r8, r9, r10) := by first | (rw [hy413]; with_reducible exact H) | (have H2_ := (Option.bind_some _ _).symm.trans H; rw [hy413]; with_reducible exact H2_) | (have H2_ := (Option.bind_some _ _).symm.trans H; with_reducible exact H2_) | with_reducible exact H | (rw [hy413]; exact H) | exact H
          have Ny413 := Goto.m0 hy413
          clear hy413
          by_cases c52 : y410.length + y413.length < 17592186044416
          ·
           rw [if_pos c52] at H
           have LMc52 := Goto.m0 c52
           clear c52
           obtain ⟨y416, hy416⟩ : ∃ y_ : List Int, y_ = (y410 ++ y413) := ⟨_, rfl⟩
           replace H : (some (false, 0, a0_0, a0_1, a0_2, a0_3, y416, l0_5, l0_6, l0_7)) = some (r1, r2, r3, r4, r5, r6, r7, r8, r9, r10) := by first | (rw [hy416]; with_reducible exact H) | (have H2_ := (Option.bind_some _ _).symm.trans H; rw [hy416]; with_reducible exact H2_) | (have H2_ := (Option.bind_some _ _).symm.trans H; with_reducible exact H2_) | with_reducible exact H | (rw [hy416]; exact H) | exact H
           have Ny416 := Goto.m0 hy416
           clear hy416
           have hix53e : a2 = 0 := eq_of_beq (by first | (with_reducible assumption) | assumption)
           have hix53 : (a2).toNat = 0 := by rw [hix53e]; rfl
           have hix53c : (0 ≤ a2 ∧ a2 < (4 : Int)) = True := eq_true (by rw [hix53e]; decide)
           clear hix53e
           simp only [Option.some.injEq, Prod.mk.injEq] at H
           obtain ⟨rfl, rfl, rfl, rfl, rfl, rfl, rfl, rfl, rfl, rfl⟩ := H
           have hcz54_0 := Goto.bc0 BK0; have hcz54_1 := Goto.bc1 BK0; have hcz54_2 := Goto.bc2 BK0; have hcz54_3 := Goto.bc3 BK0; have hcz54_4 := Goto.bc4 BK0; have hcz54_5 := Goto.bc5 BK0; have hcz54_6 := Goto.bc6 BK0; have hcz54_7 := Goto.bc7 BK0; have hfz54_0 := Goto.bf BK0 0; have hfz54_1 := Goto.bf BK0 1; have hfz54_2 := Goto.bf BK0 2; have hfz54_3 := Goto.bf BK0 3; have hfz54_4 := Goto.bf BK0 4; have hfz54_5 := Goto.bf BK0 5; have hfz54_6 := Goto.bf BK0 6; have hfz54_7 := Goto.bf BK0 7
           obtain ⟨Ao55, co55, eo55, _⟩ := Kd.Q_slice HO_1004.out
           subst eo55
           try go_wp2
           replace HO_1004 := Goto.m0 (Kd.Q_drew HO_1004.out); replace HO_1005 := Goto.m0 (Kd.Q_drew HO_1005.out); replace HO_1006 := Goto.m0 (Kd.Q_drew HO_1006.out); replace HO_1007 := Goto.m0 (Kd.Q_drew HO_1007.out); replace BK0 := Goto.m0 (blk_drew BK0.out); replace HK := Goto.m0 (Kept.drew HK.out); replace HB := Goto.m0 (below_drew1 HB.out)
           refine start_ (n := 16) (S := fun w' => w'.cell? ⟨g, 0, none⟩ = some (.int .i64 a0_0) ∧ w'.cell? ⟨g, 1, none⟩ = some (.int .i64 a0_1) ∧ w'.cell? ⟨g, 2, none⟩ = some (.int .i64 a0_2) ∧ w'.cell? ⟨g, 3, none⟩ = some (.int .i64 a0_3) ∧ w'.cell? ⟨g, 4, none⟩ = some (.slice Ao55 l0_4.length co55) ∧ w'.cell? ⟨g, 5, none⟩ = some (u9001_) ∧ w'.cell? ⟨g, 6, none⟩ = some (u9002_) ∧ w'.cell? ⟨g, 7, none⟩ = some (u9003_)) (ds := [15]) (.replicate 16 false) (by kernel_rfl) rfl rfl ⟨(blk_cell BK0.out 0).trans rfl, (blk_cell BK0.out 1).trans rfl, (blk_cell BK0.out 2).trans rfl, (blk_cell BK0.out 3).trans rfl, (blk_cell BK0.out 4).trans rfl, (blk_cell BK0.out 5).trans rfl, (blk_cell BK0.out 6).trans rfl, (blk_cell BK0.out 7).trans rfl⟩ (fun hHeld => ?_); refine with_tabW tontineref8_Objects_Wait.tab11 tontineref8_Objects_Wait.bits11 (fun HT_ HW_ => ?_)
           generalize wr.drew = w56 at HO_1004 HO_1005 HO_1006 HO_1007 BK0 HK HB hHeld ⊢
           refine Goto.pu 0 43 16 1 ?_
           refine Goto.pu 1 44 16 3 ?_
           refine Goto.pu 2 45 16 7 ?_
           refine Goto.pu 3 46 16 15 ?_
           refine Goto.pu 4 47 16 31 ?_
           refine Goto.pu 5 48 16 63 ?_
           refine Goto.pu 6 49 16 127 ?_
           refine Goto.pu 9 52 16 639 ?_
           refine Goto.pu 12 55 16 4735 ?_
           refine Goto.pu 13 56 16 12927 ?_
           refine take_ (i := 7) (N := some 50) (v := ?_) (a' := ?_) (Goto.bs 16 13055) rfl rfl (take_ofW HT_.out HW_.out (by kernel_rfl)) (fun _ _ _ h => h) (Or.inl ⟨by rfl, ?_⟩) hHeld ?_ ?_
           rotate_left
           ·
            rintro w' ⟨s0, s1, s2, s3, s4, s5, s6, s7⟩
            go_simp
            with_reducible rfl
           rotate_left
           ·
            exact Goto.ap
           refine join_ (σ := Value × Value) 3 (Goto.bs 16 14335) (fun s_ => [(51, s_.1), (53, s_.2)]) (fun s_ w' => (w'.cell? ⟨g, 0, none⟩ = some (.int .i64 a0_0) ∧ w'.cell? ⟨g, 1, none⟩ = some (.int .i64 a0_1) ∧ w'.cell? ⟨g, 2, none⟩ = some (.int .i64 a0_2) ∧ w'.cell? ⟨g, 3, none⟩ = some (.int .i64 a0_3) ∧ w'.cell? ⟨g, 4, none⟩ = some (.slice Ao55 l0_4.length co55) ∧ w'.cell? ⟨g, 5, none⟩ = some (u9001_) ∧ w'.cell? ⟨g, 6, none⟩ = some (u9002_) ∧ w'.cell? ⟨g, 7, none⟩ = some (u9003_)) ∧ (Kd.R (Kd.int .i64) 3 w' w0.heap.size (fun k_ => ((P0_4_ k_ ∨ P0_5_ k_ ∨ P0_6_ k_ ∨ P0_7_ k_) ∨ w.heap.size ≤ k_) ∧ some k_ ≠ (s_.2 : Value).ownBlock ∧ some k_ ≠ (.slice Ao55 l0_4.length co55 : Value).ownBlock ∧ some k_ ≠ (u9001_ : Value).ownBlock ∧ some k_ ≠ (u9002_ : Value).ownBlock ∧ some k_ ≠ (u9003_ : Value).ownBlock) s_.1 y410) ∧ (Kd.R (Kd.int .i64) 3 w' w0.heap.size (fun k_ => ((P0_4_ k_ ∨ P0_5_ k_ ∨ P0_6_ k_ ∨ P0_7_ k_) ∨ w.heap.size ≤ k_) ∧ some k_ ≠ (s_.1 : Value).ownBlock ∧ some k_ ≠ (.slice Ao55 l0_4.length co55 : Value).ownBlock ∧ some k_ ≠ (u9001_ : Value).ownBlock ∧ some k_ ≠ (u9002_ : Value).ownBlock ∧ some k_ ≠ (u9003_ : Value).ownBlock) s_.2 y413) ∧ (Kd.Q (Kd.int .i64) 3 w' w0.heap.size (fun k_ => ((P0_4_ k_ ∨ P0_5_ k_ ∨ P0_6_ k_ ∨ P0_7_ k_) ∨ w.heap.size ≤ k_) ∧ some k_ ≠ (s_.1 : Value).ownBlock ∧ some k_ ≠ (s_.2 : Value).ownBlock ∧ some k_ ≠ (u9001_ : Value).ownBlock ∧ some k_ ≠ (u9002_ : Value).ownBlock ∧ some k_ ≠ (u9003_ : Value).ownBlock) (.slice Ao55 l0_4.length co55) l0_4) ∧ (Kd.Q (Kd.int .i64) 3 w' w0.heap.size (fun k_ => ((P0_4_ k_ ∨ P0_5_ k_ ∨ P0_6_ k_ ∨ P0_7_ k_) ∨ w.heap.size ≤ k_) ∧ some k_ ≠ (s_.1 : Value).ownBlock ∧ some k_ ≠ (s_.2 : Value).ownBlock ∧ some k_ ≠ (.slice Ao55 l0_4.length co55 : Value).ownBlock ∧ some k_ ≠ (u9002_ : Value).ownBlock ∧ some k_ ≠ (u9003_ : Value).ownBlock) u9001_ l0_5) ∧ (Kd.Q (Kd.int .i64) 3 w' w0.heap.size (fun k_ => ((P0_4_ k_ ∨ P0_5_ k_ ∨ P0_6_ k_ ∨ P0_7_ k_) ∨ w.heap.size ≤ k_) ∧ some k_ ≠ (s_.1 : Value).ownBlock ∧ some k_ ≠ (s_.2 : Value).ownBlock ∧ some k_ ≠ (.slice Ao55 l0_4.length co55 : Value).ownBlock ∧ some k_ ≠ (u9001_ : Value).ownBlock ∧ some k_ ≠ (u9003_ : Value).ownBlock) u9002_ l0_6) ∧ (Kd.Q (Kd.int .i64) 3 w' w0.heap.size (fun k_ => ((P0_4_ k_ ∨ P0_5_ k_ ∨ P0_6_ k_ ∨ P0_7_ k_) ∨ w.heap.size ≤ k_) ∧ some k_ ≠ (s_.1 : Value).ownBlock ∧ some k_ ≠ (s_.2 : Value).ownBlock ∧ some k_ ≠ (.slice Ao55 l0_4.length co55 : Value).ownBlock ∧ some k_ ≠ (u9001_ : Value).ownBlock ∧ some k_ ≠ (u9002_ : Value).ownBlock) u9003_ l0_7) ∧ (w'.heap[g]? = some (.cells #[.int .i64 a0_0, .int .i64 a0_1, .int .i64 a0_2, .int .i64 a0_3, .slice Ao55 l0_4.length co55, u9001_, u9002_, u9003_] 55 (0, 0))) ∧ (Kept w w' (fun k_ => (P0_4_ k_ ∨ P0_5_ k_ ∨ P0_6_ k_ ∨ P0_7_ k_) ∨ k_ = g)) ∧ (Below w0.heap.size w0 w')) ?_ ?_
           rotate_left
           ·
            intro hCont
            refine two_ (i := 8) (j := 10) (Ni := some 51) (Nj := some 53) (Goto.bs 16 13311) (Goto.bs 16 14079) rfl rfl rfl rfl (two_of HT_.out (by kernel_rfl)) (by decide) (by decide) (fun K hK => ?_) (fun K hK => ?_)
            ·
             skip
             refine Kd.R_append_rows_step (Kd.int .i64) (w0 := w0) w0.heap.size rfl (.const (.slice none 0 0)) (.tmp 50) 52 3 (.int .i64 0) 8 rfl Tryd.underlying52 info3 rfl (by decide) (by omega) (.slice none 0 0) ([] : List Int) l0_4 _ _ _ (fun k_ => ((P0_4_ k_ ∨ P0_5_ k_ ∨ P0_6_ k_ ∨ P0_7_ k_) ∨ w.heap.size ≤ k_) ∧ some k_ ≠ (.slice Ao55 l0_4.length co55 : Value).ownBlock ∧ some k_ ≠ (u9001_ : Value).ownBlock ∧ some k_ ≠ (u9002_ : Value).ownBlock ∧ some k_ ≠ (u9003_ : Value).ownBlock) (fun _ => False) rfl rfl ?aO ?aR (fun _ _ h => h) (fun _ h => h.elim) ?aF ?aB ?aS ?aL ?_
             (case aR => repeat (first | exact (Kd.Q_reads' HO_1004.out).2.2 | (with_reducible refine Kd.C_alloc ?_ _) | (with_reducible refine Kd.C_drewN ?_ _) | (with_reducible refine Kd.C_drew ?_)))
             (case aB => exact (Goto.hx HB))
             (case aF => exact (fun k_ hk => ⟨(.inr (Nat.le_trans (by first | exact HK.out.1 | exact (show Kept w _ (fun k_ => (P0_4_ k_ ∨ P0_5_ k_ ∨ P0_6_ k_ ∨ P0_7_ k_) ∨ k_ = g) from by repeat (first | (with_reducible first | exact HK.out | apply Kept.alloc | apply Kept.drewN | apply Kept.drew | refine Kept.setCell ?_ (.inl (.inr rfl)) _) | exact HK.out)).1) hk)), Kd.fresh' (Kd.Q_lt (by (with_reducible repeat (first | apply Kd.Q_alloc | apply Kd.Q_drewN | apply Kd.Q_drew)); exact HO_1004.out)) k_ hk, Kd.fresh' (Kd.Q_lt (by (with_reducible repeat (first | apply Kd.Q_alloc | apply Kd.Q_drewN | apply Kd.Q_drew)); exact HO_1005.out)) k_ hk, Kd.fresh' (Kd.Q_lt (by (with_reducible repeat (first | apply Kd.Q_alloc | apply Kd.Q_drewN | apply Kd.Q_drew)); exact HO_1006.out)) k_ hk, Kd.fresh' (Kd.Q_lt (by (with_reducible repeat (first | apply Kd.Q_alloc | apply Kd.Q_drewN | apply Kd.Q_drew)); exact HO_1007.out)) k_ hk⟩))
             (case aO => exact ((Kd.R_nil _ _ _ _ (fun k_ => ((P0_4_ k_ ∨ P0_5_ k_ ∨ P0_6_ k_ ∨ P0_7_ k_) ∨ w.heap.size ≤ k_) ∧ some k_ ≠ (.slice Ao55 l0_4.length co55 : Value).ownBlock ∧ some k_ ≠ (u9001_ : Value).ownBlock ∧ some k_ ≠ (u9002_ : Value).ownBlock ∧ some k_ ≠ (u9003_ : Value).ownBlock))))
             (case aS => exact (below_size (Goto.hx HB)))
             (case aL => have := LMc51.out; omega)
             intro v411 w57 ho hb hg hat
             rw [← Ny410.out] at ho
             have HO412 := Goto.m0 (ho); replace HO_1004 := Goto.m0 (Kd.Q_after (Kd.Q_apart_nil (by (with_reducible repeat (first | apply Kd.Q_alloc | apply Kd.Q_drewN | apply Kd.Q_drew)); exact HO_1004.out)) hg hat); replace HO_1005 := Goto.m0 (Kd.Q_after (Kd.Q_apart_nil (by (with_reducible repeat (first | apply Kd.Q_alloc | apply Kd.Q_drewN | apply Kd.Q_drew)); exact HO_1005.out)) hg hat); replace HO_1006 := Goto.m0 (Kd.Q_after (Kd.Q_apart_nil (by (with_reducible repeat (first | apply Kd.Q_alloc | apply Kd.Q_drewN | apply Kd.Q_drew)); exact HO_1006.out)) hg hat); replace HO_1007 := Goto.m0 (Kd.Q_after (Kd.Q_apart_nil (by (with_reducible repeat (first | apply Kd.Q_alloc | apply Kd.Q_drewN | apply Kd.Q_drew)); exact HO_1007.out)) hg hat); replace BK0 := Goto.m0 (blk_grown (g := g) (o := .cells #[.int .i64 a0_0, .int .i64 a0_1, .int .i64 a0_2, .int .i64 a0_3, .slice Ao55 l0_4.length co55, u9001_, u9002_, u9003_] 55 (0, 0)) (Goto.bx BK0) hg (by simp [Value.ownBlock])); replace HB := Goto.m0 (hb); replace HK := Goto.m0 (Kept.of_grown (S := (fun k_ => (P0_4_ k_ ∨ P0_5_ k_ ∨ P0_6_ k_ ∨ P0_7_ k_) ∨ k_ = g)) hg (by repeat (first | (with_reducible first | exact HK.out | apply Kept.alloc | apply Kept.drewN | apply Kept.drew | refine Kept.setCell ?_ (.inl (.inr rfl)) _) | exact HK.out)) (fun k_ e_ => by simp [Value.ownBlock] at e_)); clear ho hb hg hat
             refine hK.out _ _ ⟨(blk_cell BK0.out 0).trans rfl, (blk_cell BK0.out 1).trans rfl, (blk_cell BK0.out 2).trans rfl, (blk_cell BK0.out 3).trans rfl, (blk_cell BK0.out 4).trans rfl, (blk_cell BK0.out 5).trans rfl, (blk_cell BK0.out 6).trans rfl, (blk_cell BK0.out 7).trans rfl⟩ (fun hHeld => ?_)
             clear hK K
             refine norm_ (a' := ?_) ?_ ?_
             rotate_left
             ·
              show Act.put _ (some 51) _ = _
              exact Goto.ap
             refine one_ (i := 10) (N := some 53) (Goto.bs 16 14335) rfl rfl (one_of HT_.out (by kernel_rfl)) (by decide) (fun K hK => ?_)
             refine Kd.R_lit_step (Kd.int .i64) _ 3 ?hg (N := 53) ?hd (xs := ([a1] : List Int)) (inner := [.int .i64 a1]) (ok := fun _ => True) (okp := fun _ => True) ?hr ?hp (fun _ hk => hk) trivial (Below.refl _ _) (Nat.le_refl _) (by simp) ?_; (case hd => rfl); (case hg => rfl); (case hr => first | (go_simp; done) | (go_simp; rfl)); (case hp => exact (Reps.one (show Kd.M (Kd.int .i64) _ _ _ a1 [.int .i64 a1] from rfl) (Reps.none _ _)))
             intro v414 w58 ho59 hb hg_ hnew_
             clear hg_ hnew_
             (first | rw [← Ny413.out] at ho59 | (simp only [Int.reduceToNat] at ho59; rw [← Ny413.out] at ho59))
             have HO415 := Goto.m0 (Kd.R_lower (Kd.R_new' (Kd.R_new' (Kd.R_new' (Kd.R_new' (Kd.R_new' (Kd.R_newM (M := fun k_ => ((P0_4_ k_ ∨ P0_5_ k_ ∨ P0_6_ k_ ∨ P0_7_ k_) ∨ w.heap.size ≤ k_)) ho59 (by first | exact HK.out.1 | exact (show Kept w _ (fun k_ => (P0_4_ k_ ∨ P0_5_ k_ ∨ P0_6_ k_ ∨ P0_7_ k_) ∨ k_ = g) from by repeat (first | (with_reducible first | exact HK.out | apply Kept.alloc | apply Kept.drewN | apply Kept.drew | refine Kept.setCell ?_ (.inl (.inr rfl)) _) | exact HK.out)).1) (fun k_ h_ => .inr h_)) (Kd.Q_lt (by (with_reducible repeat (first | apply Kd.Q_alloc | apply Kd.Q_drewN | apply Kd.Q_drew)); exact HO_1004.out))) (Kd.Q_lt (by (with_reducible repeat (first | apply Kd.Q_alloc | apply Kd.Q_drewN | apply Kd.Q_drew)); exact HO_1005.out))) (Kd.Q_lt (by (with_reducible repeat (first | apply Kd.Q_alloc | apply Kd.Q_drewN | apply Kd.Q_drew)); exact HO_1006.out))) (Kd.Q_lt (by (with_reducible repeat (first | apply Kd.Q_alloc | apply Kd.Q_drewN | apply Kd.Q_drew)); exact HO_1007.out))) (Kd.R_lt (Goto.rk HO412))) (below_size (Goto.hx HB))); replace HO_1004 := Goto.m0 (Kd.Q_elder' (by (with_reducible repeat (first | apply Kd.Q_alloc | apply Kd.Q_drewN | apply Kd.Q_drew)); exact HO_1004.out) (Kd.R_base ho59) hb); replace HO_1005 := Goto.m0 (Kd.Q_elder' (by (with_reducible repeat (first | apply Kd.Q_alloc | apply Kd.Q_drewN | apply Kd.Q_drew)); exact HO_1005.out) (Kd.R_base ho59) hb); replace HO_1006 := Goto.m0 (Kd.Q_elder' (by (with_reducible repeat (first | apply Kd.Q_alloc | apply Kd.Q_drewN | apply Kd.Q_drew)); exact HO_1006.out) (Kd.R_base ho59) hb); replace HO_1007 := Goto.m0 (Kd.Q_elder' (by (with_reducible repeat (first | apply Kd.Q_alloc | apply Kd.Q_drewN | apply Kd.Q_drew)); exact HO_1007.out) (Kd.R_base ho59) hb); replace HO412 := Goto.m0 (Kd.R_elder' (Goto.rk HO412) (Kd.R_base ho59) hb); replace BK0 := Goto.bb BK0 hb; replace HK := Goto.m0 (Kept.below (S := (fun k_ => (P0_4_ k_ ∨ P0_5_ k_ ∨ P0_6_ k_ ∨ P0_7_ k_) ∨ k_ = g)) (by repeat (first | (with_reducible first | exact HK.out | apply Kept.alloc | apply Kept.drewN | apply Kept.drew | refine Kept.setCell ?_ (.inl (.inr rfl)) _) | exact HK.out)) hb); replace HB := Goto.hs HB hb; clear hb ho59
             refine hK.out _ _ ⟨(blk_cell BK0.out 0).trans rfl, (blk_cell BK0.out 1).trans rfl, (blk_cell BK0.out 2).trans rfl, (blk_cell BK0.out 3).trans rfl, (blk_cell BK0.out 4).trans rfl, (blk_cell BK0.out 5).trans rfl, (blk_cell BK0.out 6).trans rfl, (blk_cell BK0.out 7).trans rfl⟩ (fun hHeld => ?_)
             clear hK K
             refine norm_ (a' := ?_) ?_ ?_
             rotate_left
             ·
              show Act.put _ (some 53) _ = _
              exact Goto.ap
             exact norm_ (by simp only [putAll, Act.put, List.setIfInBounds_toArray, List.set_cons_zero, List.set_cons_succ]) (hCont (v411, v414) _ ⟨hHeld, (by (with_reducible repeat (first | apply Kd.R_alloc | apply Kd.R_drewN | apply Kd.R_drew)); exact Kd.R_mono HO412.out (fun _ hk => ⟨hk.1.1, ⟨hk.2, ⟨hk.1.2.1, ⟨hk.1.2.2.1, ⟨hk.1.2.2.2.1, hk.1.2.2.2.2⟩⟩⟩⟩⟩)), (by (with_reducible repeat (first | apply Kd.R_alloc | apply Kd.R_drewN | apply Kd.R_drew)); exact Kd.R_mono HO415.out (fun _ hk => ⟨hk.1.1.1.1.1.1, ⟨hk.2, ⟨hk.1.1.1.1.2, ⟨hk.1.1.1.2, ⟨hk.1.1.2, hk.1.2⟩⟩⟩⟩⟩)), (by (with_reducible repeat (first | apply Kd.Q_alloc | apply Kd.Q_drewN | apply Kd.Q_drew)); exact Kd.Q_mono HO_1004.out (fun _ hk => ⟨hk.1.1.1, ⟨hk.1.2, ⟨hk.2, ⟨hk.1.1.2.1, ⟨hk.1.1.2.2.1, hk.1.1.2.2.2⟩⟩⟩⟩⟩)), (by (with_reducible repeat (first | apply Kd.Q_alloc | apply Kd.Q_drewN | apply Kd.Q_drew)); exact Kd.Q_mono HO_1005.out (fun _ hk => ⟨hk.1.1.1, ⟨hk.1.2, ⟨hk.2, ⟨hk.1.1.2.1, ⟨hk.1.1.2.2.1, hk.1.1.2.2.2⟩⟩⟩⟩⟩)), (by (with_reducible repeat (first | apply Kd.Q_alloc | apply Kd.Q_drewN | apply Kd.Q_drew)); exact Kd.Q_mono HO_1006.out (fun _ hk => ⟨hk.1.1.1, ⟨hk.1.2, ⟨hk.2, ⟨hk.1.1.2.1, ⟨hk.1.1.2.2.1, hk.1.1.2.2.2⟩⟩⟩⟩⟩)), (by (with_reducible repeat (first | apply Kd.Q_alloc | apply Kd.Q_drewN | apply Kd.Q_drew)); exact Kd.Q_mono HO_1007.out (fun _ hk => ⟨hk.1.1.1, ⟨hk.1.2, ⟨hk.2, ⟨hk.1.1.2.1, ⟨hk.1.1.2.2.1, hk.1.1.2.2.2⟩⟩⟩⟩⟩)), (Goto.bx BK0), (by repeat (first | (with_reducible first | exact HK.out | apply Kept.alloc | apply Kept.drewN | apply Kept.drew | refine Kept.setCell ?_ (.inl (.inr rfl)) _) | exact HK.out)), (Goto.hx HB)⟩)
            ·
             skip
             refine Kd.R_lit_step (Kd.int .i64) _ 3 ?hg (N := 53) ?hd (xs := ([a1] : List Int)) (inner := [.int .i64 a1]) (ok := fun _ => True) (okp := fun _ => True) ?hr ?hp (fun _ hk => hk) trivial (Below.refl _ _) (Nat.le_refl _) (by simp) ?_; (case hd => rfl); (case hg => rfl); (case hr => first | (go_simp; done) | (go_simp; rfl)); (case hp => exact (Reps.one (show Kd.M (Kd.int .i64) _ _ _ a1 [.int .i64 a1] from rfl) (Reps.none _ _)))
             intro v414 w57 ho58 hb hg_ hnew_
             clear hg_ hnew_
             (first | rw [← Ny413.out] at ho58 | (simp only [Int.reduceToNat] at ho58; rw [← Ny413.out] at ho58))
             have HO415 := Goto.m0 (Kd.R_lower (Kd.R_new' (Kd.R_new' (Kd.R_new' (Kd.R_new' (Kd.R_newM (M := fun k_ => ((P0_4_ k_ ∨ P0_5_ k_ ∨ P0_6_ k_ ∨ P0_7_ k_) ∨ w.heap.size ≤ k_)) ho58 (by first | exact HK.out.1 | exact (show Kept w _ (fun k_ => (P0_4_ k_ ∨ P0_5_ k_ ∨ P0_6_ k_ ∨ P0_7_ k_) ∨ k_ = g) from by repeat (first | (with_reducible first | exact HK.out | apply Kept.alloc | apply Kept.drewN | apply Kept.drew | refine Kept.setCell ?_ (.inl (.inr rfl)) _) | exact HK.out)).1) (fun k_ h_ => .inr h_)) (Kd.Q_lt (by (with_reducible repeat (first | apply Kd.Q_alloc | apply Kd.Q_drewN | apply Kd.Q_drew)); exact HO_1004.out))) (Kd.Q_lt (by (with_reducible repeat (first | apply Kd.Q_alloc | apply Kd.Q_drewN | apply Kd.Q_drew)); exact HO_1005.out))) (Kd.Q_lt (by (with_reducible repeat (first | apply Kd.Q_alloc | apply Kd.Q_drewN | apply Kd.Q_drew)); exact HO_1006.out))) (Kd.Q_lt (by (with_reducible repeat (first | apply Kd.Q_alloc | apply Kd.Q_drewN | apply Kd.Q_drew)); exact HO_1007.out))) (below_size (Goto.hx HB))); replace HO_1004 := Goto.m0 (Kd.Q_elder' (by (with_reducible repeat (first | apply Kd.Q_alloc | apply Kd.Q_drewN | apply Kd.Q_drew)); exact HO_1004.out) (Kd.R_base ho58) hb); replace HO_1005 := Goto.m0 (Kd.Q_elder' (by (with_reducible repeat (first | apply Kd.Q_alloc | apply Kd.Q_drewN | apply Kd.Q_drew)); exact HO_1005.out) (Kd.R_base ho58) hb); replace HO_1006 := Goto.m0 (Kd.Q_elder' (by (with_reducible repeat (first | apply Kd.Q_alloc | apply Kd.Q_drewN | apply Kd.Q_drew)); exact HO_1006.out) (Kd.R_base ho58) hb); replace HO_1007 := Goto.m0 (Kd.Q_elder' (by (with_reducible repeat (first | apply Kd.Q_alloc | apply Kd.Q_drewN | apply Kd.Q_drew)); exact HO_1007.out) (Kd.R_base ho58) hb); replace BK0 := Goto.bb BK0 hb; replace HK := Goto.m0 (Kept.below (S := (fun k_ => (P0_4_ k_ ∨ P0_5_ k_ ∨ P0_6_ k_ ∨ P0_7_ k_) ∨ k_ = g)) (by repeat (first | (with_reducible first | exact HK.out | apply Kept.alloc | apply Kept.drewN | apply Kept.drew | refine Kept.setCell ?_ (.inl (.inr rfl)) _) | exact HK.out)) hb); replace HB := Goto.hs HB hb; clear hb ho58
             refine hK.out _ _ ⟨(blk_cell BK0.out 0).trans rfl, (blk_cell BK0.out 1).trans rfl, (blk_cell BK0.out 2).trans rfl, (blk_cell BK0.out 3).trans rfl, (blk_cell BK0.out 4).trans rfl, (blk_cell BK0.out 5).trans rfl, (blk_cell BK0.out 6).trans rfl, (blk_cell BK0.out 7).trans rfl⟩ (fun hHeld => ?_)
             clear hK K
             refine norm_ (a' := ?_) ?_ ?_
             rotate_left
             ·
              show Act.put _ (some 53) _ = _
              exact Goto.ap
             refine one_ (i := 8) (N := some 51) (Goto.bs 16 14335) rfl rfl (one_of HT_.out (by kernel_rfl)) (by decide) (fun K hK => ?_)
             refine Kd.R_append_rows_step (Kd.int .i64) (w0 := w0) w0.heap.size rfl (.const (.slice none 0 0)) (.tmp 50) 52 3 (.int .i64 0) 8 rfl Tryd.underlying52 info3 rfl (by decide) (by omega) (.slice none 0 0) ([] : List Int) l0_4 _ _ _ (fun k_ => ((P0_4_ k_ ∨ P0_5_ k_ ∨ P0_6_ k_ ∨ P0_7_ k_) ∨ w.heap.size ≤ k_) ∧ some k_ ≠ (.slice Ao55 l0_4.length co55 : Value).ownBlock ∧ some k_ ≠ (u9001_ : Value).ownBlock ∧ some k_ ≠ (u9002_ : Value).ownBlock ∧ some k_ ≠ (u9003_ : Value).ownBlock ∧ some k_ ≠ (v414 : Value).ownBlock) (fun _ => False) rfl rfl ?aO ?aR (fun _ _ h => h) (fun _ h => h.elim) ?aF ?aB ?aS ?aL ?_
             (case aR => repeat (first | exact (Kd.Q_reads' HO_1004.out).2.2 | (with_reducible refine Kd.C_alloc ?_ _) | (with_reducible refine Kd.C_drewN ?_ _) | (with_reducible refine Kd.C_drew ?_)))
             (case aB => exact (Goto.hx HB))
             (case aF => exact (fun k_ hk => ⟨(.inr (Nat.le_trans (by first | exact HK.out.1 | exact (show Kept w _ (fun k_ => (P0_4_ k_ ∨ P0_5_ k_ ∨ P0_6_ k_ ∨ P0_7_ k_) ∨ k_ = g) from by repeat (first | (with_reducible first | exact HK.out | apply Kept.alloc | apply Kept.drewN | apply Kept.drew | refine Kept.setCell ?_ (.inl (.inr rfl)) _) | exact HK.out)).1) hk)), Kd.fresh' (Kd.Q_lt (by (with_reducible repeat (first | apply Kd.Q_alloc | apply Kd.Q_drewN | apply Kd.Q_drew)); exact HO_1004.out)) k_ hk, Kd.fresh' (Kd.Q_lt (by (with_reducible repeat (first | apply Kd.Q_alloc | apply Kd.Q_drewN | apply Kd.Q_drew)); exact HO_1005.out)) k_ hk, Kd.fresh' (Kd.Q_lt (by (with_reducible repeat (first | apply Kd.Q_alloc | apply Kd.Q_drewN | apply Kd.Q_drew)); exact HO_1006.out)) k_ hk, Kd.fresh' (Kd.Q_lt (by (with_reducible repeat (first | apply Kd.Q_alloc | apply Kd.Q_drewN | apply Kd.Q_drew)); exact HO_1007.out)) k_ hk, Kd.fresh' (Kd.R_lt (Goto.rk HO415)) k_ hk⟩))
             (case aO => exact ((Kd.R_nil _ _ _ _ (fun k_ => ((P0_4_ k_ ∨ P0_5_ k_ ∨ P0_6_ k_ ∨ P0_7_ k_) ∨ w.heap.size ≤ k_) ∧ some k_ ≠ (.slice Ao55 l0_4.length co55 : Value).ownBlock ∧ some k_ ≠ (u9001_ : Value).ownBlock ∧ some k_ ≠ (u9002_ : Value).ownBlock ∧ some k_ ≠ (u9003_ : Value).ownBlock ∧ some k_ ≠ (v414 : Value).ownBlock))))
             (case aS => exact (below_size (Goto.hx HB)))
             (case aL => have := LMc51.out; omega)
             intro v411 w59 ho hb hg hat
             rw [← Ny410.out] at ho
             have HO412 := Goto.m0 (ho); replace HO_1004 := Goto.m0 (Kd.Q_after (Kd.Q_apart_nil (by (with_reducible repeat (first | apply Kd.Q_alloc | apply Kd.Q_drewN | apply Kd.Q_drew)); exact HO_1004.out)) hg hat); replace HO_1005 := Goto.m0 (Kd.Q_after (Kd.Q_apart_nil (by (with_reducible repeat (first | apply Kd.Q_alloc | apply Kd.Q_drewN | apply Kd.Q_drew)); exact HO_1005.out)) hg hat); replace HO_1006 := Goto.m0 (Kd.Q_after (Kd.Q_apart_nil (by (with_reducible repeat (first | apply Kd.Q_alloc | apply Kd.Q_drewN | apply Kd.Q_drew)); exact HO_1006.out)) hg hat); replace HO_1007 := Goto.m0 (Kd.Q_after (Kd.Q_apart_nil (by (with_reducible repeat (first | apply Kd.Q_alloc | apply Kd.Q_drewN | apply Kd.Q_drew)); exact HO_1007.out)) hg hat); replace BK0 := Goto.m0 (blk_grown (g := g) (o := .cells #[.int .i64 a0_0, .int .i64 a0_1, .int .i64 a0_2, .int .i64 a0_3, .slice Ao55 l0_4.length co55, u9001_, u9002_, u9003_] 55 (0, 0)) (Goto.bx BK0) hg (by simp [Value.ownBlock])); replace HO415 := Goto.m0 (Kd.R_after (Kd.R_apart_nil (Goto.rk HO415)) hg hat); replace HB := Goto.m0 (hb); replace HK := Goto.m0 (Kept.of_grown (S := (fun k_ => (P0_4_ k_ ∨ P0_5_ k_ ∨ P0_6_ k_ ∨ P0_7_ k_) ∨ k_ = g)) hg (by repeat (first | (with_reducible first | exact HK.out | apply Kept.alloc | apply Kept.drewN | apply Kept.drew | refine Kept.setCell ?_ (.inl (.inr rfl)) _) | exact HK.out)) (fun k_ e_ => by simp [Value.ownBlock] at e_)); clear ho hb hg hat
             refine hK.out _ _ ⟨(blk_cell BK0.out 0).trans rfl, (blk_cell BK0.out 1).trans rfl, (blk_cell BK0.out 2).trans rfl, (blk_cell BK0.out 3).trans rfl, (blk_cell BK0.out 4).trans rfl, (blk_cell BK0.out 5).trans rfl, (blk_cell BK0.out 6).trans rfl, (blk_cell BK0.out 7).trans rfl⟩ (fun hHeld => ?_)
             clear hK K
             refine norm_ (a' := ?_) ?_ ?_
             rotate_left
             ·
              show Act.put _ (some 51) _ = _
              exact Goto.ap
             exact norm_ (by simp only [putAll, Act.put, List.setIfInBounds_toArray, List.set_cons_zero, List.set_cons_succ]) (hCont (v411, v414) _ ⟨hHeld, (by (with_reducible repeat (first | apply Kd.R_alloc | apply Kd.R_drewN | apply Kd.R_drew)); exact Kd.R_mono HO412.out (fun _ hk => ⟨hk.1, ⟨hk.2.2.2.2.2, ⟨hk.2.1, ⟨hk.2.2.1, ⟨hk.2.2.2.1, hk.2.2.2.2.1⟩⟩⟩⟩⟩)), (by (with_reducible repeat (first | apply Kd.R_alloc | apply Kd.R_drewN | apply Kd.R_drew)); exact Kd.R_mono HO415.out (fun _ hk => ⟨hk.1.1.1.1.1.1, ⟨hk.2, ⟨hk.1.1.1.1.2, ⟨hk.1.1.1.2, ⟨hk.1.1.2, hk.1.2⟩⟩⟩⟩⟩)), (by (with_reducible repeat (first | apply Kd.Q_alloc | apply Kd.Q_drewN | apply Kd.Q_drew)); exact Kd.Q_mono HO_1004.out (fun _ hk => ⟨hk.1.1.1, ⟨hk.2, ⟨hk.1.2, ⟨hk.1.1.2.1, ⟨hk.1.1.2.2.1, hk.1.1.2.2.2⟩⟩⟩⟩⟩)), (by (with_reducible repeat (first | apply Kd.Q_alloc | apply Kd.Q_drewN | apply Kd.Q_drew)); exact Kd.Q_mono HO_1005.out (fun _ hk => ⟨hk.1.1.1, ⟨hk.2, ⟨hk.1.2, ⟨hk.1.1.2.1, ⟨hk.1.1.2.2.1, hk.1.1.2.2.2⟩⟩⟩⟩⟩)), (by (with_reducible repeat (first | apply Kd.Q_alloc | apply Kd.Q_drewN | apply Kd.Q_drew)); exact Kd.Q_mono HO_1006.out (fun _ hk => ⟨hk.1.1.1, ⟨hk.2, ⟨hk.1.2, ⟨hk.1.1.2.1, ⟨hk.1.1.2.2.1, hk.1.1.2.2.2⟩⟩⟩⟩⟩)), (by (with_reducible repeat (first | apply Kd.Q_alloc | apply Kd.Q_drewN | apply Kd.Q_drew)); exact Kd.Q_mono HO_1007.out (fun _ hk => ⟨hk.1.1.1, ⟨hk.2, ⟨hk.1.2, ⟨hk.1.1.2.1, ⟨hk.1.1.2.2.1, hk.1.1.2.2.2⟩⟩⟩⟩⟩)), (Goto.bx BK0), (by repeat (first | (with_reducible first | exact HK.out | apply Kept.alloc | apply Kept.drewN | apply Kept.drew | refine Kept.setCell ?_ (.inl (.inr rfl)) _) | exact HK.out)), (Goto.hx HB)⟩)
           rintro ⟨v411, v414⟩ w60 ⟨hS_, h0_, h1_, h2_, h3_, h4_, h5_, h6_, h7_, h8_⟩
           have n0_ : Aside0 (Kd.R (Kd.int .i64) 3 w60 w0.heap.size (fun k_ => ((P0_4_ k_ ∨ P0_5_ k_ ∨ P0_6_ k_ ∨ P0_7_ k_) ∨ w.heap.size ≤ k_) ∧ some k_ ≠ (v414 : Value).ownBlock ∧ some k_ ≠ (.slice Ao55 l0_4.length co55 : Value).ownBlock ∧ some k_ ≠ (u9001_ : Value).ownBlock ∧ some k_ ≠ (u9002_ : Value).ownBlock ∧ some k_ ≠ (u9003_ : Value).ownBlock) v411 y410) := ⟨h0_⟩
           have n1_ : Aside0 (Kd.R (Kd.int .i64) 3 w60 w0.heap.size (fun k_ => ((P0_4_ k_ ∨ P0_5_ k_ ∨ P0_6_ k_ ∨ P0_7_ k_) ∨ w.heap.size ≤ k_) ∧ some k_ ≠ (v411 : Value).ownBlock ∧ some k_ ≠ (.slice Ao55 l0_4.length co55 : Value).ownBlock ∧ some k_ ≠ (u9001_ : Value).ownBlock ∧ some k_ ≠ (u9002_ : Value).ownBlock ∧ some k_ ≠ (u9003_ : Value).ownBlock) v414 y413) := ⟨h1_⟩
           have n2_ : Aside0 (Kd.Q (Kd.int .i64) 3 w60 w0.heap.size (fun k_ => ((P0_4_ k_ ∨ P0_5_ k_ ∨ P0_6_ k_ ∨ P0_7_ k_) ∨ w.heap.size ≤ k_) ∧ some k_ ≠ (v411 : Value).ownBlock ∧ some k_ ≠ (v414 : Value).ownBlock ∧ some k_ ≠ (u9001_ : Value).ownBlock ∧ some k_ ≠ (u9002_ : Value).ownBlock ∧ some k_ ≠ (u9003_ : Value).ownBlock) (.slice Ao55 l0_4.length co55) l0_4) := ⟨h2_⟩
           have n3_ : Aside0 (Kd.Q (Kd.int .i64) 3 w60 w0.heap.size (fun k_ => ((P0_4_ k_ ∨ P0_5_ k_ ∨ P0_6_ k_ ∨ P0_7_ k_) ∨ w.heap.size ≤ k_) ∧ some k_ ≠ (v411 : Value).ownBlock ∧ some k_ ≠ (v414 : Value).ownBlock ∧ some k_ ≠ (.slice Ao55 l0_4.length co55 : Value).ownBlock ∧ some k_ ≠ (u9002_ : Value).ownBlock ∧ some k_ ≠ (u9003_ : Value).ownBlock) u9001_ l0_5) := ⟨h3_⟩
           have n4_ : Aside0 (Kd.Q (Kd.int .i64) 3 w60 w0.heap.size (fun k_ => ((P0_4_ k_ ∨ P0_5_ k_ ∨ P0_6_ k_ ∨ P0_7_ k_) ∨ w.heap.size ≤ k_) ∧ some k_ ≠ (v411 : Value).ownBlock ∧ some k_ ≠ (v414 : Value).ownBlock ∧ some k_ ≠ (.slice Ao55 l0_4.length co55 : Value).ownBlock ∧ some k_ ≠ (u9001_ : Value).ownBlock ∧ some k_ ≠ (u9003_ : Value).ownBlock) u9002_ l0_6) := ⟨h4_⟩
           have n5_ : Aside0 (Kd.Q (Kd.int .i64) 3 w60 w0.heap.size (fun k_ => ((P0_4_ k_ ∨ P0_5_ k_ ∨ P0_6_ k_ ∨ P0_7_ k_) ∨ w.heap.size ≤ k_) ∧ some k_ ≠ (v411 : Value).ownBlock ∧ some k_ ≠ (v414 : Value).ownBlock ∧ some k_ ≠ (.slice Ao55 l0_4.length co55 : Value).ownBlock ∧ some k_ ≠ (u9001_ : Value).ownBlock ∧ some k_ ≠ (u9002_ : Value).ownBlock) u9003_ l0_7) := ⟨h5_⟩
           have n6_ : Aside0 (w60.heap[g]? = some (.cells #[.int .i64 a0_0, .int .i64 a0_1, .int .i64 a0_2, .int .i64 a0_3, .slice Ao55 l0_4.length co55, u9001_, u9002_, u9003_] 55 (0, 0))) := ⟨h6_⟩
           have n7_ : Aside0 (Kept w w60 (fun k_ => (P0_4_ k_ ∨ P0_5_ k_ ∨ P0_6_ k_ ∨ P0_7_ k_) ∨ k_ = g)) := ⟨h7_⟩
           have n8_ : Aside0 (Below w0.heap.size w0 w60) := ⟨h8_⟩
           clear HO_1004; clear HO_1005; clear HO_1006; clear HO_1007; clear BK0; clear HK; clear HB; clear h0_ h1_ h2_ h3_ h4_ h5_ h6_ h7_ h8_; have HO412 := n0_; have HO415 := n1_; have HO_1004 := n2_; have HO_1005 := n3_; have HO_1006 := n4_; have HO_1007 := n5_; have BK0 := n6_; have HK := n7_; have HB := n8_; clear n0_ n1_ n2_ n3_ n4_ n5_ n6_ n7_ n8_
           have hHeld : w60.cell? ⟨g, 0, none⟩ = some (.int .i64 a0_0) ∧ w60.cell? ⟨g, 1, none⟩ = some (.int .i64 a0_1) ∧ w60.cell? ⟨g, 2, none⟩ = some (.int .i64 a0_2) ∧ w60.cell? ⟨g, 3, none⟩ = some (.int .i64 a0_3) ∧ w60.cell? ⟨g, 4, none⟩ = some (.slice Ao55 l0_4.length co55) ∧ w60.cell? ⟨g, 5, none⟩ = some (u9001_) ∧ w60.cell? ⟨g, 6, none⟩ = some (u9002_) ∧ w60.cell? ⟨g, 7, none⟩ = some (u9003_) := hS_
           obtain ⟨Ao62, co62, eo62⟩ := Kd.R_slice HO415.out
           (first | subst eo62 | (injection eo62 with f1_ f2_ f3_; have f4_ := f1_.symm; have f5_ := f3_.symm; clear f1_ f2_ f3_; subst f4_; subst f5_))
           refine norm_ (a' := ?_) ?_ ?_
           rotate_left
           ·
            simp only [putAll, Act.put, List.setIfInBounds_toArray, List.set_cons_zero, List.set_cons_succ]
            rfl
           refine one_ (i := 11) (N := some 54) (Goto.bs 16 16383) rfl rfl (one_of HT_.out (by kernel_rfl)) (by decide) (fun K hK => ?_)
           refine Kd.R_append_rows_step (Kd.int .i64) (w0 := w0) w0.heap.size (by rfl) (.tmp 51) (.tmp 53) 52 3 (.int .i64 0) 8 rfl Tryd.underlying52 info3 rfl (by decide) (by omega) v411 y410 y413 _ _ _ (fun k_ => ((P0_4_ k_ ∨ P0_5_ k_ ∨ P0_6_ k_ ∨ P0_7_ k_) ∨ w.heap.size ≤ k_) ∧ some k_ ≠ (.slice Ao55 l0_4.length co55 : Value).ownBlock ∧ some k_ ≠ (u9001_ : Value).ownBlock ∧ some k_ ≠ (u9002_ : Value).ownBlock ∧ some k_ ≠ (u9003_ : Value).ownBlock ∧ some k_ ≠ (.slice Ao62 y413.length co62 : Value).ownBlock) (fun _ => False) rfl rfl ?aO ?aR (fun _ _ h => h) (fun _ h => h.elim) ?aF ?aB ?aS ?aL ?_
           (case aR => repeat (first | exact (Kd.R_reads' HO415.out).2.2 | (with_reducible refine Kd.C_alloc ?_ _) | (with_reducible refine Kd.C_drewN ?_ _) | (with_reducible refine Kd.C_drew ?_)))
           (case aB => exact (Goto.hx HB))
           (case aF => exact (fun k_ hk => ⟨(.inr (Nat.le_trans (by first | exact HK.out.1 | exact (show Kept w _ (fun k_ => (P0_4_ k_ ∨ P0_5_ k_ ∨ P0_6_ k_ ∨ P0_7_ k_) ∨ k_ = g) from by repeat (first | (with_reducible first | exact HK.out | apply Kept.alloc | apply Kept.drewN | apply Kept.drew | refine Kept.setCell ?_ (.inl (.inr rfl)) _) | exact HK.out)).1) hk)), Kd.fresh' (Kd.Q_lt (by (with_reducible repeat (first | apply Kd.Q_alloc | apply Kd.Q_drewN | apply Kd.Q_drew)); exact HO_1004.out)) k_ hk, Kd.fresh' (Kd.Q_lt (by (with_reducible repeat (first | apply Kd.Q_alloc | apply Kd.Q_drewN | apply Kd.Q_drew)); exact HO_1005.out)) k_ hk, Kd.fresh' (Kd.Q_lt (by (with_reducible repeat (first | apply Kd.Q_alloc | apply Kd.Q_drewN | apply Kd.Q_drew)); exact HO_1006.out)) k_ hk, Kd.fresh' (Kd.Q_lt (by (with_reducible repeat (first | apply Kd.Q_alloc | apply Kd.Q_drewN | apply Kd.Q_drew)); exact HO_1007.out)) k_ hk, Kd.fresh' (Kd.R_lt (Goto.rk HO415)) k_ hk⟩))
           (case aO => exact (by (with_reducible repeat (first | apply Kd.R_alloc | apply Kd.R_drewN | apply Kd.R_drew)); exact Kd.R_mono HO412.out (fun _ hk => ⟨hk.1, ⟨hk.2.2.1, ⟨hk.2.2.2.1, ⟨hk.2.2.2.2.1, ⟨hk.2.2.2.2.2, hk.2.1⟩⟩⟩⟩⟩)))
           (case aS => exact (below_size (Goto.hx HB)))
           (case aL => have := LMc52.out; omega)
           intro v417 w61 ho hb hg hat
           rw [← Ny416.out] at ho
           have n0_ := Goto.m0 (Kd.Q_after (ok := (fun k_ => ((P0_4_ k_ ∨ P0_5_ k_ ∨ P0_6_ k_ ∨ P0_7_ k_) ∨ w.heap.size ≤ k_) ∧ some k_ ≠ (u9001_ : Value).ownBlock ∧ some k_ ≠ (u9002_ : Value).ownBlock ∧ some k_ ≠ (u9003_ : Value).ownBlock ∧ some k_ ≠ (.slice Ao62 y413.length co62 : Value).ownBlock)) (by (with_reducible repeat (first | apply Kd.Q_alloc | apply Kd.Q_drewN | apply Kd.Q_drew)); exact Kd.Q_mono HO_1004.out (fun _ hk => ⟨⟨hk.1, ⟨hk.2.2.2.1, ⟨hk.2.2.2.2.1, ⟨hk.2.2.2.2.2, hk.2.2.1⟩⟩⟩⟩, hk.2.1⟩)) hg hat)
           have n1_ := Goto.m0 (Kd.Q_after (ok := (fun k_ => ((P0_4_ k_ ∨ P0_5_ k_ ∨ P0_6_ k_ ∨ P0_7_ k_) ∨ w.heap.size ≤ k_) ∧ some k_ ≠ (.slice Ao55 l0_4.length co55 : Value).ownBlock ∧ some k_ ≠ (u9002_ : Value).ownBlock ∧ some k_ ≠ (u9003_ : Value).ownBlock ∧ some k_ ≠ (.slice Ao62 y413.length co62 : Value).ownBlock)) (by (with_reducible repeat (first | apply Kd.Q_alloc | apply Kd.Q_drewN | apply Kd.Q_drew)); exact Kd.Q_mono HO_1005.out (fun _ hk => ⟨⟨hk.1, ⟨hk.2.2.2.1, ⟨hk.2.2.2.2.1, ⟨hk.2.2.2.2.2, hk.2.2.1⟩⟩⟩⟩, hk.2.1⟩)) hg hat)
           have n2_ := Goto.m0 (Kd.Q_after (ok := (fun k_ => ((P0_4_ k_ ∨ P0_5_ k_ ∨ P0_6_ k_ ∨ P0_7_ k_) ∨ w.heap.size ≤ k_) ∧ some k_ ≠ (.slice Ao55 l0_4.length co55 : Value).ownBlock ∧ some k_ ≠ (u9001_ : Value).ownBlock ∧ some k_ ≠ (u9003_ : Value).ownBlock ∧ some k_ ≠ (.slice Ao62 y413.length co62 : Value).ownBlock)) (by (with_reducible repeat (first | apply Kd.Q_alloc | apply Kd.Q_drewN | apply Kd.Q_drew)); exact Kd.Q_mono HO_1006.out (fun _ hk => ⟨⟨hk.1, ⟨hk.2.2.2.1, ⟨hk.2.2.2.2.1, ⟨hk.2.2.2.2.2, hk.2.2.1⟩⟩⟩⟩, hk.2.1⟩)) hg hat)
           have n3_ := Goto.m0 (Kd.Q_after (ok := (fun k_ => ((P0_4_ k_ ∨ P0_5_ k_ ∨ P0_6_ k_ ∨ P0_7_ k_) ∨ w.heap.size ≤ k_) ∧ some k_ ≠ (.slice Ao55 l0_4.length co55 : Value).ownBlock ∧ some k_ ≠ (u9001_ : Value).ownBlock ∧ some k_ ≠ (u9002_ : Value).ownBlock ∧ some k_ ≠ (.slice Ao62 y413.length co62 : Value).ownBlock)) (by (with_reducible repeat (first | apply Kd.Q_alloc | apply Kd.Q_drewN | apply Kd.Q_drew)); exact Kd.Q_mono HO_1007.out (fun _ hk => ⟨⟨hk.1, ⟨hk.2.2.2.1, ⟨hk.2.2.2.2.1, ⟨hk.2.2.2.2.2, hk.2.2.1⟩⟩⟩⟩, hk.2.1⟩)) hg hat)
           have n4_ := Goto.m0 (blk_grown (g := g) (o := .cells #[.int .i64 a0_0, .int .i64 a0_1, .int .i64 a0_2, .int .i64 a0_3, .slice Ao55 l0_4.length co55, u9001_, u9002_, u9003_] 55 (0, 0)) (Goto.bx BK0) hg (Kd.R_ne HO412.out BK0.out (by decide)))
           have n5_ := Goto.m0 (Kd.R_after (ok := (fun k_ => ((P0_4_ k_ ∨ P0_5_ k_ ∨ P0_6_ k_ ∨ P0_7_ k_) ∨ w.heap.size ≤ k_) ∧ some k_ ≠ (.slice Ao55 l0_4.length co55 : Value).ownBlock ∧ some k_ ≠ (u9001_ : Value).ownBlock ∧ some k_ ≠ (u9002_ : Value).ownBlock ∧ some k_ ≠ (u9003_ : Value).ownBlock)) (by (with_reducible repeat (first | apply Kd.R_alloc | apply Kd.R_drewN | apply Kd.R_drew)); exact Kd.R_mono HO415.out (fun _ hk => ⟨⟨hk.1, ⟨hk.2.2.1, ⟨hk.2.2.2.1, ⟨hk.2.2.2.2.1, hk.2.2.2.2.2⟩⟩⟩⟩, hk.2.1⟩)) hg hat)
           have n6_ := Goto.m0 (hb)
           have n7_ := Goto.m0 (Kept.of_grown (S := (fun k_ => (P0_4_ k_ ∨ P0_5_ k_ ∨ P0_6_ k_ ∨ P0_7_ k_) ∨ k_ = g)) hg (by repeat (first | (with_reducible first | exact HK.out | apply Kept.alloc | apply Kept.drewN | apply Kept.drew | refine Kept.setCell ?_ (.inl (.inr rfl)) _) | exact HK.out)) (fun k_ e_ => Or.imp_left Or.inl ((HO412.out.1 k_ e_).1)))
           have n8_ := Goto.m0 (ho)
           clear HO_1004; clear HO_1005; clear HO_1006; clear HO_1007; clear BK0; clear HO415; clear HB; clear HK; clear HO412; have HO_1004 := n0_; have HO_1005 := n1_; have HO_1006 := n2_; have HO_1007 := n3_; have BK0 := n4_; have HO415 := n5_; have HB := n6_; have HK := n7_; have HO418 := n8_; clear n0_ n1_ n2_ n3_ n4_ n5_ n6_ n7_ n8_; clear ho hb hg hat
           obtain ⟨Ao63, co63, eo63⟩ := Kd.R_slice HO418.out
           (first | subst eo63 | (injection eo63 with f1_ f2_ f3_; have f4_ := f1_.symm; have f5_ := f3_.symm; clear f1_ f2_ f3_; subst f4_; subst f5_))
           refine hK.out _ _ ⟨(blk_cell BK0.out 0).trans rfl, (blk_cell BK0.out 1).trans rfl, (blk_cell BK0.out 2).trans rfl, (blk_cell BK0.out 3).trans rfl, (blk_cell BK0.out 4).trans rfl, (blk_cell BK0.out 5).trans rfl, (blk_cell BK0.out 6).trans rfl, (blk_cell BK0.out 7).trans rfl⟩ (fun hHeld => ?_)
           clear hK K
           refine norm_ (a' := ?_) ?_ ?_
           rotate_left
           ·
            show Act.put _ (some 54) _ = _
            exact Goto.ap
           refine Goto.pu 14 57 16 32767 ?_
           refine last_ (i := 15) (N := none) (Goto.bs 16 65535) rfl rfl (one_of HT_.out (by kernel_rfl)) (by decide) (fun K hK => ?_)
           have hs64 : w61.cell? ⟨g, 4, none⟩ = some (.slice Ao55 l0_4.length co55) := (blk_cell BK0.out 4).trans rfl; have hfs64 := Goto.bf BK0 4
           refine skip_ (w1 := ?_) (by rfl) rfl ?_ ?_
           rotate_left
           ·
            go_simp
            rfl
           refine hK.out _ _ ?_
           clear hK K
           refine done_ (done_of HT_.out (by kernel_rfl)) ?_
           try go_wp2
           go_ret2
           (try simp only [← exists_and_left])
           exact ⟨_, _, _, _, Goto.er, Kd.Q_of_R (by (with_reducible repeat (first | apply Kd.R_alloc | apply Kd.R_drewN | apply Kd.R_drew)); exact Kd.R_mono (Kd.R_far (p := ⟨g, 4, none⟩) (Kd.R_types HO418.out BK0.out (by decide)) (fun _ hk => hk.2) (.slice Ao63 y416.length co63)) (fun _ hk => ⟨hk.1.1, ⟨hk.1.2.2.1, ⟨hk.1.2.2.2.1, hk.1.2.2.2.2.1⟩⟩⟩)), by (with_reducible repeat (first | apply Kd.Q_alloc | apply Kd.Q_drewN | apply Kd.Q_drew)); exact Kd.Q_mono (Kd.Q_far (p := ⟨g, 4, none⟩) (Kd.Q_types HO_1005.out BK0.out (by decide)) (fun _ hk => hk.2) (.slice Ao63 y416.length co63)) (fun _ hk => ⟨hk.1.1.1, ⟨hk.1.2, ⟨hk.1.1.2.2.1, hk.1.1.2.2.2.1⟩⟩⟩), by (with_reducible repeat (first | apply Kd.Q_alloc | apply Kd.Q_drewN | apply Kd.Q_drew)); exact Kd.Q_mono (Kd.Q_far (p := ⟨g, 4, none⟩) (Kd.Q_types HO_1006.out BK0.out (by decide)) (fun _ hk => hk.2) (.slice Ao63 y416.length co63)) (fun _ hk => ⟨hk.1.1.1, ⟨hk.1.2, ⟨hk.1.1.2.2.1, hk.1.1.2.2.2.1⟩⟩⟩), by (with_reducible repeat (first | apply Kd.Q_alloc | apply Kd.Q_drewN | apply Kd.Q_drew)); exact Kd.Q_mono (Kd.Q_far (p := ⟨g, 4, none⟩) (Kd.Q_types HO_1007.out BK0.out (by decide)) (fun _ hk => hk.2) (.slice Ao63 y416.length co63)) (fun _ hk => ⟨hk.1.1.1, ⟨hk.1.2, ⟨hk.1.1.2.2.1, hk.1.1.2.2.2.1⟩⟩⟩), by (with_reducible repeat first | refine blk_drewN ?_ _ | refine blk_drew ?_ | refine blk_alloc ?_ _); refine blk_put (cs := #[.int .i64 a0_0, .int .i64 a0_1, .int .i64 a0_2, .int .i64 a0_3, .slice Ao55 l0_4.length co55, u9001_, u9002_, u9003_]) ?_ 4 _ rfl; (with_reducible repeat first | refine blk_drewN ?_ _ | refine blk_drew ?_ | refine blk_alloc ?_ _); exact BK0.out, by repeat (first | (with_reducible first | exact HB.out | apply below_alloc | apply pw_below_drewN | apply below_drew1 | refine below_set ?_ GE0.out) | exact HB.out), by repeat (first | (with_reducible first | exact HK.out | apply Kept.alloc | apply Kept.drewN | apply Kept.drew | refine Kept.setCell ?_ (.inl (.inr rfl)) _) | exact HK.out)⟩
          ·
           rw [if_neg c52] at H
           exact absurd H (by simp)
         ·
          rw [if_neg c51] at H
          exact absurd H (by simp)
       ·
        rw [if_neg c42] at H
        have c42b0 : (a2 == 0) = false := beq_eq_false_iff_ne.mpr c42
        have c42b1 : (a2 != 0) = true := bne_iff_ne.mpr c42
        by_cases c65 : a2 = 1
        ·
         rw [if_pos c65] at H
         have c65b0 : (a2 == 1) = true := beq_iff_eq.mpr c65
         have c65b1 : (a2 != 1) = false := bne_eq_false_iff_eq.mpr c65
         clear c65
         have hix66e : a2 = 1 := eq_of_beq (by first | (with_reducible assumption) | assumption)
         have hix66 : (a2).toNat = 1 := by rw [hix66e]; rfl
         have hix66c : (0 ≤ a2 ∧ a2 < (4 : Int)) = True := eq_true (by rw [hix66e]; decide)
         clear hix66e
         by_cases c67 : a0_1 > 0
         ·
          rw [if_pos c67] at H
          have c67b0 : decide (0 < a0_1) = true := decide_eq_true c67
          clear c67
          have hix68e : a2 = 1 := eq_of_beq (by first | (with_reducible assumption) | assumption)
          have hix68 : (a2).toNat = 1 := by rw [hix68e]; rfl
          have hix68c : (0 ≤ a2 ∧ a2 < (4 : Int)) = True := eq_true (by rw [hix68e]; decide)
          clear hix68e
          have hix69e : a2 = 1 := eq_of_beq (by first | (with_reducible assumption) | assumption)
          have hix69 : (a2).toNat = 1 := by rw [hix69e]; rfl
          have hix69c : (0 ≤ a2 ∧ a2 < (4 : Int)) = True := eq_true (by rw [hix69e]; decide)
          clear hix69e
          simp only [Option.some.injEq, Prod.mk.injEq] at H
          obtain ⟨rfl, rfl, rfl, rfl, rfl, rfl, rfl, rfl, rfl, rfl⟩ := H
          have hcz70_0 := Goto.bc0 BK0; have hcz70_1 := Goto.bc1 BK0; have hcz70_2 := Goto.bc2 BK0; have hcz70_3 := Goto.bc3 BK0; have hcz70_4 := Goto.bc4 BK0; have hcz70_5 := Goto.bc5 BK0; have hcz70_6 := Goto.bc6 BK0; have hcz70_7 := Goto.bc7 BK0; have hfz70_0 := Goto.bf BK0 0; have hfz70_1 := Goto.bf BK0 1; have hfz70_2 := Goto.bf BK0 2; have hfz70_3 := Goto.bf BK0 3; have hfz70_4 := Goto.bf BK0 4; have hfz70_5 := Goto.bf BK0 5; have hfz70_6 := Goto.bf BK0 6; have hfz70_7 := Goto.bf BK0 7
          try go_wp2
          replace HO_1004 := Goto.m0 (Kd.Q_drew HO_1004.out); replace HO_1005 := Goto.m0 (Kd.Q_drew HO_1005.out); replace HO_1006 := Goto.m0 (Kd.Q_drew HO_1006.out); replace HO_1007 := Goto.m0 (Kd.Q_drew HO_1007.out); replace BK0 := Goto.m0 (blk_drew BK0.out); replace HK := Goto.m0 (Kept.drew HK.out); replace HB := Goto.m0 (below_drew1 HB.out)
          refine start_ (n := 13) (S := fun w' => w'.cell? ⟨g, 0, none⟩ = some (.int .i64 a0_0) ∧ w'.cell? ⟨g, 1, none⟩ = some (.int .i64 a0_1) ∧ w'.cell? ⟨g, 2, none⟩ = some (.int .i64 a0_2) ∧ w'.cell? ⟨g, 3, none⟩ = some (.int .i64 a0_3) ∧ w'.cell? ⟨g, 4, none⟩ = some (u9000_) ∧ w'.cell? ⟨g, 5, none⟩ = some (u9001_) ∧ w'.cell? ⟨g, 6, none⟩ = some (u9002_) ∧ w'.cell? ⟨g, 7, none⟩ = some (u9003_)) (ds := [12]) (.replicate 13 false) (by kernel_rfl) rfl rfl ⟨(blk_cell BK0.out 0).trans rfl, (blk_cell BK0.out 1).trans rfl, (blk_cell BK0.out 2).trans rfl, (blk_cell BK0.out 3).trans rfl, (blk_cell BK0.out 4).trans rfl, (blk_cell BK0.out 5).trans rfl, (blk_cell BK0.out 6).trans rfl, (blk_cell BK0.out 7).trans rfl⟩ (fun hHeld => ?_); refine with_tabW tontineref8_Objects_Wait.tab9 tontineref8_Objects_Wait.bits9 (fun HT_ HW_ => ?_)
          generalize wr.drew = w71 at HO_1004 HO_1005 HO_1006 HO_1007 BK0 HK HB hHeld ⊢
          refine Goto.pu 0 31 13 1 ?_
          refine Goto.pu 1 32 13 3 ?_
          refine Goto.pu 2 33 13 7 ?_
          refine Goto.pu 3 34 13 15 ?_
          refine Goto.pu 4 35 13 31 ?_
          refine Goto.pu 5 36 13 63 ?_
          refine Goto.pu 6 37 13 127 ?_
          refine Goto.pu 9 40 13 639 ?_
          refine Goto.pu 10 41 13 1663 ?_
          refine take_ (i := 7) (N := some 38) (v := ?_) (a' := ?_) (Goto.bs 13 1791) rfl rfl (take_ofW HT_.out HW_.out (by kernel_rfl)) (fun _ _ _ h => h) (Or.inl ⟨by rfl, ?_⟩) hHeld ?_ ?_
          rotate_left
          ·
           rintro w' ⟨s0, s1, s2, s3, s4, s5, s6, s7⟩
           go_simp
           with_reducible rfl
          rotate_left
          ·
           exact Goto.ap
          refine Goto.pu 8 39 13 2047 ?_
          refine Goto.pu 11 42 13 4095 ?_
          refine last_ (i := 12) (N := none) (Goto.bs 13 8191) rfl rfl (one_of HT_.out (by kernel_rfl)) (by decide) (fun K hK => ?_)
          have hs72 : w71.cell? ⟨g, 1, none⟩ = some (.int .i64 a0_1) := (blk_cell BK0.out 1).trans rfl; have hfs72 := Goto.bf BK0 1
          refine skip_ (w1 := ?_) (by rfl) rfl ?_ ?_
          rotate_left
          ·
           go_simp
           rfl
          refine hK.out _ _ ?_
          clear hK K
          refine done_ (done_of HT_.out (by kernel_rfl)) ?_
          try go_wp2
          go_ret2
          (try simp only [← exists_and_left])
          exact ⟨_, _, _, _, Goto.er, by (with_reducible repeat (first | apply Kd.Q_alloc | apply Kd.Q_drewN | apply Kd.Q_drew)); exact Kd.Q_mono (Kd.Q_far (p := ⟨g, 1, none⟩) (Kd.Q_types HO_1004.out BK0.out (by decide)) (fun _ hk => hk.2) (.int .i64 (wrap64 (a0_1 - 1)))) (fun _ hk => ⟨hk.1.1, ⟨hk.1.2.1, ⟨hk.1.2.2.1, hk.1.2.2.2⟩⟩⟩), by (with_reducible repeat (first | apply Kd.Q_alloc | apply Kd.Q_drewN | apply Kd.Q_drew)); exact Kd.Q_mono (Kd.Q_far (p := ⟨g, 1, none⟩) (Kd.Q_types HO_1005.out BK0.out (by decide)) (fun _ hk => hk.2) (.int .i64 (wrap64 (a0_1 - 1)))) (fun _ hk => ⟨hk.1.1, ⟨hk.1.2.1, ⟨hk.1.2.2.1, hk.1.2.2.2⟩⟩⟩), by (with_reducible repeat (first | apply Kd.Q_alloc | apply Kd.Q_drewN | apply Kd.Q_drew)); exact Kd.Q_mono (Kd.Q_far (p := ⟨g, 1, none⟩) (Kd.Q_types HO_1006.out BK0.out (by decide)) (fun _ hk => hk.2) (.int .i64 (wrap64 (a0_1 - 1)))) (fun _ hk => ⟨hk.1.1, ⟨hk.1.2.1, ⟨hk.1.2.2.1, hk.1.2.2.2⟩⟩⟩), by (with_reducible repeat (first | apply Kd.Q_alloc | apply Kd.Q_drewN | apply Kd.Q_drew)); exact Kd.Q_mono (Kd.Q_far (p := ⟨g, 1, none⟩) (Kd.Q_types HO_1007.out BK0.out (by decide)) (fun _ hk => hk.2) (.int .i64 (wrap64 (a0_1 - 1)))) (fun _ hk => ⟨hk.1.1, ⟨hk.1.2.1, ⟨hk.1.2.2.1, hk.1.2.2.2⟩⟩⟩), by (with_reducible repeat first | refine blk_drewN ?_ _ | refine blk_drew ?_ | refine blk_alloc ?_ _); refine blk_put (cs := #[.int .i64 a0_0, .int .i64 a0_1, .int .i64 a0_2, .int .i64 a0_3, u9000_, u9001_, u9002_, u9003_]) ?_ 1 _ rfl; (with_reducible repeat first | refine blk_drewN ?_ _ | refine blk_drew ?_ | refine blk_alloc ?_ _); exact BK0.out, by repeat (first | (with_reducible first | exact HB.out | apply below_alloc | apply pw_below_drewN | apply below_drew1 | refine below_set ?_ GE0.out) | exact HB.out), by repeat (first | (with_reducible first | exact HK.out | apply Kept.alloc | apply Kept.drewN | apply Kept.drew | refine Kept.setCell ?_ (.inl (.inr rfl)) _) | exact HK.out)⟩
         ·
          rw [if_neg c67] at H
          have c67b0 : decide (0 < a0_1) = false := decide_eq_false c67
          clear c67
          have hix73e : a2 = 1 := eq_of_beq (by first | (with_reducible assumption) | assumption)
          have hix73 : (a2).toNat = 1 := by rw [hix73e]; rfl
          have hix73c : (0 ≤ a2 ∧ a2 < (4 : Int)) = True := eq_true (by rw [hix73e]; decide)
          clear hix73e
          by_cases c74 : ([] : List Int).length + l0_5.length < 17592186044416
          ·
           rw [if_pos c74] at H
           have LMc74 := Goto.m0 c74
           clear c74
           obtain ⟨y419, hy419⟩ : ∃ y_ : List Int, y_ = (([] : List Int) ++ l0_5) := ⟨_, rfl⟩
           replace H : ((some (([a1] : List Int) : List Int)).bind fun y422 => (if y419.length + y422.length < 17592186044416 then (some (false, 0, a0_0, a0_1, a0_2, a0_3, l0_4, (y419 ++ y422), l0_6, l0_7)) else (none))) = some (r1, r2, r3, r4, r5, r6, r7, r8, r9, r10) := by first | (rw [hy419]; with_reducible exact H) | (have H2_ := (Option.bind_some _ _).symm.trans H; rw [hy419]; with_reducible exact H2_) | (have H2_ := (Option.bind_some _ _).symm.trans H; with_reducible exact H2_) | with_reducible exact H | (rw [hy419]; exact H) | exact H
           have Ny419 := Goto.m0 hy419
           clear hy419
           obtain ⟨y422, hy422⟩ : ∃ y_ : List Int, y_ = (([a1] : List Int)) := ⟨_, rfl⟩
           replace H : (if y419.length + y422.length < 17592186044416 then (some (false, 0, a0_0, a0_1, a0_2, a0_3, l0_4, (y419 ++ y422), l0_6, l0_7)) else (none)) = some (r1, r2, r3, r4, r5, r6, r7, r8, r9, r10) := by first | (rw [hy422]; with_reducible exact H) | (have H2_ := (Option.bind_some _ _).symm.trans H; rw [hy422]; with_reducible exact H2_) | (have H2_ := (Option.bind_some _ _).symm.trans H; with_reducible exact H2_) | with_reducible exact H | (rw [hy422]; exact H) | exact H
           have Ny422 := Goto.m0 hy422
           clear hy422
           by_cases c75 : y419.length + y422.length < 17592186044416
           ·
            rw [if_pos c75] at H
            have LMc75 := Goto.m0 c75
            clear c75
            obtain ⟨y425, hy425⟩ : ∃ y_ : List Int, y_ = (y419 ++ y422) := ⟨_, rfl⟩
            replace H : (some (false, 0, a0_0, a0_1, a0_2, a0_3, l0_4, y425, l0_6, l0_7)) = some (r1, r2, r3, r4, r5, r6, r7, r8, r9, r10) := by first | (rw [hy425]; with_reducible exact H) | (have H2_ := (Option.bind_some _ _).symm.trans H; rw [hy425]; with_reducible exact H2_) | (have H2_ := (Option.bind_some _ _).symm.trans H; with_reducible exact H2_) | with_reducible exact H | (rw [hy425]; exact H) | exact H
            have Ny425 := Goto.m0 hy425
            clear hy425
            have hix76e : a2 = 1 := eq_of_beq (by first | (with_reducible assumption) | assumption)
            have hix76 : (a2).toNat = 1 := by rw [hix76e]; rfl
            have hix76c : (0 ≤ a2 ∧ a2 < (4 : Int)) = True := eq_true (by rw [hix76e]; decide)
            clear hix76e
            simp only [Option.some.injEq, Prod.mk.injEq] at H
            obtain ⟨rfl, rfl, rfl, rfl, rfl, rfl, rfl, rfl, rfl, rfl⟩ := H
            have hcz77_0 := Goto.bc0 BK0; have hcz77_1 := Goto.bc1 BK0; have hcz77_2 := Goto.bc2 BK0; have hcz77_3 := Goto.bc3 BK0; have hcz77_4 := Goto.bc4 BK0; have hcz77_5 := Goto.bc5 BK0; have hcz77_6 := Goto.bc6 BK0; have hcz77_7 := Goto.bc7 BK0; have hfz77_0 := Goto.bf BK0 0; have hfz77_1 := Goto.bf BK0 1; have hfz77_2 := Goto.bf BK0 2; have hfz77_3 := Goto.bf BK0 3; have hfz77_4 := Goto.bf BK0 4; have hfz77_5 := Goto.bf BK0 5; have hfz77_6 := Goto.bf BK0 6; have hfz77_7 := Goto.bf BK0 7
            obtain ⟨Ao78, co78, eo78, _⟩ := Kd.Q_slice HO_1005.out
            subst eo78
            try go_wp2
            replace HO_1004 := Goto.m0 (Kd.Q_drew HO_1004.out); replace HO_1005 := Goto.m0 (Kd.Q_drew HO_1005.out); replace HO_1006 := Goto.m0 (Kd.Q_drew HO_1006.out); replace HO_1007 := Goto.m0 (Kd.Q_drew HO_1007.out); replace BK0 := Goto.m0 (blk_drew BK0.out); replace HK := Goto.m0 (Kept.drew HK.out); replace HB := Goto.m0 (below_drew1 HB.out)
            refine start_ (n := 16) (S := fun w' => w'.cell? ⟨g, 0, none⟩ = some (.int .i64 a0_0) ∧ w'.cell? ⟨g, 1, none⟩ = some (.int .i64 a0_1) ∧ w'.cell? ⟨g, 2, none⟩ = some (.int .i64 a0_2) ∧ w'.cell? ⟨g, 3, none⟩ = some (.int .i64 a0_3) ∧ w'.cell? ⟨g, 4, none⟩ = some (u9000_) ∧ w'.cell? ⟨g, 5, none⟩ = some (.slice Ao78 l0_5.length co78) ∧ w'.cell? ⟨g, 6, none⟩ = some (u9002_) ∧ w'.cell? ⟨g, 7, none⟩ = some (u9003_)) (ds := [15]) (.replicate 16 false) (by kernel_rfl) rfl rfl ⟨(blk_cell BK0.out 0).trans rfl, (blk_cell BK0.out 1).trans rfl, (blk_cell BK0.out 2).trans rfl, (blk_cell BK0.out 3).trans rfl, (blk_cell BK0.out 4).trans rfl, (blk_cell BK0.out 5).trans rfl, (blk_cell BK0.out 6).trans rfl, (blk_cell BK0.out 7).trans rfl⟩ (fun hHeld => ?_); refine with_tabW tontineref8_Objects_Wait.tab11 tontineref8_Objects_Wait.bits11 (fun HT_ HW_ => ?_)
            generalize wr.drew = w79 at HO_1004 HO_1005 HO_1006 HO_1007 BK0 HK HB hHeld ⊢
            refine Goto.pu 0 43 16 1 ?_
            refine Goto.pu 1 44 16 3 ?_
            refine Goto.pu 2 45 16 7 ?_
            refine Goto.pu 3 46 16 15 ?_
            refine Goto.pu 4 47 16 31 ?_
            refine Goto.pu 5 48 16 63 ?_
            refine Goto.pu 6 49 16 127 ?_
            refine Goto.pu 9 52 16 639 ?_
            refine Goto.pu 12 55 16 4735 ?_
            refine Goto.pu 13 56 16 12927 ?_
            refine take_ (i := 7) (N := some 50) (v := ?_) (a' := ?_) (Goto.bs 16 13055) rfl rfl (take_ofW HT_.out HW_.out (by kernel_rfl)) (fun _ _ _ h => h) (Or.inl ⟨by rfl, ?_⟩) hHeld ?_ ?_
            rotate_left
            ·
             rintro w' ⟨s0, s1, s2, s3, s4, s5, s6, s7⟩
             go_simp
             with_reducible rfl
            rotate_left
            ·
             exact Goto.ap
            refine join_ (σ := Value × Value) 3 (Goto.bs 16 14335) (fun s_ => [(51, s_.1), (53, s_.2)]) (fun s_ w' => (w'.cell? ⟨g, 0, none⟩ = some (.int .i64 a0_0) ∧ w'.cell? ⟨g, 1, none⟩ = some (.int .i64 a0_1) ∧ w'.cell? ⟨g, 2, none⟩ = some (.int .i64 a0_2) ∧ w'.cell? ⟨g, 3, none⟩ = some (.int .i64 a0_3) ∧ w'.cell? ⟨g, 4, none⟩ = some (u9000_) ∧ w'.cell? ⟨g, 5, none⟩ = some (.slice Ao78 l0_5.length co78) ∧ w'.cell? ⟨g, 6, none⟩ = some (u9002_) ∧ w'.cell? ⟨g, 7, none⟩ = some (u9003_)) ∧ (Kd.R (Kd.int .i64) 3 w' w0.heap.size (fun k_ => ((P0_4_ k_ ∨ P0_5_ k_ ∨ P0_6_ k_ ∨ P0_7_ k_) ∨ w.heap.size ≤ k_) ∧ some k_ ≠ (s_.2 : Value).ownBlock ∧ some k_ ≠ (u9000_ : Value).ownBlock ∧ some k_ ≠ (.slice Ao78 l0_5.length co78 : Value).ownBlock ∧ some k_ ≠ (u9002_ : Value).ownBlock ∧ some k_ ≠ (u9003_ : Value).ownBlock) s_.1 y419) ∧ (Kd.R (Kd.int .i64) 3 w' w0.heap.size (fun k_ => ((P0_4_ k_ ∨ P0_5_ k_ ∨ P0_6_ k_ ∨ P0_7_ k_) ∨ w.heap.size ≤ k_) ∧ some k_ ≠ (s_.1 : Value).ownBlock ∧ some k_ ≠ (u9000_ : Value).ownBlock ∧ some k_ ≠ (.slice Ao78 l0_5.length co78 : Value).ownBlock ∧ some k_ ≠ (u9002_ : Value).ownBlock ∧ some k_ ≠ (u9003_ : Value).ownBlock) s_.2 y422) ∧ (Kd.Q (Kd.int .i64) 3 w' w0.heap.size (fun k_ => ((P0_4_ k_ ∨ P0_5_ k_ ∨ P0_6_ k_ ∨ P0_7_ k_) ∨ w.heap.size ≤ k_) ∧ some k_ ≠ (s_.1 : Value).ownBlock ∧ some k_ ≠ (s_.2 : Value).ownBlock ∧ some k_ ≠ (.slice Ao78 l0_5.length co78 : Value).ownBlock ∧ some k_ ≠ (u9002_ : Value).ownBlock ∧ some k_ ≠ (u9003_ : Value).ownBlock) u9000_ l0_4) ∧ (Kd.Q (Kd.int .i64) 3 w' w0.heap.size (fun k_ => ((P0_4_ k_ ∨ P0_5_ k_ ∨ P0_6_ k_ ∨ P0_7_ k_) ∨ w.heap.size ≤ k_) ∧ some k_ ≠ (s_.1 : Value).ownBlock ∧ some k_ ≠ (s_.2 : Value).ownBlock ∧ some k_ ≠ (u9000_ : Value).ownBlock ∧ some k_ ≠ (u9002_ : Value).ownBlock ∧ some k_ ≠ (u9003_ : Value).ownBlock) (.slice Ao78 l0_5.length co78) l0_5) ∧ (Kd.Q (Kd.int .i64) 3 w' w0.heap.size (fun k_ => ((P0_4_ k_ ∨ P0_5_ k_ ∨ P0_6_ k_ ∨ P0_7_ k_) ∨ w.heap.size ≤ k_) ∧ some k_ ≠ (s_.1 : Value).ownBlock ∧ some k_ ≠ (s_.2 : Value).ownBlock ∧ some k_ ≠ (u9000_ : Value).ownBlock ∧ some k_ ≠ (.slice Ao78 l0_5.length co78 : Value).ownBlock ∧ some k_ ≠ (u9003_ : Value).ownBlock) u9002_ l0_6) ∧ (Kd.Q (Kd.int .i64) 3 w' w0.heap.size (fun k_ => ((P0_4_ k_ ∨ P0_5_ k_ ∨ P0_6_ k_ ∨ P0_7_ k_) ∨ w.heap.size ≤ k_) ∧ some k_ ≠ (s_.1 : Value).ownBlock ∧ some k_ ≠ (s_.2 : Value).ownBlock ∧ some k_ ≠ (u9000_ : Value).ownBlock ∧ some k_ ≠ (.slice Ao78 l0_5.length co78 : Value).ownBlock ∧ some k_ ≠ (u9002_ : Value).ownBlock) u9003_ l0_7) ∧ (w'.heap[g]? = some (.cells #[.int .i64 a0_0, .int .i64 a0_1, .int .i64 a0_2, .int .i64 a0_3, u9000_, .slice Ao78 l0_5.length co78, u9002_, u9003_] 55 (0, 0))) ∧ (Kept w w' (fun k_ => (P0_4_ k_ ∨ P0_5_ k_ ∨ P0_6_ k_ ∨ P0_7_ k_) ∨ k_ = g)) ∧ (Below w0.heap.size w0 w')) ?_ ?_
            rotate_left
            ·
             intro hCont
             refine two_ (i := 8) (j := 10) (Ni := some 51) (Nj := some 53) (Goto.bs 16 13311) (Goto.bs 16 14079) rfl rfl rfl rfl (two_of HT_.out (by kernel_rfl)) (by decide) (by decide) (fun K hK => ?_) (fun K hK => ?_)
             ·
              skip
              refine Kd.R_append_rows_step (Kd.int .i64) (w0 := w0) w0.heap.size rfl (.const (.slice none 0 0)) (.tmp 50) 52 3 (.int .i64 0) 8 rfl Tryd.underlying52 info3 rfl (by decide) (by omega) (.slice none 0 0) ([] : List Int) l0_5 _ _ _ (fun k_ => ((P0_4_ k_ ∨ P0_5_ k_ ∨ P0_6_ k_ ∨ P0_7_ k_) ∨ w.heap.size ≤ k_) ∧ some k_ ≠ (u9000_ : Value).ownBlock ∧ some k_ ≠ (.slice Ao78 l0_5.length co78 : Value).ownBlock ∧ some k_ ≠ (u9002_ : Value).ownBlock ∧ some k_ ≠ (u9003_ : Value).ownBlock) (fun _ => False) rfl rfl ?aO ?aR (fun _ _ h => h) (fun _ h => h.elim) ?aF ?aB ?aS ?aL ?_
              (case aR => repeat (first | exact (Kd.Q_reads' HO_1005.out).2.2 | (with_reducible refine Kd.C_alloc ?_ _) | (with_reducible refine Kd.C_drewN ?_ _) | (with_reducible refine Kd.C_drew ?_)))
              (case aB => exact (Goto.hx HB))
              (case aF => exact (fun k_ hk => ⟨(.inr (Nat.le_trans (by first | exact HK.out.1 | exact (show Kept w _ (fun k_ => (P0_4_ k_ ∨ P0_5_ k_ ∨ P0_6_ k_ ∨ P0_7_ k_) ∨ k_ = g) from by repeat (first | (with_reducible first | exact HK.out | apply Kept.alloc | apply Kept.drewN | apply Kept.drew | refine Kept.setCell ?_ (.inl (.inr rfl)) _) | exact HK.out)).1) hk)), Kd.fresh' (Kd.Q_lt (by (with_reducible repeat (first | apply Kd.Q_alloc | apply Kd.Q_drewN | apply Kd.Q_drew)); exact HO_1004.out)) k_ hk, Kd.fresh' (Kd.Q_lt (by (with_reducible repeat (first | apply Kd.Q_alloc | apply Kd.Q_drewN | apply Kd.Q_drew)); exact HO_1005.out)) k_ hk, Kd.fresh' (Kd.Q_lt (by (with_reducible repeat (first | apply Kd.Q_alloc | apply Kd.Q_drewN | apply Kd.Q_drew)); exact HO_1006.out)) k_ hk, Kd.fresh' (Kd.Q_lt (by (with_reducible repeat (first | apply Kd.Q_alloc | apply Kd.Q_drewN | apply Kd.Q_drew)); exact HO_1007.out)) k_ hk⟩))
              (case aO => exact ((Kd.R_nil _ _ _ _ (fun k_ => ((P0_4_ k_ ∨ P0_5_ k_ ∨ P0_6_ k_ ∨ P0_7_ k_) ∨ w.heap.size ≤ k_) ∧ some k_ ≠ (u9000_ : Value).ownBlock ∧ some k_ ≠ (.slice Ao78 l0_5.length co78 : Value).ownBlock ∧ some k_ ≠ (u9002_ : Value).ownBlock ∧ some k_ ≠ (u9003_ : Value).ownBlock))))
              (case aS => exact (below_size (Goto.hx HB)))
              (case aL => have := LMc74.out; omega)
              intro v420 w80 ho hb hg hat
              rw [← Ny419.out] at ho
              have HO421 := Goto.m0 (ho); replace HO_1004 := Goto.m0 (Kd.Q_after (Kd.Q_apart_nil (by (with_reducible repeat (first | apply Kd.Q_alloc | apply Kd.Q_drewN | apply Kd.Q_drew)); exact HO_1004.out)) hg hat); replace HO_1005 := Goto.m0 (Kd.Q_after (Kd.Q_apart_nil (by (with_reducible repeat (first | apply Kd.Q_alloc | apply Kd.Q_drewN | apply Kd.Q_drew)); exact HO_1005.out)) hg hat); replace HO_1006 := Goto.m0 (Kd.Q_after (Kd.Q_apart_nil (by (with_reducible repeat (first | apply Kd.Q_alloc | apply Kd.Q_drewN | apply Kd.Q_drew)); exact HO_1006.out)) hg hat); replace HO_1007 := Goto.m0 (Kd.Q_after (Kd.Q_apart_nil (by (with_reducible repeat (first | apply Kd.Q_alloc | apply Kd.Q_drewN | apply Kd.Q_drew)); exact HO_1007.out)) hg hat); replace BK0 := Goto.m0 (blk_grown (g := g) (o := .cells #[.int .i64 a0_0, .int .i64 a0_1, .int .i64 a0_2, .int .i64 a0_3, u9000_, .slice Ao78 l0_5.length co78, u9002_, u9003_] 55 (0, 0)) (Goto.bx BK0) hg (by simp [Value.ownBlock])); replace HB := Goto.m0 (hb); replace HK := Goto.m0 (Kept.of_grown (S := (fun k_ => (P0_4_ k_ ∨ P0_5_ k_ ∨ P0_6_ k_ ∨ P0_7_ k_) ∨ k_ = g)) hg (by repeat (first | (with_reducible first | exact HK.out | apply Kept.alloc | apply Kept.drewN | apply Kept.drew | refine Kept.setCell ?_ (.inl (.inr rfl)) _) | exact HK.out)) (fun k_ e_ => by simp [Value.ownBlock] at e_)); clear ho hb hg hat
              refine hK.out _ _ ⟨(blk_cell BK0.out 0).trans rfl, (blk_cell BK0.out 1).trans rfl, (blk_cell BK0.out 2).trans rfl, (blk_cell BK0.out 3).trans rfl, (blk_cell BK0.out 4).trans rfl, (blk_cell BK0.out 5).trans rfl, (blk_cell BK0.out 6).trans rfl, (blk_cell BK0.out 7).trans rfl⟩ (fun hHeld => ?_)
              clear hK K
              refine norm_ (a' := ?_) ?_ ?_
              rotate_left
              ·
               show Act.put _ (some 51) _ = _
               exact Goto.ap
              refine one_ (i := 10) (N := some 53) (Goto.bs 16 14335) rfl rfl (one_of HT_.out (by kernel_rfl)) (by decide) (fun K hK => ?_)
              refine Kd.R_lit_step (Kd.int .i64) _ 3 ?hg (N := 53) ?hd (xs := ([a1] : List Int)) (inner := [.int .i64 a1]) (ok := fun _ => True) (okp := fun _ => True) ?hr ?hp (fun _ hk => hk) trivial (Below.refl _ _) (Nat.le_refl _) (by simp) ?_; (case hd => rfl); (case hg => rfl); (case hr => first | (go_simp; done) | (go_simp; rfl)); (case hp => exact (Reps.one (show Kd.M (Kd.int .i64) _ _ _ a1 [.int .i64 a1] from rfl) (Reps.none _ _)))
              intro v423 w81 ho82 hb hg_ hnew_
              clear hg_ hnew_
              (first | rw [← Ny422.out] at ho82 | (simp only [Int.reduceToNat] at ho82; rw [← Ny422.out] at ho82))
              have HO424 := Goto.m0 (Kd.R_lower (Kd.R_new' (Kd.R_new' (Kd.R_new' (Kd.R_new' (Kd.R_new' (Kd.R_newM (M := fun k_ => ((P0_4_ k_ ∨ P0_5_ k_ ∨ P0_6_ k_ ∨ P0_7_ k_) ∨ w.heap.size ≤ k_)) ho82 (by first | exact HK.out.1 | exact (show Kept w _ (fun k_ => (P0_4_ k_ ∨ P0_5_ k_ ∨ P0_6_ k_ ∨ P0_7_ k_) ∨ k_ = g) from by repeat (first | (with_reducible first | exact HK.out | apply Kept.alloc | apply Kept.drewN | apply Kept.drew | refine Kept.setCell ?_ (.inl (.inr rfl)) _) | exact HK.out)).1) (fun k_ h_ => .inr h_)) (Kd.Q_lt (by (with_reducible repeat (first | apply Kd.Q_alloc | apply Kd.Q_drewN | apply Kd.Q_drew)); exact HO_1004.out))) (Kd.Q_lt (by (with_reducible repeat (first | apply Kd.Q_alloc | apply Kd.Q_drewN | apply Kd.Q_drew)); exact HO_1005.out))) (Kd.Q_lt (by (with_reducible repeat (first | apply Kd.Q_alloc | apply Kd.Q_drewN | apply Kd.Q_drew)); exact HO_1006.out))) (Kd.Q_lt (by (with_reducible repeat (first | apply Kd.Q_alloc | apply Kd.Q_drewN | apply Kd.Q_drew)); exact HO_1007.out))) (Kd.R_lt (Goto.rk HO421))) (below_size (Goto.hx HB))); replace HO_1004 := Goto.m0 (Kd.Q_elder' (by (with_reducible repeat (first | apply Kd.Q_alloc | apply Kd.Q_drewN | apply Kd.Q_drew)); exact HO_1004.out) (Kd.R_base ho82) hb); replace HO_1005 := Goto.m0 (Kd.Q_elder' (by (with_reducible repeat (first | apply Kd.Q_alloc | apply Kd.Q_drewN | apply Kd.Q_drew)); exact HO_1005.out) (Kd.R_base ho82) hb); replace HO_1006 := Goto.m0 (Kd.Q_elder' (by (with_reducible repeat (first | apply Kd.Q_alloc | apply Kd.Q_drewN | apply Kd.Q_drew)); exact HO_1006.out) (Kd.R_base ho82) hb); replace HO_1007 := Goto.m0 (Kd.Q_elder' (by (with_reducible repeat (first | apply Kd.Q_alloc | apply Kd.Q_drewN | apply Kd.Q_drew)); exact HO_1007.out) (Kd.R_base ho82) hb); replace HO421 := Goto.m0 (Kd.R_elder' (Goto.rk HO421) (Kd.R_base ho82) hb); replace BK0 := Goto.bb BK0 hb; replace HK := Goto.m0 (Kept.below (S := (fun k_ => (P0_4_ k_ ∨ P0_5_ k_ ∨ P0_6_ k_ ∨ P0_7_ k_) ∨ k_ = g)) (by repeat (first | (with_reducible first | exact HK.out | apply Kept.alloc | apply Kept.drewN | apply Kept.drew | refine Kept.setCell ?_ (.inl (.inr rfl)) _) | exact HK.out)) hb); replace HB := Goto.hs HB hb; clear hb ho82
              refine hK.out _ _ ⟨(blk_cell BK0.out 0).trans rfl, (blk_cell BK0.out 1).trans rfl, (blk_cell BK0.out 2).trans rfl, (blk_cell BK0.out 3).trans rfl, (blk_cell BK0.out 4).trans rfl, (blk_cell BK0.out 5).trans rfl, (blk_cell BK0.out 6).trans rfl, (blk_cell BK0.out 7).trans rfl⟩ (fun hHeld => ?_)
              clear hK K
              refine norm_ (a' := ?_) ?_ ?_
              rotate_left
              ·
               show Act.put _ (some 53) _ = _
               exact Goto.ap
              exact norm_ (by simp only [putAll, Act.put, List.setIfInBounds_toArray, List.set_cons_zero, List.set_cons_succ]) (hCont (v420, v423) _ ⟨hHeld, (by (with_reducible repeat (first | apply Kd.R_alloc | apply Kd.R_drewN | apply Kd.R_drew)); exact Kd.R_mono HO421.out (fun _ hk => ⟨hk.1.1, ⟨hk.2, ⟨hk.1.2.1, ⟨hk.1.2.2.1, ⟨hk.1.2.2.2.1, hk.1.2.2.2.2⟩⟩⟩⟩⟩)), (by (with_reducible repeat (first | apply Kd.R_alloc | apply Kd.R_drewN | apply Kd.R_drew)); exact Kd.R_mono HO424.out (fun _ hk => ⟨hk.1.1.1.1.1.1, ⟨hk.2, ⟨hk.1.1.1.1.2, ⟨hk.1.1.1.2, ⟨hk.1.1.2, hk.1.2⟩⟩⟩⟩⟩)), (by (with_reducible repeat (first | apply Kd.Q_alloc | apply Kd.Q_drewN | apply Kd.Q_drew)); exact Kd.Q_mono HO_1004.out (fun _ hk => ⟨hk.1.1.1, ⟨hk.1.2, ⟨hk.2, ⟨hk.1.1.2.1, ⟨hk.1.1.2.2.1, hk.1.1.2.2.2⟩⟩⟩⟩⟩)), (by (with_reducible repeat (first | apply Kd.Q_alloc | apply Kd.Q_drewN | apply Kd.Q_drew)); exact Kd.Q_mono HO_1005.out (fun _ hk => ⟨hk.1.1.1, ⟨hk.1.2, ⟨hk.2, ⟨hk.1.1.2.1, ⟨hk.1.1.2.2.1, hk.1.1.2.2.2⟩⟩⟩⟩⟩)), (by (with_reducible repeat (first | apply Kd.Q_alloc | apply Kd.Q_drewN | apply Kd.Q_drew)); exact Kd.Q_mono HO_1006.out (fun _ hk => ⟨hk.1.1.1, ⟨hk.1.2, ⟨hk.2, ⟨hk.1.1.2.1, ⟨hk.1.1.2.2.1, hk.1.1.2.2.2⟩⟩⟩⟩⟩)), (by (with_reducible repeat (first | apply Kd.Q_alloc | apply Kd.Q_drewN | apply Kd.Q_drew)); exact Kd.Q_mono HO_1007.out (fun _ hk => ⟨hk.1.1.1, ⟨hk.1.2, ⟨hk.2, ⟨hk.1.1.2.1, ⟨hk.1.1.2.2.1, hk.1.1.2.2.2⟩⟩⟩⟩⟩)), (Goto.bx BK0), (by repeat (first | (with_reducible first | exact HK.out | apply Kept.alloc | apply Kept.drewN | apply Kept.drew | refine Kept.setCell ?_ (.inl (.inr rfl)) _) | exact HK.out)), (Goto.hx HB)⟩)
             ·
              skip
              refine Kd.R_lit_step (Kd.int .i64) _ 3 ?hg (N := 53) ?hd (xs := ([a1] : List Int)) (inner := [.int .i64 a1]) (ok := fun _ => True) (okp := fun _ => True) ?hr ?hp (fun _ hk => hk) trivial (Below.refl _ _) (Nat.le_refl _) (by simp) ?_; (case hd => rfl); (case hg => rfl); (case hr => first | (go_simp; done) | (go_simp; rfl)); (case hp => exact (Reps.one (show Kd.M (Kd.int .i64) _ _ _ a1 [.int .i64 a1] from rfl) (Reps.none _ _)))
              intro v423 w80 ho81 hb hg_ hnew_
              clear hg_ hnew_
              (first | rw [← Ny422.out] at ho81 | (simp only [Int.reduceToNat] at ho81; rw [← Ny422.out] at ho81))
              have HO424 := Goto.m0 (Kd.R_lower (Kd.R_new' (Kd.R_new' (Kd.R_new' (Kd.R_new' (Kd.R_newM (M := fun k_ => ((P0_4_ k_ ∨ P0_5_ k_ ∨ P0_6_ k_ ∨ P0_7_ k_) ∨ w.heap.size ≤ k_)) ho81 (by first | exact HK.out.1 | exact (show Kept w _ (fun k_ => (P0_4_ k_ ∨ P0_5_ k_ ∨ P0_6_ k_ ∨ P0_7_ k_) ∨ k_ = g) from by repeat (first | (with_reducible first | exact HK.out | apply Kept.alloc | apply Kept.drewN | apply Kept.drew | refine Kept.setCell ?_ (.inl (.inr rfl)) _) | exact HK.out)).1) (fun k_ h_ => .inr h_)) (Kd.Q_lt (by (with_reducible repeat (first | apply Kd.Q_alloc | apply Kd.Q_drewN | apply Kd.Q_drew)); exact HO_1004.out))) (Kd.Q_lt (by (with_reducible repeat (first | apply Kd.Q_alloc | apply Kd.Q_drewN | apply Kd.Q_drew)); exact HO_1005.out))) (Kd.Q_lt (by (with_reducible repeat (first | apply Kd.Q_alloc | apply Kd.Q_drewN | apply Kd.Q_drew)); exact HO_1006.out))) (Kd.Q_lt (by (with_reducible repeat (first | apply Kd.Q_alloc | apply Kd.Q_drewN | apply Kd.Q_drew)); exact HO_1007.out))) (below_size (Goto.hx HB))); replace HO_1004 := Goto.m0 (Kd.Q_elder' (by (with_reducible repeat (first | apply Kd.Q_alloc | apply Kd.Q_drewN | apply Kd.Q_drew)); exact HO_1004.out) (Kd.R_base ho81) hb); replace HO_1005 := Goto.m0 (Kd.Q_elder' (by (with_reducible repeat (first | apply Kd.Q_alloc | apply Kd.Q_drewN | apply Kd.Q_drew)); exact HO_1005.out) (Kd.R_base ho81) hb); replace HO_1006 := Goto.m0 (Kd.Q_elder' (by (with_reducible repeat (first | apply Kd.Q_alloc | apply Kd.Q_drewN | apply Kd.Q_drew)); exact HO_1006.out) (Kd.R_base ho81) hb); replace HO_1007 := Goto.m0 (Kd.Q_elder' (by (with_reducible repeat (first | apply Kd.Q_alloc | apply Kd.Q_drewN | apply Kd.Q_drew)); exact HO_1007.out) (Kd.R_base ho81) hb); replace BK0 := Goto.bb BK0 hb; replace HK := Goto.m0 (Kept.below (S := (fun k_ => (P0_4_ k_ ∨ P0_5_ k_ ∨ P0_6_ k_ ∨ P0_7_ k_) ∨ k_ = g)) (by repeat (first | (with_reducible first | exact HK.out | apply Kept.alloc | apply Kept.drewN | apply Kept.drew | refine Kept.setCell ?_ (.inl (.inr rfl)) _) | exact HK.out)) hb); replace HB := Goto.hs HB hb; clear hb ho81
              refine hK.out _ _ ⟨(blk_cell BK0.out 0).trans rfl, (blk_cell BK0.out 1).trans rfl, (blk_cell BK0.out 2).trans rfl, (blk_cell BK0.out 3).trans rfl, (blk_cell BK0.out 4).trans rfl, (blk_cell BK0.out 5).trans rfl, (blk_cell BK0.out 6).trans rfl, (blk_cell BK0.out 7).trans rfl⟩ (fun hHeld => ?_)
              clear hK K
              refine norm_ (a' := ?_) ?_ ?_
              rotate_left
              ·
               show Act.put _ (some 53) _ = _
               exact Goto.ap
              refine one_ (i := 8) (N := some 51) (Goto.bs 16 14335) rfl rfl (one_of HT_.out (by kernel_rfl)) (by decide) (fun K hK => ?_)
              refine Kd.R_append_rows_step (Kd.int .i64) (w0 := w0) w0.heap.size rfl (.const (.slice none 0 0)) (.tmp 50) 52 3 (.int .i64 0) 8 rfl Tryd.underlying52 info3 rfl (by decide) (by omega) (.slice none 0 0) ([] : List Int) l0_5 _ _ _ (fun k_ => ((P0_4_ k_ ∨ P0_5_ k_ ∨ P0_6_ k_ ∨ P0_7_ k_) ∨ w.heap.size ≤ k_) ∧ some k_ ≠ (u9000_ : Value).ownBlock ∧ some k_ ≠ (.slice Ao78 l0_5.length co78 : Value).ownBlock ∧ some k_ ≠ (u9002_ : Value).ownBlock ∧ some k_ ≠ (u9003_ : Value).ownBlock ∧ some k_ ≠ (v423 : Value).ownBlock) (fun _ => False) rfl rfl ?aO ?aR (fun _ _ h => h) (fun _ h => h.elim) ?aF ?aB ?aS ?aL ?_
              (case aR => repeat (first | exact (Kd.Q_reads' HO_1005.out).2.2 | (with_reducible refine Kd.C_alloc ?_ _) | (with_reducible refine Kd.C_drewN ?_ _) | (with_reducible refine Kd.C_drew ?_)))
              (case aB => exact (Goto.hx HB))
              (case aF => exact (fun k_ hk => ⟨(.inr (Nat.le_trans (by first | exact HK.out.1 | exact (show Kept w _ (fun k_ => (P0_4_ k_ ∨ P0_5_ k_ ∨ P0_6_ k_ ∨ P0_7_ k_) ∨ k_ = g) from by repeat (first | (with_reducible first | exact HK.out | apply Kept.alloc | apply Kept.drewN | apply Kept.drew | refine Kept.setCell ?_ (.inl (.inr rfl)) _) | exact HK.out)).1) hk)), Kd.fresh' (Kd.Q_lt (by (with_reducible repeat (first | apply Kd.Q_alloc | apply Kd.Q_drewN | apply Kd.Q_drew)); exact HO_1004.out)) k_ hk, Kd.fresh' (Kd.Q_lt (by (with_reducible repeat (first | apply Kd.Q_alloc | apply Kd.Q_drewN | apply Kd.Q_drew)); exact HO_1005.out)) k_ hk, Kd.fresh' (Kd.Q_lt (by (with_reducible repeat (first | apply Kd.Q_alloc | apply Kd.Q_drewN | apply Kd.Q_drew)); exact HO_1006.out)) k_ hk, Kd.fresh' (Kd.Q_lt (by (with_reducible repeat (first | apply Kd.Q_alloc | apply Kd.Q_drewN | apply Kd.Q_drew)); exact HO_1007.out)) k_ hk, Kd.fresh' (Kd.R_lt (Goto.rk HO424)) k_ hk⟩))
              (case aO => exact ((Kd.R_nil _ _ _ _ (fun k_ => ((P0_4_ k_ ∨ P0_5_ k_ ∨ P0_6_ k_ ∨ P0_7_ k_) ∨ w.heap.size ≤ k_) ∧ some k_ ≠ (u9000_ : Value).ownBlock ∧ some k_ ≠ (.slice Ao78 l0_5.length co78 : Value).ownBlock ∧ some k_ ≠ (u9002_ : Value).ownBlock ∧ some k_ ≠ (u9003_ : Value).ownBlock ∧ some k_ ≠ (v423 : Value).ownBlock))))
              (case aS => exact (below_size (Goto.hx HB)))
              (case aL => have := LMc74.out; omega)
              intro v420 w82 ho hb hg hat
              rw [← Ny419.out] at ho
              have HO421 := Goto.m0 (ho); replace HO_1004 := Goto.m0 (Kd.Q_after (Kd.Q_apart_nil (by (with_reducible repeat (first | apply Kd.Q_alloc | apply Kd.Q_drewN | apply Kd.Q_drew)); exact HO_1004.out)) hg hat); replace HO_1005 := Goto.m0 (Kd.Q_after (Kd.Q_apart_nil (by (with_reducible repeat (first | apply Kd.Q_alloc | apply Kd.Q_drewN | apply Kd.Q_drew)); exact HO_1005.out)) hg hat); replace HO_1006 := Goto.m0 (Kd.Q_after (Kd.Q_apart_nil (by (with_reducible repeat (first | apply Kd.Q_alloc | apply Kd.Q_drewN | apply Kd.Q_drew)); exact HO_1006.out)) hg hat); replace HO_1007 := Goto.m0 (Kd.Q_after (Kd.Q_apart_nil (by (with_reducible repeat (first | apply Kd.Q_alloc | apply Kd.Q_drewN | apply Kd.Q_drew)); exact HO_1007.out)) hg hat); replace BK0 := Goto.m0 (blk_grown (g := g) (o := .cells #[.int .i64 a0_0, .int .i64 a0_1, .int .i64 a0_2, .int .i64 a0_3, u9000_, .slice Ao78 l0_5.length co78, u9002_, u9003_] 55 (0, 0)) (Goto.bx BK0) hg (by simp [Value.ownBlock])); replace HO424 := Goto.m0 (Kd.R_after (Kd.R_apart_nil (Goto.rk HO424)) hg hat); replace HB := Goto.m0 (hb); replace HK := Goto.m0 (Kept.of_grown (S := (fun k_ => (P0_4_ k_ ∨ P0_5_ k_ ∨ P0_6_ k_ ∨ P0_7_ k_) ∨ k_ = g)) hg (by repeat (first | (with_reducible first | exact HK.out | apply Kept.alloc | apply Kept.drewN | apply Kept.drew | refine Kept.setCell ?_ (.inl (.inr rfl)) _) | exact HK.out)) (fun k_ e_ => by simp [Value.ownBlock] at e_)); clear ho hb hg hat
              refine hK.out _ _ ⟨(blk_cell BK0.out 0).trans rfl, (blk_cell BK0.out 1).trans rfl, (blk_cell BK0.out 2).trans rfl, (blk_cell BK0.out 3).trans rfl, (blk_cell BK0.out 4).trans rfl, (blk_cell BK0.out 5).trans rfl, (blk_cell BK0.out 6).trans rfl, (blk_cell BK0.out 7).trans rfl⟩ (fun hHeld => ?_)
              clear hK K
              refine norm_ (a' := ?_) ?_ ?_
              rotate_left
              ·
               show Act.put _ (some 51) _ = _
               exact Goto.ap
              exact norm_ (by simp only [putAll, Act.put, List.setIfInBounds_toArray, List.set_cons_zero, List.set_cons_succ]) (hCont (v420, v423) _ ⟨hHeld, (by (with_reducible repeat (first | apply Kd.R_alloc | apply Kd.R_drewN | apply Kd.R_drew)); exact Kd.R_mono HO421.out (fun _ hk => ⟨hk.1, ⟨hk.2.2.2.2.2, ⟨hk.2.1, ⟨hk.2.2.1, ⟨hk.2.2.2.1, hk.2.2.2.2.1⟩⟩⟩⟩⟩)), (by (with_reducible repeat (first | apply Kd.R_alloc | apply Kd.R_drewN | apply Kd.R_drew)); exact Kd.R_mono HO424.out (fun _ hk => ⟨hk.1.1.1.1.1.1, ⟨hk.2, ⟨hk.1.1.1.1.2, ⟨hk.1.1.1.2, ⟨hk.1.1.2, hk.1.2⟩⟩⟩⟩⟩)), (by (with_reducible repeat (first | apply Kd.Q_alloc | apply Kd.Q_drewN | apply Kd.Q_drew)); exact Kd.Q_mono HO_1004.out (fun _ hk => ⟨hk.1.1.1, ⟨hk.2, ⟨hk.1.2, ⟨hk.1.1.2.1, ⟨hk.1.1.2.2.1, hk.1.1.2.2.2⟩⟩⟩⟩⟩)), (by (with_reducible repeat (first | apply Kd.Q_alloc | apply Kd.Q_drewN | apply Kd.Q_drew)); exact Kd.Q_mono HO_1005.out (fun _ hk => ⟨hk.1.1.1, ⟨hk.2, ⟨hk.1.2, ⟨hk.1.1.2.1, ⟨hk.1.1.2.2.1, hk.1.1.2.2.2⟩⟩⟩⟩⟩)), (by (with_reducible repeat (first | apply Kd.Q_alloc | apply Kd.Q_drewN | apply Kd.Q_drew)); exact Kd.Q_mono HO_1006.out (fun _ hk => ⟨hk.1.1.1, ⟨hk.2, ⟨hk.1.2, ⟨hk.1.1.2.1, ⟨hk.1.1.2.2.1, hk.1.1.2.2.2⟩⟩⟩⟩⟩)), (by (with_reducible repeat (first | apply Kd.Q_alloc | apply Kd.Q_drewN | apply Kd.Q_drew)); exact Kd.Q_mono HO_1007.out (fun _ hk => ⟨hk.1.1.1, ⟨hk.2, ⟨hk.1.2, ⟨hk.1.1.2.1, ⟨hk.1.1.2.2.1, hk.1.1.2.2.2⟩⟩⟩⟩⟩)), (Goto.bx BK0), (by repeat (first | (with_reducible first | exact HK.out | apply Kept.alloc | apply Kept.drewN | apply Kept.drew | refine Kept.setCell ?_ (.inl (.inr rfl)) _) | exact HK.out)), (Goto.hx HB)⟩)
            rintro ⟨v420, v423⟩ w83 ⟨hS_, h0_, h1_, h2_, h3_, h4_, h5_, h6_, h7_, h8_⟩
            have n0_ : Aside0 (Kd.R (Kd.int .i64) 3 w83 w0.heap.size (fun k_ => ((P0_4_ k_ ∨ P0_5_ k_ ∨ P0_6_ k_ ∨ P0_7_ k_) ∨ w.heap.size ≤ k_) ∧ some k_ ≠ (v423 : Value).ownBlock ∧ some k_ ≠ (u9000_ : Value).ownBlock ∧ some k_ ≠ (.slice Ao78 l0_5.length co78 : Value).ownBlock ∧ some k_ ≠ (u9002_ : Value).ownBlock ∧ some k_ ≠ (u9003_ : Value).ownBlock) v420 y419) := ⟨h0_⟩
            have n1_ : Aside0 (Kd.R (Kd.int .i64) 3 w83 w0.heap.size (fun k_ => ((P0_4_ k_ ∨ P0_5_ k_ ∨ P0_6_ k_ ∨ P0_7_ k_) ∨ w.heap.size ≤ k_) ∧ some k_ ≠ (v420 : Value).ownBlock ∧ some k_ ≠ (u9000_ : Value).ownBlock ∧ some k_ ≠ (.slice Ao78 l0_5.length co78 : Value).ownBlock ∧ some k_ ≠ (u9002_ : Value).ownBlock ∧ some k_ ≠ (u9003_ : Value).ownBlock) v423 y422) := ⟨h1_⟩
            have n2_ : Aside0 (Kd.Q (Kd.int .i64) 3 w83 w0.heap.size (fun k_ => ((P0_4_ k_ ∨ P0_5_ k_ ∨ P0_6_ k_ ∨ P0_7_ k_) ∨ w.heap.size ≤ k_) ∧ some k_ ≠ (v420 : Value).ownBlock ∧ some k_ ≠ (v423 : Value).ownBlock ∧ some k_ ≠ (.slice Ao78 l0_5.length co78 : Value).ownBlock ∧ some k_ ≠ (u9002_ : Value).ownBlock ∧ some k_ ≠ (u9003_ : Value).ownBlock) u9000_ l0_4) := ⟨h2_⟩
            have n3_ : Aside0 (Kd.Q (Kd.int .i64) 3 w83 w0.heap.size (fun k_ => ((P0_4_ k_ ∨ P0_5_ k_ ∨ P0_6_ k_ ∨ P0_7_ k_) ∨ w.heap.size ≤ k_) ∧ some k_ ≠ (v420 : Value).ownBlock ∧ some k_ ≠ (v423 : Value).ownBlock ∧ some k_ ≠ (u9000_ : Value).ownBlock ∧ some k_ ≠ (u9002_ : Value).ownBlock ∧ some k_ ≠ (u9003_ : Value).ownBlock) (.slice Ao78 l0_5.length co78) l0_5) := ⟨h3_⟩
            have n4_ : Aside0 (Kd.Q (Kd.int .i64) 3 w83 w0.heap.size (fun k_ => ((P0_4_ k_ ∨ P0_5_ k_ ∨ P0_6_ k_ ∨ P0_7_ k_) ∨ w.heap.size ≤ k_) ∧ some k_ ≠ (v420 : Value).ownBlock ∧ some k_ ≠ (v423 : Value).ownBlock ∧ some k_ ≠ (u9000_ : Value).ownBlock ∧ some k_ ≠ (.slice Ao78 l0_5.length co78 : Value).ownBlock ∧ some k_ ≠ (u9003_ : Value).ownBlock) u9002_ l0_6) := ⟨h4_⟩
            have n5_ : Aside0 (Kd.Q (Kd.int .i64) 3 w83 w0.heap.size (fun k_ => ((P0_4_ k_ ∨ P0_5_ k_ ∨ P0_6_ k_ ∨ P0_7_ k_) ∨ w.heap.size ≤ k_) ∧ some k_ ≠ (v420 : Value).ownBlock ∧ some k_ ≠ (v423 : Value).ownBlock ∧ some k_ ≠ (u9000_ : Value).ownBlock ∧ some k_ ≠ (.slice Ao78 l0_5.length co78 : Value).ownBlock ∧ some k_ ≠ (u9002_ : Value).ownBlock) u9003_ l0_7) := ⟨h5_⟩
            have n6_ : Aside0 (w83.heap[g]? = some (.cells #[.int .i64 a0_0, .int .i64 a0_1, .int .i64 a0_2, .int .i64 a0_3, u9000_, .slice Ao78 l0_5.length co78, u9002_, u9003_] 55 (0, 0))) := ⟨h6_⟩
            have n7_ : Aside0 (Kept w w83 (fun k_ => (P0_4_ k_ ∨ P0_5_ k_ ∨ P0_6_ k_ ∨ P0_7_ k_) ∨ k_ = g)) := ⟨h7_⟩
            have n8_ : Aside0 (Below w0.heap.size w0 w83) := ⟨h8_⟩
            clear HO_1004; clear HO_1005; clear HO_1006; clear HO_1007; clear BK0; clear HK; clear HB; clear h0_ h1_ h2_ h3_ h4_ h5_ h6_ h7_ h8_; have HO421 := n0_; have HO424 := n1_; have HO_1004 := n2_; have HO_1005 := n3_; have HO_1006 := n4_; have HO_1007 := n5_; have BK0 := n6_; have HK := n7_; have HB := n8_; clear n0_ n1_ n2_ n3_ n4_ n5_ n6_ n7_ n8_
            have hHeld : w83.cell? ⟨g, 0, none⟩ = some (.int .i64 a0_0) ∧ w83.cell? ⟨g, 1, none⟩ = some (.int .i64 a0_1) ∧ w83.cell? ⟨g, 2, none⟩ = some (.int .i64 a0_2) ∧ w83.cell? ⟨g, 3, none⟩ = some (.int .i64 a0_3) ∧ w83.cell? ⟨g, 4, none⟩ = some (u9000_) ∧ w83.cell? ⟨g, 5, none⟩ = some (.slice Ao78 l0_5.length co78) ∧ w83.cell? ⟨g, 6, none⟩ = some (u9002_) ∧ w83.cell? ⟨g, 7, none⟩ = some (u9003_) := hS_
            obtain ⟨Ao85, co85, eo85⟩ := Kd.R_slice HO424.out
            (first | subst eo85 | (injection eo85 with f1_ f2_ f3_; have f4_ := f1_.symm; have f5_ := f3_.symm; clear f1_ f2_ f3_; subst f4_; subst f5_))
            refine norm_ (a' := ?_) ?_ ?_
            rotate_left
            ·
             simp only [putAll, Act.put, List.setIfInBounds_toArray, List.set_cons_zero, List.set_cons_succ]
             rfl
            refine one_ (i := 11) (N := some 54) (Goto.bs 16 16383) rfl rfl (one_of HT_.out (by kernel_rfl)) (by decide) (fun K hK => ?_)
            refine Kd.R_append_rows_step (Kd.int .i64) (w0 := w0) w0.heap.size (by rfl) (.tmp 51) (.tmp 53) 52 3 (.int .i64 0) 8 rfl Tryd.underlying52 info3 rfl (by decide) (by omega) v420 y419 y422 _ _ _ (fun k_ => ((P0_4_ k_ ∨ P0_5_ k_ ∨ P0_6_ k_ ∨ P0_7_ k_) ∨ w.heap.size ≤ k_) ∧ some k_ ≠ (u9000_ : Value).ownBlock ∧ some k_ ≠ (.slice Ao78 l0_5.length co78 : Value).ownBlock ∧ some k_ ≠ (u9002_ : Value).ownBlock ∧ some k_ ≠ (u9003_ : Value).ownBlock ∧ some k_ ≠ (.slice Ao85 y422.length co85 : Value).ownBlock) (fun _ => False) rfl rfl ?aO ?aR (fun _ _ h => h) (fun _ h => h.elim) ?aF ?aB ?aS ?aL ?_
            (case aR => repeat (first | exact (Kd.R_reads' HO424.out).2.2 | (with_reducible refine Kd.C_alloc ?_ _) | (with_reducible refine Kd.C_drewN ?_ _) | (with_reducible refine Kd.C_drew ?_)))
            (case aB => exact (Goto.hx HB))
            (case aF => exact (fun k_ hk => ⟨(.inr (Nat.le_trans (by first | exact HK.out.1 | exact (show Kept w _ (fun k_ => (P0_4_ k_ ∨ P0_5_ k_ ∨ P0_6_ k_ ∨ P0_7_ k_) ∨ k_ = g) from by repeat (first | (with_reducible first | exact HK.out | apply Kept.alloc | apply Kept.drewN | apply Kept.drew | refine Kept.setCell ?_ (.inl (.inr rfl)) _) | exact HK.out)).1) hk)), Kd.fresh' (Kd.Q_lt (by (with_reducible repeat (first | apply Kd.Q_alloc | apply Kd.Q_drewN | apply Kd.Q_drew)); exact HO_1004.out)) k_ hk, Kd.fresh' (Kd.Q_lt (by (with_reducible repeat (first | apply Kd.Q_alloc | apply Kd.Q_drewN | apply Kd.Q_drew)); exact HO_1005.out)) k_ hk, Kd.fresh' (Kd.Q_lt (by (with_reducible repeat (first | apply Kd.Q_alloc | apply Kd.Q_drewN | apply Kd.Q_drew)); exact HO_1006.out)) k_ hk, Kd.fresh' (Kd.Q_lt (by (with_reducible repeat (first | apply Kd.Q_alloc | apply Kd.Q_drewN | apply Kd.Q_drew)); exact HO_1007.out)) k_ hk, Kd.fresh' (Kd.R_lt (Goto.rk HO424)) k_ hk⟩))
            (case aO => exact (by (with_reducible repeat (first | apply Kd.R_alloc | apply Kd.R_drewN | apply Kd.R_drew)); exact Kd.R_mono HO421.out (fun _ hk => ⟨hk.1, ⟨hk.2.2.1, ⟨hk.2.2.2.1, ⟨hk.2.2.2.2.1, ⟨hk.2.2.2.2.2, hk.2.1⟩⟩⟩⟩⟩)))
            (case aS => exact (below_size (Goto.hx HB)))
            (case aL => have := LMc75.out; omega)
            intro v426 w84 ho hb hg hat
            rw [← Ny425.out] at ho
            have n0_ := Goto.m0 (Kd.Q_after (ok := (fun k_ => ((P0_4_ k_ ∨ P0_5_ k_ ∨ P0_6_ k_ ∨ P0_7_ k_) ∨ w.heap.size ≤ k_) ∧ some k_ ≠ (.slice Ao78 l0_5.length co78 : Value).ownBlock ∧ some k_ ≠ (u9002_ : Value).ownBlock ∧ some k_ ≠ (u9003_ : Value).ownBlock ∧ some k_ ≠ (.slice Ao85 y422.length co85 : Value).ownBlock)) (by (with_reducible repeat (first | apply Kd.Q_alloc | apply Kd.Q_drewN | apply Kd.Q_drew)); exact Kd.Q_mono HO_1004.out (fun _ hk => ⟨⟨hk.1, ⟨hk.2.2.2.1, ⟨hk.2.2.2.2.1, ⟨hk.2.2.2.2.2, hk.2.2.1⟩⟩⟩⟩, hk.2.1⟩)) hg hat)
            have n1_ := Goto.m0 (Kd.Q_after (ok := (fun k_ => ((P0_4_ k_ ∨ P0_5_ k_ ∨ P0_6_ k_ ∨ P0_7_ k_) ∨ w.heap.size ≤ k_) ∧ some k_ ≠ (u9000_ : Value).ownBlock ∧ some k_ ≠ (u9002_ : Value).ownBlock ∧ some k_ ≠ (u9003_ : Value).ownBlock ∧ some k_ ≠ (.slice Ao85 y422.length co85 : Value).ownBlock)) (by (with_reducible repeat (first | apply Kd.Q_alloc | apply Kd.Q_drewN | apply Kd.Q_drew)); exact Kd.Q_mono HO_1005.out (fun _ hk => ⟨⟨hk.1, ⟨hk.2.2.2.1, ⟨hk.2.2.2.2.1, ⟨hk.2.2.2.2.2, hk.2.2.1⟩⟩⟩⟩, hk.2.1⟩)) hg hat)
            have n2_ := Goto.m0 (Kd.Q_after (ok := (fun k_ => ((P0_4_ k_ ∨ P0_5_ k_ ∨ P0_6_ k_ ∨ P0_7_ k_) ∨ w.heap.size ≤ k_) ∧ some k_ ≠ (u9000_ : Value).ownBlock ∧ some k_ ≠ (.slice Ao78 l0_5.length co78 : Value).ownBlock ∧ some k_ ≠ (u9003_ : Value).ownBlock ∧ some k_ ≠ (.slice Ao85 y422.length co85 : Value).ownBlock)) (by (with_reducible repeat (first | apply Kd.Q_alloc | apply Kd.Q_drewN | apply Kd.Q_drew)); exact Kd.Q_mono HO_1006.out (fun _ hk => ⟨⟨hk.1, ⟨hk.2.2.2.1, ⟨hk.2.2.2.2.1, ⟨hk.2.2.2.2.2, hk.2.2.1⟩⟩⟩⟩, hk.2.1⟩)) hg hat)
            have n3_ := Goto.m0 (Kd.Q_after (ok := (fun k_ => ((P0_4_ k_ ∨ P0_5_ k_ ∨ P0_6_ k_ ∨ P0_7_ k_) ∨ w.heap.size ≤ k_) ∧ some k_ ≠ (u9000_ : Value).ownBlock ∧ some k_ ≠ (.slice Ao78 l0_5.length co78 : Value).ownBlock ∧ some k_ ≠ (u9002_ : Value).ownBlock ∧ some k_ ≠ (.slice Ao85 y422.length co85 : Value).ownBlock)) (by (with_reducible repeat (first | apply Kd.Q_alloc | apply Kd.Q_drewN | apply Kd.Q_drew)); exact Kd.Q_mono HO_1007.out (fun _ hk => ⟨⟨hk.1, ⟨hk.2.2.2.1, ⟨hk.2.2.2.2.1, ⟨hk.2.2.2.2.2, hk.2.2.1⟩⟩⟩⟩, hk.2.1⟩)) hg hat)
            have n4_ := Goto.m0 (blk_grown (g := g) (o := .cells #[.int .i64 a0_0, .int .i64 a0_1, .int .i64 a0_2, .int .i64 a0_3, u9000_, .slice Ao78 l0_5.length co78, u9002_, u9003_] 55 (0, 0)) (Goto.bx BK0) hg (Kd.R_ne HO421.out BK0.out (by decide)))
            have n5_ := Goto.m0 (Kd.R_after (ok := (fun k_ => ((P0_4_ k_ ∨ P0_5_ k_ ∨ P0_6_ k_ ∨ P0_7_ k_) ∨ w.heap.size ≤ k_) ∧ some k_ ≠ (u9000_ : Value).ownBlock ∧ some k_ ≠ (.slice Ao78 l0_5.length co78 : Value).ownBlock ∧ some k_ ≠ (u9002_ : Value).ownBlock ∧ some k_ ≠ (u9003_ : Value).ownBlock)) (by (with_reducible repeat (first | apply Kd.R_alloc | apply Kd.R_drewN | apply Kd.R_drew)); exact Kd.R_mono HO424.out (fun _ hk => ⟨⟨hk.1, ⟨hk.2.2.1, ⟨hk.2.2.2.1, ⟨hk.2.2.2.2.1, hk.2.2.2.2.2⟩⟩⟩⟩, hk.2.1⟩)) hg hat)
            have n6_ := Goto.m0 (hb)
            have n7_ := Goto.m0 (Kept.of_grown (S := (fun k_ => (P0_4_ k_ ∨ P0_5_ k_ ∨ P0_6_ k_ ∨ P0_7_ k_) ∨ k_ = g)) hg (by repeat (first | (with_reducible first | exact HK.out | apply Kept.alloc | apply Kept.drewN | apply Kept.drew | refine Kept.setCell ?_ (.inl (.inr rfl)) _) | exact HK.out)) (fun k_ e_ => Or.imp_left Or.inl ((HO421.out.1 k_ e_).1)))
            have n8_ := Goto.m0 (ho)
            clear HO_1004; clear HO_1005; clear HO_1006; clear HO_1007; clear BK0; clear HO424; clear HB; clear HK; clear HO421; have HO_1004 := n0_; have HO_1005 := n1_; have HO_1006 := n2_; have HO_1007 := n3_; have BK0 := n4_; have HO424 := n5_; have HB := n6_; have HK := n7_; have HO427 := n8_; clear n0_ n1_ n2_ n3_ n4_ n5_ n6_ n7_ n8_; clear ho hb hg hat
            obtain ⟨Ao86, co86, eo86⟩ := Kd.R_slice HO427.out
            (first | subst eo86 | (injection eo86 with f1_ f2_ f3_; have f4_ := f1_.symm; have f5_ := f3_.symm; clear f1_ f2_ f3_; subst f4_; subst f5_))
            refine hK.out _ _ ⟨(blk_cell BK0.out 0).trans rfl, (blk_cell BK0.out 1).trans rfl, (blk_cell BK0.out 2).trans rfl, (blk_cell BK0.out 3).trans rfl, (blk_cell BK0.out 4).trans rfl, (blk_cell BK0.out 5).trans rfl, (blk_cell BK0.out 6).trans rfl, (blk_cell BK0.out 7).trans rfl⟩ (fun hHeld => ?_)
            clear hK K
            refine norm_ (a' := ?_) ?_ ?_
            rotate_left
            ·
             show Act.put _ (some 54) _ = _
             exact Goto.ap
            refine Goto.pu 14 57 16 32767 ?_
            refine last_ (i := 15) (N := none) (Goto.bs 16 65535) rfl rfl (one_of HT_.out (by kernel_rfl)) (by decide) (fun K hK => ?_)
            have hs87 : w84.cell? ⟨g, 5, none⟩ = some (.slice Ao78 l0_5.length co78) := (blk_cell BK0.out 5).trans rfl; have hfs87 := Goto.bf BK0 5
            refine skip_ (w1 := ?_) (by rfl) rfl ?_ ?_
            rotate_left
            ·
             go_simp
             rfl
            refine hK.out _ _ ?_
            clear hK K
            refine done_ (done_of HT_.out (by kernel_rfl)) ?_
            try go_wp2
            go_ret2
            (try simp only [← exists_and_left])
            exact ⟨_, _, _, _, Goto.er, by (with_reducible repeat (first | apply Kd.Q_alloc | apply Kd.Q_drewN | apply Kd.Q_drew)); exact Kd.Q_mono (Kd.Q_far (p := ⟨g, 5, none⟩) (Kd.Q_types HO_1004.out BK0.out (by decide)) (fun _ hk => hk.2) (.slice Ao86 y425.length co86)) (fun _ hk => ⟨hk.1.1.1, ⟨hk.1.2, ⟨hk.1.1.2.2.1, hk.1.1.2.2.2.1⟩⟩⟩), Kd.Q_of_R (by (with_reducible repeat (first | apply Kd.R_alloc | apply Kd.R_drewN | apply Kd.R_drew)); exact Kd.R_mono (Kd.R_far (p := ⟨g, 5, none⟩) (Kd.R_types HO427.out BK0.out (by decide)) (fun _ hk => hk.2) (.slice Ao86 y425.length co86)) (fun _ hk => ⟨hk.1.1, ⟨hk.1.2.1, ⟨hk.1.2.2.2.1, hk.1.2.2.2.2.1⟩⟩⟩)), by (with_reducible repeat (first | apply Kd.Q_alloc | apply Kd.Q_drewN | apply Kd.Q_drew)); exact Kd.Q_mono (Kd.Q_far (p := ⟨g, 5, none⟩) (Kd.Q_types HO_1006.out BK0.out (by decide)) (fun _ hk => hk.2) (.slice Ao86 y425.length co86)) (fun _ hk => ⟨hk.1.1.1, ⟨hk.1.1.2.1, ⟨hk.1.2, hk.1.1.2.2.2.1⟩⟩⟩), by (with_reducible repeat (first | apply Kd.Q_alloc | apply Kd.Q_drewN | apply Kd.Q_drew)); exact Kd.Q_mono (Kd.Q_far (p := ⟨g, 5, none⟩) (Kd.Q_types HO_1007.out BK0.out (by decide)) (fun _ hk => hk.2) (.slice Ao86 y425.length co86)) (fun _ hk => ⟨hk.1.1.1, ⟨hk.1.1.2.1, ⟨hk.1.2, hk.1.1.2.2.2.1⟩⟩⟩), by (with_reducible repeat first | refine blk_drewN ?_ _ | refine blk_drew ?_ | refine blk_alloc ?_ _); refine blk_put (cs := #[.int .i64 a0_0, .int .i64 a0_1, .int .i64 a0_2, .int .i64 a0_3, u9000_, .slice Ao78 l0_5.length co78, u9002_, u9003_]) ?_ 5 _ rfl; (with_reducible repeat first | refine blk_drewN ?_ _ | refine blk_drew ?_ | refine blk_alloc ?_ _); exact BK0.out, by repeat (first | (with_reducible first | exact HB.out | apply below_alloc | apply pw_below_drewN | apply below_drew1 | refine below_set ?_ GE0.out) | exact HB.out), by repeat (first | (with_reducible first | exact HK.out | apply Kept.alloc | apply Kept.drewN | apply Kept.drew | refine Kept.setCell ?_ (.inl (.inr rfl)) _) | exact HK.out)⟩
           ·
            rw [if_neg c75] at H
            exact absurd H (by simp)
          ·
           rw [if_neg c74] at H
           exact absurd H (by simp)
        ·
         rw [if_neg c65] at H
         have c65b0 : (a2 == 1) = false := beq_eq_false_iff_ne.mpr c65
         have c65b1 : (a2 != 1) = true := bne_iff_ne.mpr c65
         by_cases c88 : a2 = 2
         ·
          rw [if_pos c88] at H
          have c88b0 : (a2 == 2) = true := beq_iff_eq.mpr c88
          have c88b1 : (a2 != 2) = false := bne_eq_false_iff_eq.mpr c88
          clear c88
          have hix89e : a2 = 2 := eq_of_beq (by first | (with_reducible assumption) | assumption)
          have hix89 : (a2).toNat = 2 := by rw [hix89e]; rfl
          have hix89c : (0 ≤ a2 ∧ a2 < (4 : Int)) = True := eq_true (by rw [hix89e]; decide)
          clear hix89e
          by_cases c90 : a0_2 > 0
          ·
           rw [if_pos c90] at H
           have c90b0 : decide (0 < a0_2) = true := decide_eq_true c90
           clear c90
           have hix91e : a2 = 2 := eq_of_beq (by first | (with_reducible assumption) | assumption)
           have hix91 : (a2).toNat = 2 := by rw [hix91e]; rfl
           have hix91c : (0 ≤ a2 ∧ a2 < (4 : Int)) = True := eq_true (by rw [hix91e]; decide)
           clear hix91e
           have hix92e : a2 = 2 := eq_of_beq (by first | (with_reducible assumption) | assumption)
           have hix92 : (a2).toNat = 2 := by rw [hix92e]; rfl
           have hix92c : (0 ≤ a2 ∧ a2 < (4 : Int)) = True := eq_true (by rw [hix92e]; decide)
           clear hix92e
           simp only [Option.some.injEq, Prod.mk.injEq] at H
           obtain ⟨rfl, rfl, rfl, rfl, rfl, rfl, rfl, rfl, rfl, rfl⟩ := H
           have hcz93_0 := Goto.bc0 BK0; have hcz93_1 := Goto.bc1 BK0; have hcz93_2 := Goto.bc2 BK0; have hcz93_3 := Goto.bc3 BK0; have hcz93_4 := Goto.bc4 BK0; have hcz93_5 := Goto.bc5 BK0; have hcz93_6 := Goto.bc6 BK0; have hcz93_7 := Goto.bc7 BK0; have hfz93_0 := Goto.bf BK0 0; have hfz93_1 := Goto.bf BK0 1; have hfz93_2 := Goto.bf BK0 2; have hfz93_3 := Goto.bf BK0 3; have hfz93_4 := Goto.bf BK0 4; have hfz93_5 := Goto.bf BK0 5; have hfz93_6 := Goto.bf BK0 6; have hfz93_7 := Goto.bf BK0 7
           try go_wp2
           replace HO_1004 := Goto.m0 (Kd.Q_drew HO_1004.out); replace HO_1005 := Goto.m0 (Kd.Q_drew HO_1005.out); replace HO_1006 := Goto.m0 (Kd.Q_drew HO_1006.out); replace HO_1007 := Goto.m0 (Kd.Q_drew HO_1007.out); replace BK0 := Goto.m0 (blk_drew BK0.out); replace HK := Goto.m0 (Kept.drew HK.out); replace HB := Goto.m0 (below_drew1 HB.out)
           refine start_ (n := 13) (S := fun w' => w'.cell? ⟨g, 0, none⟩ = some (.int .i64 a0_0) ∧ w'.cell? ⟨g, 1, none⟩ = some (.int .i64 a0_1) ∧ w'.cell? ⟨g, 2, none⟩ = some (.int .i64 a0_2) ∧ w'.cell? ⟨g, 3, none⟩ = some (.int .i64 a0_3) ∧ w'.cell? ⟨g, 4, none⟩ = some (u9000_) ∧ w'.cell? ⟨g, 5, none⟩ = some (u9001_) ∧ w'.cell? ⟨g, 6, none⟩ = some (u9002_) ∧ w'.cell? ⟨g, 7, none⟩ = some (u9003_)) (ds := [12]) (.replicate 13 false) (by kernel_rfl) rfl rfl ⟨(blk_cell BK0.out 0).trans rfl, (blk_cell BK0.out 1).trans rfl, (blk_cell BK0.out 2).trans rfl, (blk_cell BK0.out 3).trans rfl, (blk_cell BK0.out 4).trans rfl, (blk_cell BK0.out 5).trans rfl, (blk_cell BK0.out 6).trans rfl, (blk_cell BK0.out 7).trans rfl⟩ (fun hHeld => ?_); refine with_tabW tontineref8_Objects_Wait.tab9 tontineref8_Objects_Wait.bits9 (fun HT_ HW_ => ?_)
           generalize wr.drew = w94 at HO_1004 HO_1005 HO_1006 HO_1007 BK0 HK HB hHeld ⊢
           refine Goto.pu 0 31 13 1 ?_
           refine Goto.pu 1 32 13 3 ?_
           refine Goto.pu 2 33 13 7 ?_
           refine Goto.pu 3 34 13 15 ?_
           refine Goto.pu 4 35 13 31 ?_
           refine Goto.pu 5 36 13 63 ?_
           refine Goto.pu 6 37 13 127 ?_
           refine Goto.pu 9 40 13 639 ?_
           refine Goto.pu 10 41 13 1663 ?_
           refine take_ (i := 7) (N := some 38) (v := ?_) (a' := ?_) (Goto.bs 13 1791) rfl rfl (take_ofW HT_.out HW_.out (by kernel_rfl)) (fun _ _ _ h => h) (Or.inl ⟨by rfl, ?_⟩) hHeld ?_ ?_
           rotate_left
           ·
            rintro w' ⟨s0, s1, s2, s3, s4, s5, s6, s7⟩
            go_simp
            with_reducible rfl
           rotate_left
           ·
            exact Goto.ap
           refine Goto.pu 8 39 13 2047 ?_
           refine Goto.pu 11 42 13 4095 ?_
           refine last_ (i := 12) (N := none) (Goto.bs 13 8191) rfl rfl (one_of HT_.out (by kernel_rfl)) (by decide) (fun K hK => ?_)
           have hs95 : w94.cell? ⟨g, 2, none⟩ = some (.int .i64 a0_2) := (blk_cell BK0.out 2).trans rfl; have hfs95 := Goto.bf BK0 2
           refine skip_ (w1 := ?_) (by rfl) rfl ?_ ?_
           rotate_left
           ·
            go_simp
            rfl
           refine hK.out _ _ ?_
           clear hK K
           refine done_ (done_of HT_.out (by kernel_rfl)) ?_
           try go_wp2
           go_ret2
           (try simp only [← exists_and_left])
           exact ⟨_, _, _, _, Goto.er, by (with_reducible repeat (first | apply Kd.Q_alloc | apply Kd.Q_drewN | apply Kd.Q_drew)); exact Kd.Q_mono (Kd.Q_far (p := ⟨g, 2, none⟩) (Kd.Q_types HO_1004.out BK0.out (by decide)) (fun _ hk => hk.2) (.int .i64 (wrap64 (a0_2 - 1)))) (fun _ hk => ⟨hk.1.1, ⟨hk.1.2.1, ⟨hk.1.2.2.1, hk.1.2.2.2⟩⟩⟩), by (with_reducible repeat (first | apply Kd.Q_alloc | apply Kd.Q_drewN | apply Kd.Q_drew)); exact Kd.Q_mono (Kd.Q_far (p := ⟨g, 2, none⟩) (Kd.Q_types HO_1005.out BK0.out (by decide)) (fun _ hk => hk.2) (.int .i64 (wrap64 (a0_2 - 1)))) (fun _ hk => ⟨hk.1.1, ⟨hk.1.2.1, ⟨hk.1.2.2.1, hk.1.2.2.2⟩⟩⟩), by (with_reducible repeat (first | apply Kd.Q_alloc | apply Kd.Q_drewN | apply Kd.Q_drew)); exact Kd.Q_mono (Kd.Q_far (p := ⟨g, 2, none⟩) (Kd.Q_types HO_1006.out BK0.out (by decide)) (fun _ hk => hk.2) (.int .i64 (wrap64 (a0_2 - 1)))) (fun _ hk => ⟨hk.1.1, ⟨hk.1.2.1, ⟨hk.1.2.2.1, hk.1.2.2.2⟩⟩⟩), by (with_reducible repeat (first | apply Kd.Q_alloc | apply Kd.Q_drewN | apply Kd.Q_drew)); exact Kd.Q_mono (Kd.Q_far (p := ⟨g, 2, none⟩) (Kd.Q_types HO_1007.out BK0.out (by decide)) (fun _ hk => hk.2) (.int .i64 (wrap64 (a0_2 - 1)))) (fun _ hk => ⟨hk.1.1, ⟨hk.1.2.1, ⟨hk.1.2.2.1, hk.1.2.2.2⟩⟩⟩), by (with_reducible repeat first | refine blk_drewN ?_ _ | refine blk_drew ?_ | refine blk_alloc ?_ _); refine blk_put (cs := #[.int .i64 a0_0, .int .i64 a0_1, .int .i64 a0_2, .int .i64 a0_3, u9000_, u9001_, u9002_, u9003_]) ?_ 2 _ rfl; (with_reducible repeat first | refine blk_drewN ?_ _ | refine blk_drew ?_ | refine blk_alloc ?_ _); exact BK0.out, by repeat (first | (with_reducible first | exact HB.out | apply below_alloc | apply pw_below_drewN | apply below_drew1 | refine below_set ?_ GE0.out) | exact HB.out), by repeat (first | (with_reducible first | exact HK.out | apply Kept.alloc | apply Kept.drewN | apply Kept.drew | refine Kept.setCell ?_ (.inl (.inr rfl)) _) | exact HK.out)⟩
          ·
           rw [if_neg c90] at H
           have c90b0 : decide (0 < a0_2) = false := decide_eq_false c90
           clear c90
           have hix96e : a2 = 2 := eq_of_beq (by first | (with_reducible assumption) | assumption)
           have hix96 : (a2).toNat = 2 := by rw [hix96e]; rfl
           have hix96c : (0 ≤ a2 ∧ a2 < (4 : Int)) = True := eq_true (by rw [hix96e]; decide)
           clear hix96e
           by_cases c97 : ([] : List Int).length + l0_6.length < 17592186044416
           ·
            rw [if_pos c97] at H
            have LMc97 := Goto.m0 c97
            clear c97
            obtain ⟨y428, hy428⟩ : ∃ y_ : List Int, y_ = (([] : List Int) ++ l0_6) := ⟨_, rfl⟩
            replace H : ((some (([a1] : List Int) : List Int)).bind fun y431 => (if y428.length + y431.length < 17592186044416 then (some (false, 0, a0_0, a0_1, a0_2, a0_3, l0_4, l0_5, (y428 ++ y431), l0_7)) else (none))) = some (r1, r2, r3, r4, r5, r6, r7, r8, r9, r10) := by first | (rw [hy428]; with_reducible exact H) | (have H2_ := (Option.bind_some _ _).symm.trans H; rw [hy428]; with_reducible exact H2_) | (have H2_ := (Option.bind_some _ _).symm.trans H; with_reducible exact H2_) | with_reducible exact H | (rw [hy428]; exact H) | exact H
            have Ny428 := Goto.m0 hy428
            clear hy428
            obtain ⟨y431, hy431⟩ : ∃ y_ : List Int, y_ = (([a1] : List Int)) := ⟨_, rfl⟩
            replace H : (if y428.length + y431.length < 17592186044416 then (some (false, 0, a0_0, a0_1, a0_2, a0_3, l0_4, l0_5, (y428 ++ y431), l0_7)) else (none)) = some (r1, r2, r3, r4, r5, r6, r7, r8, r9, r10) := by first | (rw [hy431]; with_reducible exact H) | (have H2_ := (Option.bind_some _ _).symm.trans H; rw [hy431]; with_reducible exact H2_) | (have H2_ := (Option.bind_some _ _).symm.trans H; with_reducible exact H2_) | with_reducible exact H | (rw [hy431]; exact H) | exact H
            have Ny431 := Goto.m0 hy431
            clear hy431
            by_cases c98 : y428.length + y431.length < 17592186044416
            ·
             rw [if_pos c98] at H
             have LMc98 := Goto.m0 c98
             clear c98
             obtain ⟨y434, hy434⟩ : ∃ y_ : List Int, y_ = (y428 ++ y431) := ⟨_, rfl⟩
             replace H : (some (false, 0, a0_0, a0_1, a0_2, a0_3, l0_4, l0_5, y434, l0_7)) = some (r1, r2, r3, r4, r5, r6, r7, r8, r9, r10) := by first | (rw [hy434]; with_reducible exact H) | (have H2_ := (Option.bind_some _ _).symm.trans H; rw [hy434]; with_reducible exact H2_) | (have H2_ := (Option.bind_some _ _).symm.trans H; with_reducible exact H2_) | with_reducible exact H | (rw [hy434]; exact H) | exact H
             have Ny434 := Goto.m0 hy434
             clear hy434
             have hix99e : a2 = 2 := eq_of_beq (by first | (with_reducible assumption) | assumption)
             have hix99 : (a2).toNat = 2 := by rw [hix99e]; rfl
             have hix99c : (0 ≤ a2 ∧ a2 < (4 : Int)) = True := eq_true (by rw [hix99e]; decide)
             clear hix99e
             simp only [Option.some.injEq, Prod.mk.injEq] at H
             obtain ⟨rfl, rfl, rfl, rfl, rfl, rfl, rfl, rfl, rfl, rfl⟩ := H
             have hcz100_0 := Goto.bc0 BK0; have hcz100_1 := Goto.bc1 BK0; have hcz100_2 := Goto.bc2 BK0; have hcz100_3 := Goto.bc3 BK0; have hcz100_4 := Goto.bc4 BK0; have hcz100_5 := Goto.bc5 BK0; have hcz100_6 := Goto.bc6 BK0; have hcz100_7 := Goto.bc7 BK0; have hfz100_0 := Goto.bf BK0 0; have hfz100_1 := Goto.bf BK0 1; have hfz100_2 := Goto.bf BK0 2; have hfz100_3 := Goto.bf BK0 3; have hfz100_4 := Goto.bf BK0 4; have hfz100_5 := Goto.bf BK0 5; have hfz100_6 := Goto.bf BK0 6; have hfz100_7 := Goto.bf BK0 7
             obtain ⟨Ao101, co101, eo101, _⟩ := Kd.Q_slice HO_1006.out
             subst eo101
             try go_wp2
             replace HO_1004 := Goto.m0 (Kd.Q_drew HO_1004.out); replace HO_1005 := Goto.m0 (Kd.Q_drew HO_1005.out); replace HO_1006 := Goto.m0 (Kd.Q_drew HO_1006.out); replace HO_1007 := Goto.m0 (Kd.Q_drew HO_1007.out); replace BK0 := Goto.m0 (blk_drew BK0.out); replace HK := Goto.m0 (Kept.drew HK.out); replace HB := Goto.m0 (below_drew1 HB.out)
             refine start_ (n := 16) (S := fun w' => w'.cell? ⟨g, 0, none⟩ = some (.int .i64 a0_0) ∧ w'.cell? ⟨g, 1, none⟩ = some (.int .i64 a0_1) ∧ w'.cell? ⟨g, 2, none⟩ = some (.int .i64 a0_2) ∧ w'.cell? ⟨g, 3, none⟩ = some (.int .i64 a0_3) ∧ w'.cell? ⟨g, 4, none⟩ = some (u9000_) ∧ w'.cell? ⟨g, 5, none⟩ = some (u9001_) ∧ w'.cell? ⟨g, 6, none⟩ = some (.slice Ao101 l0_6.length co101) ∧ w'.cell? ⟨g, 7, none⟩ = some (u9003_)) (ds := [15]) (.replicate 16 false) (by kernel_rfl) rfl rfl ⟨(blk_cell BK0.out 0).trans rfl, (blk_cell BK0.out 1).trans rfl, (blk_cell BK0.out 2).trans rfl, (blk_cell BK0.out 3).trans rfl, (blk_cell BK0.out 4).trans rfl, (blk_cell BK0.out 5).trans rfl, (blk_cell BK0.out 6).trans rfl, (blk_cell BK0.out 7).trans rfl⟩ (fun hHeld => ?_); refine with_tabW tontineref8_Objects_Wait.tab11 tontineref8_Objects_Wait.bits11 (fun HT_ HW_ => ?_)
             generalize wr.drew = w102 at HO_1004 HO_1005 HO_1006 HO_1007 BK0 HK HB hHeld ⊢
             refine Goto.pu 0 43 16 1 ?_
             refine Goto.pu 1 44 16 3 ?_
             refine Goto.pu 2 45 16 7 ?_
             refine Goto.pu 3 46 16 15 ?_
             refine Goto.pu 4 47 16 31 ?_
             refine Goto.pu 5 48 16 63 ?_
             refine Goto.pu 6 49 16 127 ?_
             refine Goto.pu 9 52 16 639 ?_
             refine Goto.pu 12 55 16 4735 ?_
             refine Goto.pu 13 56 16 12927 ?_
             refine take_ (i := 7) (N := some 50) (v := ?_) (a' := ?_) (Goto.bs 16 13055) rfl rfl (take_ofW HT_.out HW_.out (by kernel_rfl)) (fun _ _ _ h => h) (Or.inl ⟨by rfl, ?_⟩) hHeld ?_ ?_
             rotate_left
             ·
              rintro w' ⟨s0, s1, s2, s3, s4, s5, s6, s7⟩
              go_simp
              with_reducible rfl
             rotate_left
             ·
              exact Goto.ap
             refine join_ (σ := Value × Value) 3 (Goto.bs 16 14335) (fun s_ => [(51, s_.1), (53, s_.2)]) (fun s_ w' => (w'.cell? ⟨g, 0, none⟩ = some (.int .i64 a0_0) ∧ w'.cell? ⟨g, 1, none⟩ = some (.int .i64 a0_1) ∧ w'.cell? ⟨g, 2, none⟩ = some (.int .i64 a0_2) ∧ w'.cell? ⟨g, 3, none⟩ = some (.int .i64 a0_3) ∧ w'.cell? ⟨g, 4, none⟩ = some (u9000_) ∧ w'.cell? ⟨g, 5, none⟩ = some (u9001_) ∧ w'.cell? ⟨g, 6, none⟩ = some (.slice Ao101 l0_6.length co101) ∧ w'.cell? ⟨g, 7, none⟩ = some (u9003_)) ∧ (Kd.R (Kd.int .i64) 3 w' w0.heap.size (fun k_ => ((P0_4_ k_ ∨ P0_5_ k_ ∨ P0_6_ k_ ∨ P0_7_ k_) ∨ w.heap.size ≤ k_) ∧ some k_ ≠ (s_.2 : Value).ownBlock ∧ some k_ ≠ (u9000_ : Value).ownBlock ∧ some k_ ≠ (u9001_ : Value).ownBlock ∧ some k_ ≠ (.slice Ao101 l0_6.length co101 : Value).ownBlock ∧ some k_ ≠ (u9003_ : Value).ownBlock) s_.1 y428) ∧ (Kd.R (Kd.int .i64) 3 w' w0.heap.size (fun k_ => ((P0_4_ k_ ∨ P0_5_ k_ ∨ P0_6_ k_ ∨ P0_7_ k_) ∨ w.heap.size ≤ k_) ∧ some k_ ≠ (s_.1 : Value).ownBlock ∧ some k_ ≠ (u9000_ : Value).ownBlock ∧ some k_ ≠ (u9001_ : Value).ownBlock ∧ some k_ ≠ (.slice Ao101 l0_6.length co101 : Value).ownBlock ∧ some k_ ≠ (u9003_ : Value).ownBlock) s_.2 y431) ∧ (Kd.Q (Kd.int .i64) 3 w' w0.heap.size (fun k_ => ((P0_4_ k_ ∨ P0_5_ k_ ∨ P0_6_ k_ ∨ P0_7_ k_) ∨ w.heap.size ≤ k_) ∧ some k_ ≠ (s_.1 : Value).ownBlock ∧ some k_ ≠ (s_.2 : Value).ownBlock ∧ some k_ ≠ (u9001_ : Value).ownBlock ∧ some k_ ≠ (.slice Ao101 l0_6.length co101 : Value).ownBlock ∧ some k_ ≠ (u9003_ : Value).ownBlock) u9000_ l0_4) ∧ (Kd.Q (Kd.int .i64) 3 w' w0.heap.size (fun k_ => ((P0_4_ k_ ∨ P0_5_ k_ ∨ P0_6_ k_ ∨ P0_7_ k_) ∨ w.heap.size ≤ k_) ∧ some k_ ≠ (s_.1 : Value).ownBlock ∧ some k_ ≠ (s_.2 : Value).ownBlock ∧ some k_ ≠ (u9000_ : Value).ownBlock ∧ some k_ ≠ (.slice Ao101 l0_6.length co101 : Value).ownBlock ∧ some k_ ≠ (u9003_ : Value).ownBlock) u9001_ l0_5) ∧ (Kd.Q (Kd.int .i64) 3 w' w0.heap.size (fun k_ => ((P0_4_ k_ ∨ P0_5_ k_ ∨ P0_6_ k_ ∨ P0_7_ k_) ∨ w.heap.size ≤ k_) ∧ some k_ ≠ (s_.1 : Value).ownBlock ∧ some k_ ≠ (s_.2 : Value).ownBlock ∧ some k_ ≠ (u9000_ : Value).ownBlock ∧ some k_ ≠ (u9001_ : Value).ownBlock ∧ some k_ ≠ (u9003_ : Value).ownBlock) (.slice Ao101 l0_6.length co101) l0_6) ∧ (Kd.Q (Kd.int .i64) 3 w' w0.heap.size (fun k_ => ((P0_4_ k_ ∨ P0_5_ k_ ∨ P0_6_ k_ ∨ P0_7_ k_) ∨ w.heap.size ≤ k_) ∧ some k_ ≠ (s_.1 : Value).ownBlock ∧ some k_ ≠ (s_.2 : Value).ownBlock ∧ some k_ ≠ (u9000_ : Value).ownBlock ∧ some k_ ≠ (u9001_ : Value).ownBlock ∧ some k_ ≠ (.slice Ao101 l0_6.length co101 : Value).ownBlock) u9003_ l0_7) ∧ (w'.heap[g]? = some (.cells #[.int .i64 a0_0, .int .i64 a0_1, .int .i64 a0_2, .int .i64 a0_3, u9000_, u9001_, .slice Ao101 l0_6.length co101, u9003_] 55 (0, 0))) ∧ (Kept w w' (fun k_ => (P0_4_ k_ ∨ P0_5_ k_ ∨ P0_6_ k_ ∨ P0_7_ k_) ∨ k_ = g)) ∧ (Below w0.heap.size w0 w')) ?_ ?_
             rotate_left
             ·
              intro hCont
              refine two_ (i := 8) (j := 10) (Ni := some 51) (Nj := some 53) (Goto.bs 16 13311) (Goto.bs 16 14079) rfl rfl rfl rfl (two_of HT_.out (by kernel_rfl)) (by decide) (by decide) (fun K hK => ?_) (fun K hK => ?_)
              ·
               skip
               refine Kd.R_append_rows_step (Kd.int .i64) (w0 := w0) w0.heap.size rfl (.const (.slice none 0 0)) (.tmp 50) 52 3 (.int .i64 0) 8 rfl Tryd.underlying52 info3 rfl (by decide) (by omega) (.slice none 0 0) ([] : List Int) l0_6 _ _ _ (fun k_ => ((P0_4_ k_ ∨ P0_5_ k_ ∨ P0_6_ k_ ∨ P0_7_ k_) ∨ w.heap.size ≤ k_) ∧ some k_ ≠ (u9000_ : Value).ownBlock ∧ some k_ ≠ (u9001_ : Value).ownBlock ∧ some k_ ≠ (.slice Ao101 l0_6.length co101 : Value).ownBlock ∧ some k_ ≠ (u9003_ : Value).ownBlock) (fun _ => False) rfl rfl ?aO ?aR (fun _ _ h => h) (fun _ h => h.elim) ?aF ?aB ?aS ?aL ?_
               (case aR => repeat (first | exact (Kd.Q_reads' HO_1006.out).2.2 | (with_reducible refine Kd.C_alloc ?_ _) | (with_reducible refine Kd.C_drewN ?_ _) | (with_reducible refine Kd.C_drew ?_)))
               (case aB => exact (Goto.hx HB))
               (case aF => exact (fun k_ hk => ⟨(.inr (Nat.le_trans (by first | exact HK.out.1 | exact (show Kept w _ (fun k_ => (P0_4_ k_ ∨ P0_5_ k_ ∨ P0_6_ k_ ∨ P0_7_ k_) ∨ k_ = g) from by repeat (first | (with_reducible first | exact HK.out | apply Kept.alloc | apply Kept.drewN | apply Kept.drew | refine Kept.setCell ?_ (.inl (.inr rfl)) _) | exact HK.out)).1) hk)), Kd.fresh' (Kd.Q_lt (by (with_reducible repeat (first | apply Kd.Q_alloc | apply Kd.Q_drewN | apply Kd.Q_drew)); exact HO_1004.out)) k_ hk, Kd.fresh' (Kd.Q_lt (by (with_reducible repeat (first | apply Kd.Q_alloc | apply Kd.Q_drewN | apply Kd.Q_drew)); exact HO_1005.out)) k_ hk, Kd.fresh' (Kd.Q_lt (by (with_reducible repeat (first | apply Kd.Q_alloc | apply Kd.Q_drewN | apply Kd.Q_drew)); exact HO_1006.out)) k_ hk, Kd.fresh' (Kd.Q_lt (by (with_reducible repeat (first | apply Kd.Q_alloc | apply Kd.Q_drewN | apply Kd.Q_drew)); exact HO_1007.out)) k_ hk⟩))
               (case aO => exact ((Kd.R_nil _ _ _ _ (fun k_ => ((P0_4_ k_ ∨ P0_5_ k_ ∨ P0_6_ k_ ∨ P0_7_ k_) ∨ w.heap.size ≤ k_) ∧ some k_ ≠ (u9000_ : Value).ownBlock ∧ some k_ ≠ (u9001_ : Value).ownBlock ∧ some k_ ≠ (.slice Ao101 l0_6.length co101 : Value).ownBlock ∧ some k_ ≠ (u9003_ : Value).ownBlock))))
               (case aS => exact (below_size (Goto.hx HB)))
               (case aL => have := LMc97.out; omega)
               intro v429 w103 ho hb hg hat
               rw [← Ny428.out] at ho
               have HO430 := Goto.m0 (ho); replace HO_1004 := Goto.m0 (Kd.Q_after (Kd.Q_apart_nil (by (with_reducible repeat (first | apply Kd.Q_alloc | apply Kd.Q_drewN | apply Kd.Q_drew)); exact HO_1004.out)) hg hat); replace HO_1005 := Goto.m0 (Kd.Q_after (Kd.Q_apart_nil (by (with_reducible repeat (first | apply Kd.Q_alloc | apply Kd.Q_drewN | apply Kd.Q_drew)); exact HO_1005.out)) hg hat); replace HO_1006 := Goto.m0 (Kd.Q_after (Kd.Q_apart_nil (by (with_reducible repeat (first | apply Kd.Q_alloc | apply Kd.Q_drewN | apply Kd.Q_drew)); exact HO_1006.out)) hg hat); replace HO_1007 := Goto.m0 (Kd.Q_after (Kd.Q_apart_nil (by (with_reducible repeat (first | apply Kd.Q_alloc | apply Kd.Q_drewN | apply Kd.Q_drew)); exact HO_1007.out)) hg hat); replace BK0 := Goto.m0 (blk_grown (g := g) (o := .cells #[.int .i64 a0_0, .int .i64 a0_1, .int .i64 a0_2, .int .i64 a0_3, u9000_, u9001_, .slice Ao101 l0_6.length co101, u9003_] 55 (0, 0)) (Goto.bx BK0) hg (by simp [Value.ownBlock])); replace HB := Goto.m0 (hb); replace HK := Goto.m0 (Kept.of_grown (S := (fun k_ => (P0_4_ k_ ∨ P0_5_ k_ ∨ P0_6_ k_ ∨ P0_7_ k_) ∨ k_ = g)) hg (by repeat (first | (with_reducible first | exact HK.out | apply Kept.alloc | apply Kept.drewN | apply Kept.drew | refine Kept.setCell ?_ (.inl (.inr rfl)) _) | exact HK.out)) (fun k_ e_ => by simp [Value.ownBlock] at e_)); clear ho hb hg hat
               refine hK.out _ _ ⟨(blk_cell BK0.out 0).trans rfl, (blk_cell BK0.out 1).trans rfl, (blk_cell BK0.out 2).trans rfl, (blk_cell BK0.out 3).trans rfl, (blk_cell BK0.out 4).trans rfl, (blk_cell BK0.out 5).trans rfl, (blk_cell BK0.out 6).trans rfl, (blk_cell BK0.out 7).trans rfl⟩ (fun hHeld => ?_)
               clear hK K
               refine norm_ (a' := ?_) ?_ ?_
               rotate_left
               ·
                show Act.put _ (some 51) _ = _
                exact Goto.ap
               refine one_ (i := 10) (N := some 53) (Goto.bs 16 14335) rfl rfl (one_of HT_.out (by kernel_rfl)) (by decide) (fun K hK => ?_)
               refine Kd.R_lit_step (Kd.int .i64) _ 3 ?hg (N := 53) ?hd (xs := ([a1] : List Int)) (inner := [.int .i64 a1]) (ok := fun _ => True) (okp := fun _ => True) ?hr ?hp (fun _ hk => hk) trivial (Below.refl _ _) (Nat.le_refl _) (by simp) ?_; (case hd => rfl); (case hg => rfl); (case hr => first | (go_simp; done) | (go_simp; rfl)); (case hp => exact (Reps.one (show Kd.M (Kd.int .i64) _ _ _ a1 [.int .i64 a1] from rfl) (Reps.none _ _)))
               intro v432 w104 ho105 hb hg_ hnew_
               clear hg_ hnew_
               (first | rw [← Ny431.out] at ho105 | (simp only [Int.reduceToNat] at ho105; rw [← Ny431.out] at ho105))
               have HO433 := Goto.m0 (Kd.R_lower (Kd.R_new' (Kd.R_new' (Kd.R_new' (Kd.R_new' (Kd.R_new' (Kd.R_newM (M := fun k_ => ((P0_4_ k_ ∨ P0_5_ k_ ∨ P0_6_ k_ ∨ P0_7_ k_) ∨ w.heap.size ≤ k_)) ho105 (by first | exact HK.out.1 | exact (show Kept w _ (fun k_ => (P0_4_ k_ ∨ P0_5_ k_ ∨ P0_6_ k_ ∨ P0_7_ k_) ∨ k_ = g) from by repeat (first | (with_reducible first | exact HK.out | apply Kept.alloc | apply Kept.drewN | apply Kept.drew | refine Kept.setCell ?_ (.inl (.inr rfl)) _) | exact HK.out)).1) (fun k_ h_ => .inr h_)) (Kd.Q_lt (by (with_reducible repeat (first | apply Kd.Q_alloc | apply Kd.Q_drewN | apply Kd.Q_drew)); exact HO_1004.out))) (Kd.Q_lt (by (with_reducible repeat (first | apply Kd.Q_alloc | apply Kd.Q_drewN | apply Kd.Q_drew)); exact HO_1005.out))) (Kd.Q_lt (by (with_reducible repeat (first | apply Kd.Q_alloc | apply Kd.Q_drewN | apply Kd.Q_drew)); exact HO_1006.out))) (Kd.Q_lt (by (with_reducible repeat (first | apply Kd.Q_alloc | apply Kd.Q_drewN | apply Kd.Q_drew)); exact HO_1007.out))) (Kd.R_lt (Goto.rk HO430))) (below_size (Goto.hx HB))); replace HO_1004 := Goto.m0 (Kd.Q_elder' (by (with_reducible repeat (first | apply Kd.Q_alloc | apply Kd.Q_drewN | apply Kd.Q_drew)); exact HO_1004.out) (Kd.R_base ho105) hb); replace HO_1005 := Goto.m0 (Kd.Q_elder' (by (with_reducible repeat (first | apply Kd.Q_alloc | apply Kd.Q_drewN | apply Kd.Q_drew)); exact HO_1005.out) (Kd.R_base ho105) hb); replace HO_1006 := Goto.m0 (Kd.Q_elder' (by (with_reducible repeat (first | apply Kd.Q_alloc | apply Kd.Q_drewN | apply Kd.Q_drew)); exact HO_1006.out) (Kd.R_base ho105) hb); replace HO_1007 := Goto.m0 (Kd.Q_elder' (by (with_reducible repeat (first | apply Kd.Q_alloc | apply Kd.Q_drewN | apply Kd.Q_drew)); exact HO_1007.out) (Kd.R_base ho105) hb); replace HO430 := Goto.m0 (Kd.R_elder' (Goto.rk HO430) (Kd.R_base ho105) hb); replace BK0 := Goto.bb BK0 hb; replace HK := Goto.m0 (Kept.below (S := (fun k_ => (P0_4_ k_ ∨ P0_5_ k_ ∨ P0_6_ k_ ∨ P0_7_ k_) ∨ k_ = g)) (by repeat (first | (with_reducible first | exact HK.out | apply Kept.alloc | apply Kept.drewN | apply Kept.drew | refine Kept.setCell ?_ (.inl (.inr rfl)) _) | exact HK.out)) hb); replace HB := Goto.hs HB hb; clear hb ho105
               refine hK.out _ _ ⟨(blk_cell BK0.out 0).trans rfl, (blk_cell BK0.out 1).trans rfl, (blk_cell BK0.out 2).trans rfl, (blk_cell BK0.out 3).trans rfl, (blk_cell BK0.out 4).trans rfl, (blk_cell BK0.out 5).trans rfl, (blk_cell BK0.out 6).trans rfl, (blk_cell BK0.out 7).trans rfl⟩ (fun hHeld => ?_)
               clear hK K
               refine norm_ (a' := ?_) ?_ ?_
               rotate_left
               ·
                show Act.put _ (some 53) _ = _
                exact Goto.ap
               exact norm_ (by simp only [putAll, Act.put, List.setIfInBounds_toArray, List.set_cons_zero, List.set_cons_succ]) (hCont (v429, v432) _ ⟨hHeld, (by (with_reducible repeat (first | apply Kd.R_alloc | apply Kd.R_drewN | apply Kd.R_drew)); exact Kd.R_mono HO430.out (fun _ hk => ⟨hk.1.1, ⟨hk.2, ⟨hk.1.2.1, ⟨hk.1.2.2.1, ⟨hk.1.2.2.2.1, hk.1.2.2.2.2⟩⟩⟩⟩⟩)), (by (with_reducible repeat (first | apply Kd.R_alloc | apply Kd.R_drewN | apply Kd.R_drew)); exact Kd.R_mono HO433.out (fun _ hk => ⟨hk.1.1.1.1.1.1, ⟨hk.2, ⟨hk.1.1.1.1.2, ⟨hk.1.1.1.2, ⟨hk.1.1.2, hk.1.2⟩⟩⟩⟩⟩)), (by (with_reducible repeat (first | apply Kd.Q_alloc | apply Kd.Q_drewN | apply Kd.Q_drew)); exact Kd.Q_mono HO_1004.out (fun _ hk => ⟨hk.1.1.1, ⟨hk.1.2, ⟨hk.2, ⟨hk.1.1.2.1, ⟨hk.1.1.2.2.1, hk.1.1.2.2.2⟩⟩⟩⟩⟩)), (by (with_reducible repeat (first | apply Kd.Q_alloc | apply Kd.Q_drewN | apply Kd.Q_drew)); exact Kd.Q_mono HO_1005.out (fun _ hk => ⟨hk.1.1.1, ⟨hk.1.2, ⟨hk.2, ⟨hk.1.1.2.1, ⟨hk.1.1.2.2.1, hk.1.1.2.2.2⟩⟩⟩⟩⟩)), (by (with_reducible repeat (first | apply Kd.Q_alloc | apply Kd.Q_drewN | apply Kd.Q_drew)); exact Kd.Q_mono HO_1006.out (fun _ hk => ⟨hk.1.1.1, ⟨hk.1.2, ⟨hk.2, ⟨hk.1.1.2.1, ⟨hk.1.1.2.2.1, hk.1.1.2.2.2⟩⟩⟩⟩⟩)), (by (with_reducible repeat (first | apply Kd.Q_alloc | apply Kd.Q_drewN | apply Kd.Q_drew)); exact Kd.Q_mono HO_1007.out (fun _ hk => ⟨hk.1.1.1, ⟨hk.1.2, ⟨hk.2, ⟨hk.1.1.2.1, ⟨hk.1.1.2.2.1, hk.1.1.2.2.2⟩⟩⟩⟩⟩)), (Goto.bx BK0), (by repeat (first | (with_reducible first | exact HK.out | apply Kept.alloc | apply Kept.drewN | apply Kept.drew | refine Kept.setCell ?_ (.inl (.inr rfl)) _) | exact HK.out)), (Goto.hx HB)⟩)
              ·
               skip
               refine Kd.R_lit_step (Kd.int .i64) _ 3 ?hg (N := 53) ?hd (xs := ([a1] : List Int)) (inner := [.int .i64 a1]) (ok := fun _ => True) (okp := fun _ => True) ?hr ?hp (fun _ hk => hk) trivial (Below.refl _ _) (Nat.le_refl _) (by simp) ?_; (case hd => rfl); (case hg => rfl); (case hr => first | (go_simp; done) | (go_simp; rfl)); (case hp => exact (Reps.one (show Kd.M (Kd.int .i64) _ _ _ a1 [.int .i64 a1] from rfl) (Reps.none _ _)))
               intro v432 w103 ho104 hb hg_ hnew_
               clear hg_ hnew_
               (first | rw [← Ny431.out] at ho104 | (simp only [Int.reduceToNat] at ho104; rw [← Ny431.out] at ho104))
               have HO433 := Goto.m0 (Kd.R_lower (Kd.R_new' (Kd.R_new' (Kd.R_new' (Kd.R_new' (Kd.R_newM (M := fun k_ => ((P0_4_ k_ ∨ P0_5_ k_ ∨ P0_6_ k_ ∨ P0_7_ k_) ∨ w.heap.size ≤ k_)) ho104 (by first | exact HK.out.1 | exact (show Kept w _ (fun k_ => (P0_4_ k_ ∨ P0_5_ k_ ∨ P0_6_ k_ ∨ P0_7_ k_) ∨ k_ = g) from by repeat (first | (with_reducible first | exact HK.out | apply Kept.alloc | apply Kept.drewN | apply Kept.drew | refine Kept.setCell ?_ (.inl (.inr rfl)) _) | exact HK.out)).1) (fun k_ h_ => .inr h_)) (Kd.Q_lt (by (with_reducible repeat (first | apply Kd.Q_alloc | apply Kd.Q_drewN | apply Kd.Q_drew)); exact HO_1004.out))) (Kd.Q_lt (by (with_reducible repeat (first | apply Kd.Q_alloc | apply Kd.Q_drewN | apply Kd.Q_drew)); exact HO_1005.out))) (Kd.Q_lt (by (with_reducible repeat (first | apply Kd.Q_alloc | apply Kd.Q_drewN | apply Kd.Q_drew)); exact HO_1006.out))) (Kd.Q_lt (by (with_reducible repeat (first | apply Kd.Q_alloc | apply Kd.Q_drewN | apply Kd.Q_drew)); exact HO_1007.out))) (below_size (Goto.hx HB))); replace HO_1004 := Goto.m0 (Kd.Q_elder' (by (with_reducible repeat (first | apply Kd.Q_alloc | apply Kd.Q_drewN | apply Kd.Q_drew)); exact HO_1004.out) (Kd.R_base ho104) hb); replace HO_1005 := Goto.m0 (Kd.Q_elder' (by (with_reducible repeat (first | apply Kd.Q_alloc | apply Kd.Q_drewN | apply Kd.Q_drew)); exact HO_1005.out) (Kd.R_base ho104) hb); replace HO_1006 := Goto.m0 (Kd.Q_elder' (by (with_reducible repeat (first | apply Kd.Q_alloc | apply Kd.Q_drewN | apply Kd.Q_drew)); exact HO_1006.out) (Kd.R_base ho104) hb); replace HO_1007 := Goto.m0 (Kd.Q_elder' (by (with_reducible repeat (first | apply Kd.Q_alloc | apply Kd.Q_drewN | apply Kd.Q_drew)); exact HO_1007.out) (Kd.R_base ho104) hb); replace BK0 := Goto.bb BK0 hb; replace HK := Goto.m0 (Kept.below (S := (fun k_ => (P0_4_ k_ ∨ P0_5_ k_ ∨ P0_6_ k_ ∨ P0_7_ k_) ∨ k_ = g)) (by repeat (first | (with_reducible first | exact HK.out | apply Kept.alloc | apply Kept.drewN | apply Kept.drew | refine Kept.setCell ?_ (.inl (.inr rfl)) _) | exact HK.out)) hb); replace HB := Goto.hs HB hb; clear hb ho104
               refine hK.out _ _ ⟨(blk_cell BK0.out 0).trans rfl, (blk_cell BK0.out 1).trans rfl, (blk_cell BK0.out 2).trans rfl, (blk_cell BK0.out 3).trans rfl, (blk_cell BK0.out 4).trans rfl, (blk_cell BK0.out 5).trans rfl, (blk_cell BK0.out 6).trans rfl, (blk_cell BK0.out 7).trans rfl⟩ (fun hHeld => ?_)
               clear hK K
               refine norm_ (a' := ?_) ?_ ?_
               rotate_left
               ·
                show Act.put _ (some 53) _ = _
                exact Goto.ap
               refine one_ (i := 8) (N := some 51) (Goto.bs 16 14335) rfl rfl (one_of HT_.out (by kernel_rfl)) (by decide) (fun K hK => ?_)
               refine Kd.R_append_rows_step (Kd.int .i64) (w0 := w0) w0.heap.size rfl (.const (.slice none 0 0)) (.tmp 50) 52 3 (.int .i64 0) 8 rfl Tryd.underlying52 info3 rfl (by decide) (by omega) (.slice none 0 0) ([] : List Int) l0_6 _ _ _ (fun k_ => ((P0_4_ k_ ∨ P0_5_ k_ ∨ P0_6_ k_ ∨ P0_7_ k_) ∨ w.heap.size ≤ k_) ∧ some k_ ≠ (u9000_ : Value).ownBlock ∧ some k_ ≠ (u9001_ : Value).ownBlock ∧ some k_ ≠ (.slice Ao101 l0_6.length co101 : Value).ownBlock ∧ some k_ ≠ (u9003_ : Value).ownBlock ∧ some k_ ≠ (v432 : Value).ownBlock) (fun _ => False) rfl rfl ?aO ?aR (fun _ _ h => h) (fun _ h => h.elim) ?aF ?aB ?aS ?aL ?_
               (case aR => repeat (first | exact (Kd.Q_reads' HO_1006.out).2.2 | (with_reducible refine Kd.C_alloc ?_ _) | (with_reducible refine Kd.C_drewN ?_ _) | (with_reducible refine Kd.C_drew ?_)))
               (case aB => exact (Goto.hx HB))
               (case aF => exact (fun k_ hk => ⟨(.inr (Nat.le_trans (by first | exact HK.out.1 | exact (show Kept w _ (fun k_ => (P0_4_ k_ ∨ P0_5_ k_ ∨ P0_6_ k_ ∨ P0_7_ k_) ∨ k_ = g) from by repeat (first | (with_reducible first | exact HK.out | apply Kept.alloc | apply Kept.drewN | apply Kept.drew | refine Kept.setCell ?_ (.inl (.inr rfl)) _) | exact HK.out)).1) hk)), Kd.fresh' (Kd.Q_lt (by (with_reducible repeat (first | apply Kd.Q_alloc | apply Kd.Q_drewN | apply Kd.Q_drew)); exact HO_1004.out)) k_ hk, Kd.fresh' (Kd.Q_lt (by (with_reducible repeat (first | apply Kd.Q_alloc | apply Kd.Q_drewN | apply Kd.Q_drew)); exact HO_1005.out)) k_ hk, Kd.fresh' (Kd.Q_lt (by (with_reducible repeat (first | apply Kd.Q_alloc | apply Kd.Q_drewN | apply Kd.Q_drew)); exact HO_1006.out)) k_ hk, Kd.fresh' (Kd.Q_lt (by (with_reducible repeat (first | apply Kd.Q_alloc | apply Kd.Q_drewN | apply Kd.Q_drew)); exact HO_1007.out)) k_ hk, Kd.fresh' (Kd.R_lt (Goto.rk HO433)) k_ hk⟩))
               (case aO => exact ((Kd.R_nil _ _ _ _ (fun k_ => ((P0_4_ k_ ∨ P0_5_ k_ ∨ P0_6_ k_ ∨ P0_7_ k_) ∨ w.heap.size ≤ k_) ∧ some k_ ≠ (u9000_ : Value).ownBlock ∧ some k_ ≠ (u9001_ : Value).ownBlock ∧ some k_ ≠ (.slice Ao101 l0_6.length co101 : Value).ownBlock ∧ some k_ ≠ (u9003_ : Value).ownBlock ∧ some k_ ≠ (v432 : Value).ownBlock))))
               (case aS => exact (below_size (Goto.hx HB)))
               (case aL => have := LMc97.out; omega)
               intro v429 w105 ho hb hg hat
               rw [← Ny428.out] at ho
               have HO430 := Goto.m0 (ho); replace HO_1004 := Goto.m0 (Kd.Q_after (Kd.Q_apart_nil (by (with_reducible repeat (first | apply Kd.Q_alloc | apply Kd.Q_drewN | apply Kd.Q_drew)); exact HO_1004.out)) hg hat); replace HO_1005 := Goto.m0 (Kd.Q_after (Kd.Q_apart_nil (by (with_reducible repeat (first | apply Kd.Q_alloc | apply Kd.Q_drewN | apply Kd.Q_drew)); exact HO_1005.out)) hg hat); replace HO_1006 := Goto.m0 (Kd.Q_after (Kd.Q_apart_nil (by (with_reducible repeat (first | apply Kd.Q_alloc | apply Kd.Q_drewN | apply Kd.Q_drew)); exact HO_1006.out)) hg hat); replace HO_1007 := Goto.m0 (Kd.Q_after (Kd.Q_apart_nil (by (with_reducible repeat (first | apply Kd.Q_alloc | apply Kd.Q_drewN | apply Kd.Q_drew)); exact HO_1007.out)) hg hat); replace BK0 := Goto.m0 (blk_grown (g := g) (o := .cells #[.int .i64 a0_0, .int .i64 a0_1, .int .i64 a0_2, .int .i64 a0_3, u9000_, u9001_, .slice Ao101 l0_6.length co101, u9003_] 55 (0, 0)) (Goto.bx BK0) hg (by simp [Value.ownBlock])); replace HO433 := Goto.m0 (Kd.R_after (Kd.R_apart_nil (Goto.rk HO433)) hg hat); replace HB := Goto.m0 (hb); replace HK := Goto.m0 (Kept.of_grown (S := (fun k_ => (P0_4_ k_ ∨ P0_5_ k_ ∨ P0_6_ k_ ∨ P0_7_ k_) ∨ k_ = g)) hg (by repeat (first | (with_reducible first | exact HK.out | apply Kept.alloc | apply Kept.drewN | apply Kept.drew | refine Kept.setCell ?_ (.inl (.inr rfl)) _) | exact HK.out)) (fun k_ e_ => by simp [Value.ownBlock] at e_)); clear ho hb hg hat
               refine hK.out _ _ ⟨(blk_cell BK0.out 0).trans rfl, (blk_cell BK0.out 1).trans rfl, (blk_cell BK0.out 2).trans rfl, (blk_cell BK0.out 3).trans rfl, (blk_cell BK0.out 4).trans rfl, (blk_cell BK0.out 5).trans rfl, (blk_cell BK0.out 6).trans rfl, (blk_cell BK0.out 7).trans rfl⟩ (fun hHeld => ?_)
               clear hK K
               refine norm_ (a' := ?_) ?_ ?_
               rotate_left
               ·
                show Act.put _ (some 51) _ = _
                exact Goto.ap
               exact norm_ (by simp only [putAll, Act.put, List.setIfInBounds_toArray, List.set_cons_zero, List.set_cons_succ]) (hCont (v429, v432) _ ⟨hHeld, (by (with_reducible repeat (first | apply Kd.R_alloc | apply Kd.R_drewN | apply Kd.R_drew)); exact Kd.R_mono HO430.out (fun _ hk => ⟨hk.1, ⟨hk.2.2.2.2.2, ⟨hk.2.1, ⟨hk.2.2.1, ⟨hk.2.2.2.1, hk.2.2.2.2.1⟩⟩⟩⟩⟩)), (by (with_reducible repeat (first | apply Kd.R_alloc | apply Kd.R_drewN | apply Kd.R_drew)); exact Kd.R_mono HO433.out (fun _ hk => ⟨hk.1.1.1.1.1.1, ⟨hk.2, ⟨hk.1.1.1.1.2, ⟨hk.1.1.1.2, ⟨hk.1.1.2, hk.1.2⟩⟩⟩⟩⟩)), (by (with_reducible repeat (first | apply Kd.Q_alloc | apply Kd.Q_drewN | apply Kd.Q_drew)); exact Kd.Q_mono HO_1004.out (fun _ hk => ⟨hk.1.1.1, ⟨hk.2, ⟨hk.1.2, ⟨hk.1.1.2.1, ⟨hk.1.1.2.2.1, hk.1.1.2.2.2⟩⟩⟩⟩⟩)), (by (with_reducible repeat (first | apply Kd.Q_alloc | apply Kd.Q_drewN | apply Kd.Q_drew)); exact Kd.Q_mono HO_1005.out (fun _ hk => ⟨hk.1.1.1, ⟨hk.2, ⟨hk.1.2, ⟨hk.1.1.2.1, ⟨hk.1.1.2.2.1, hk.1.1.2.2.2⟩⟩⟩⟩⟩)), (by (with_reducible repeat (first | apply Kd.Q_alloc | apply Kd.Q_drewN | apply Kd.Q_drew)); exact Kd.Q_mono HO_1006.out (fun _ hk => ⟨hk.1.1.1, ⟨hk.2, ⟨hk.1.2, ⟨hk.1.1.2.1, ⟨hk.1.1.2.2.1, hk.1.1.2.2.2⟩⟩⟩⟩⟩)), (by (with_reducible repeat (first | apply Kd.Q_alloc | apply Kd.Q_drewN | apply Kd.Q_drew)); exact Kd.Q_mono HO_1007.out (fun _ hk => ⟨hk.1.1.1, ⟨hk.2, ⟨hk.1.2, ⟨hk.1.1.2.1, ⟨hk.1.1.2.2.1, hk.1.1.2.2.2⟩⟩⟩⟩⟩)), (Goto.bx BK0), (by repeat (first | (with_reducible first | exact HK.out | apply Kept.alloc | apply Kept.drewN | apply Kept.drew | refine Kept.setCell ?_ (.inl (.inr rfl)) _) | exact HK.out)), (Goto.hx HB)⟩)
             rintro ⟨v429, v432⟩ w106 ⟨hS_, h0_, h1_, h2_, h3_, h4_, h5_, h6_, h7_, h8_⟩
             have n0_ : Aside0 (Kd.R (Kd.int .i64) 3 w106 w0.heap.size (fun k_ => ((P0_4_ k_ ∨ P0_5_ k_ ∨ P0_6_ k_ ∨ P0_7_ k_) ∨ w.heap.size ≤ k_) ∧ some k_ ≠ (v432 : Value).ownBlock ∧ some k_ ≠ (u9000_ : Value).ownBlock ∧ some k_ ≠ (u9001_ : Value).ownBlock ∧ some k_ ≠ (.slice Ao101 l0_6.length co101 : Value).ownBlock ∧ some k_ ≠ (u9003_ : Value).ownBlock) v429 y428) := ⟨h0_⟩
             have n1_ : Aside0 (Kd.R (Kd.int .i64) 3 w106 w0.heap.size (fun k_ => ((P0_4_ k_ ∨ P0_5_ k_ ∨ P0_6_ k_ ∨ P0_7_ k_) ∨ w.heap.size ≤ k_) ∧ some k_ ≠ (v429 : Value).ownBlock ∧ some k_ ≠ (u9000_ : Value).ownBlock ∧ some k_ ≠ (u9001_ : Value).ownBlock ∧ some k_ ≠ (.slice Ao101 l0_6.length co101 : Value).ownBlock ∧ some k_ ≠ (u9003_ : Value).ownBlock) v432 y431) := ⟨h1_⟩
             have n2_ : Aside0 (Kd.Q (Kd.int .i64) 3 w106 w0.heap.size (fun k_ => ((P0_4_ k_ ∨ P0_5_ k_ ∨ P0_6_ k_ ∨ P0_7_ k_) ∨ w.heap.size ≤ k_) ∧ some k_ ≠ (v429 : Value).ownBlock ∧ some k_ ≠ (v432 : Value).ownBlock ∧ some k_ ≠ (u9001_ : Value).ownBlock ∧ some k_ ≠ (.slice Ao101 l0_6.length co101 : Value).ownBlock ∧ some k_ ≠ (u9003_ : Value).ownBlock) u9000_ l0_4) := ⟨h2_⟩
             have n3_ : Aside0 (Kd.Q (Kd.int .i64) 3 w106 w0.heap.size (fun k_ => ((P0_4_ k_ ∨ P0_5_ k_ ∨ P0_6_ k_ ∨ P0_7_ k_) ∨ w.heap.size ≤ k_) ∧ some k_ ≠ (v429 : Value).ownBlock ∧ some k_ ≠ (v432 : Value).ownBlock ∧ some k_ ≠ (u9000_ : Value).ownBlock ∧ some k_ ≠ (.slice Ao101 l0_6.length co101 : Value).ownBlock ∧ some k_ ≠ (u9003_ : Value).ownBlock) u9001_ l0_5) := ⟨h3_⟩
             have n4_ : Aside0 (Kd.Q (Kd.int .i64) 3 w106 w0.heap.size (fun k_ => ((P0_4_ k_ ∨ P0_5_ k_ ∨ P0_6_ k_ ∨ P0_7_ k_) ∨ w.heap.size ≤ k_) ∧ some k_ ≠ (v429 : Value).ownBlock ∧ some k_ ≠ (v432 : Value).ownBlock ∧ some k_ ≠ (u9000_ : Value).ownBlock ∧ some k_ ≠ (u9001_ : Value).ownBlock ∧ some k_ ≠ (u9003_ : Value).ownBlock) (.slice Ao101 l0_6.length co101) l0_6) := ⟨h4_⟩
             have n5_ : Aside0 (Kd.Q (Kd.int .i64) 3 w106 w0.heap.size (fun k_ => ((P0_4_ k_ ∨ P0_5_ k_ ∨ P0_6_ k_ ∨ P0_7_ k_) ∨ w.heap.size ≤ k_) ∧ some k_ ≠ (v429 : Value).ownBlock ∧ some k_ ≠ (v432 : Value).ownBlock ∧ some k_ ≠ (u9000_ : Value).ownBlock ∧ some k_ ≠ (u9001_ : Value).ownBlock ∧ some k_ ≠ (.slice Ao101 l0_6.length co101 : Value).ownBlock) u9003_ l0_7) := ⟨h5_⟩
             have n6_ : Aside0 (w106.heap[g]? = some (.cells #[.int .i64 a0_0, .int .i64 a0_1, .int .i64 a0_2, .int .i64 a0_3, u9000_, u9001_, .slice Ao101 l0_6.length co101, u9003_] 55 (0, 0))) := ⟨h6_⟩
             have n7_ : Aside0 (Kept w w106 (fun k_ => (P0_4_ k_ ∨ P0_5_ k_ ∨ P0_6_ k_ ∨ P0_7_ k_) ∨ k_ = g)) := ⟨h7_⟩
             have n8_ : Aside0 (Below w0.heap.size w0 w106) := ⟨h8_⟩
             clear HO_1004; clear HO_1005; clear HO_1006; clear HO_1007; clear BK0; clear HK; clear HB; clear h0_ h1_ h2_ h3_ h4_ h5_ h6_ h7_ h8_; have HO430 := n0_; have HO433 := n1_; have HO_1004 := n2_; have HO_1005 := n3_; have HO_1006 := n4_; have HO_1007 := n5_; have BK0 := n6_; have HK := n7_; have HB := n8_; clear n0_ n1_ n2_ n3_ n4_ n5_ n6_ n7_ n8_
             have hHeld : w106.cell? ⟨g, 0, none⟩ = some (.int .i64 a0_0) ∧ w106.cell? ⟨g, 1, none⟩ = some (.int .i64 a0_1) ∧ w106.cell? ⟨g, 2, none⟩ = some (.int .i64 a0_2) ∧ w106.cell? ⟨g, 3, none⟩ = some (.int .i64 a0_3) ∧ w106.cell? ⟨g, 4, none⟩ = some (u9000_) ∧ w106.cell? ⟨g, 5, none⟩ = some (u9001_) ∧ w106.cell? ⟨g, 6, none⟩ = some (.slice Ao101 l0_6.length co101) ∧ w106.cell? ⟨g, 7, none⟩ = some (u9003_) := hS_
             obtain ⟨Ao108, co108, eo108⟩ := Kd.R_slice HO433.out
             (first | subst eo108 | (injection eo108 with f1_ f2_ f3_; have f4_ := f1_.symm; have f5_ := f3_.symm; clear f1_ f2_ f3_; subst f4_; subst f5_))
             refine norm_ (a' := ?_) ?_ ?_
             rotate_left
             ·
              simp only [putAll, Act.put, List.setIfInBounds_toArray, List.set_cons_zero, List.set_cons_succ]
              rfl
             refine one_ (i := 11) (N := some 54) (Goto.bs 16 16383) rfl rfl (one_of HT_.out (by kernel_rfl)) (by decide) (fun K hK => ?_)
             refine Kd.R_append_rows_step (Kd.int .i64) (w0 := w0) w0.heap.size (by rfl) (.tmp 51) (.tmp 53) 52 3 (.int .i64 0) 8 rfl Tryd.underlying52 info3 rfl (by decide) (by omega) v429 y428 y431 _ _ _ (fun k_ => ((P0_4_ k_ ∨ P0_5_ k_ ∨ P0_6_ k_ ∨ P0_7_ k_) ∨ w.heap.size ≤ k_) ∧ some k_ ≠ (u9000_ : Value).ownBlock ∧ some k_ ≠ (u9001_ : Value).ownBlock ∧ some k_ ≠ (.slice Ao101 l0_6.length co101 : Value).ownBlock ∧ some k_ ≠ (u9003_ : Value).ownBlock ∧ some k_ ≠ (.slice Ao108 y431.length co108 : Value).ownBlock) (fun _ => False) rfl rfl ?aO ?aR (fun _ _ h => h) (fun _ h => h.elim) ?aF ?aB ?aS ?aL ?_
             (case aR => repeat (first | exact (Kd.R_reads' HO433.out).2.2 | (with_reducible refine Kd.C_alloc ?_ _) | (with_reducible refine Kd.C_drewN ?_ _) | (with_reducible refine Kd.C_drew ?_)))
             (case aB => exact (Goto.hx HB))
             (case aF => exact (fun k_ hk => ⟨(.inr (Nat.le_trans (by first | exact HK.out.1 | exact (show Kept w _ (fun k_ => (P0_4_ k_ ∨ P0_5_ k_ ∨ P0_6_ k_ ∨ P0_7_ k_) ∨ k_ = g) from by repeat (first | (with_reducible first | exact HK.out | apply Kept.alloc | apply Kept.drewN | apply Kept.drew | refine Kept.setCell ?_ (.inl (.inr rfl)) _) | exact HK.out)).1) hk)), Kd.fresh' (Kd.Q_lt (by (with_reducible repeat (first | apply Kd.Q_alloc | apply Kd.Q_drewN | apply Kd.Q_drew)); exact HO_1004.out)) k_ hk, Kd.fresh' (Kd.Q_lt (by (with_reducible repeat (first | apply Kd.Q_alloc | apply Kd.Q_drewN | apply Kd.Q_drew)); exact HO_1005.out)) k_ hk, Kd.fresh' (Kd.Q_lt (by (with_reducible repeat (first | apply Kd.Q_alloc | apply Kd.Q_drewN | apply Kd.Q_drew)); exact HO_1006.out)) k_ hk, Kd.fresh' (Kd.Q_lt (by (with_reducible repeat (first | apply Kd.Q_alloc | apply Kd.Q_drewN | apply Kd.Q_drew)); exact HO_1007.out)) k_ hk, Kd.fresh' (Kd.R_lt (Goto.rk HO433)) k_ hk⟩))
             (case aO => exact (by (with_reducible repeat (first | apply Kd.R_alloc | apply Kd.R_drewN | apply Kd.R_drew)); exact Kd.R_mono HO430.out (fun _ hk => ⟨hk.1, ⟨hk.2.2.1, ⟨hk.2.2.2.1, ⟨hk.2.2.2.2.1, ⟨hk.2.2.2.2.2, hk.2.1⟩⟩⟩⟩⟩)))
             (case aS => exact (below_size (Goto.hx HB)))
             (case aL => have := LMc98.out; omega)
             intro v435 w107 ho hb hg hat
             rw [← Ny434.out] at ho
             have n0_ := Goto.m0 (Kd.Q_after (ok := (fun k_ => ((P0_4_ k_ ∨ P0_5_ k_ ∨ P0_6_ k_ ∨ P0_7_ k_) ∨ w.heap.size ≤ k_) ∧ some k_ ≠ (u9001_ : Value).ownBlock ∧ some k_ ≠ (.slice Ao101 l0_6.length co101 : Value).ownBlock ∧ some k_ ≠ (u9003_ : Value).ownBlock ∧ some k_ ≠ (.slice Ao108 y431.length co108 : Value).ownBlock)) (by (with_reducible repeat (first | apply Kd.Q_alloc | apply Kd.Q_drewN | apply Kd.Q_drew)); exact Kd.Q_mono HO_1004.out (fun _ hk => ⟨⟨hk.1, ⟨hk.2.2.2.1, ⟨hk.2.2.2.2.1, ⟨hk.2.2.2.2.2, hk.2.2.1⟩⟩⟩⟩, hk.2.1⟩)) hg hat)
             have n1_ := Goto.m0 (Kd.Q_after (ok := (fun k_ => ((P0_4_ k_ ∨ P0_5_ k_ ∨ P0_6_ k_ ∨ P0_7_ k_) ∨ w.heap.size ≤ k_) ∧ some k_ ≠ (u9000_ : Value).ownBlock ∧ some k_ ≠ (.slice Ao101 l0_6.length co101 : Value).ownBlock ∧ some k_ ≠ (u9003_ : Value).ownBlock ∧ some k_ ≠ (.slice Ao108 y431.length co108 : Value).ownBlock)) (by (with_reducible repeat (first | apply Kd.Q_alloc | apply Kd.Q_drewN | apply Kd.Q_drew)); exact Kd.Q_mono HO_1005.out (fun _ hk => ⟨⟨hk.1, ⟨hk.2.2.2.1, ⟨hk.2.2.2.2.1, ⟨hk.2.2.2.2.2, hk.2.2.1⟩⟩⟩⟩, hk.2.1⟩)) hg hat)
             have n2_ := Goto.m0 (Kd.Q_after (ok := (fun k_ => ((P0_4_ k_ ∨ P0_5_ k_ ∨ P0_6_ k_ ∨ P0_7_ k_) ∨ w.heap.size ≤ k_) ∧ some k_ ≠ (u9000_ : Value).ownBlock ∧ some k_ ≠ (u9001_ : Value).ownBlock ∧ some k_ ≠ (u9003_ : Value).ownBlock ∧ some k_ ≠ (.slice Ao108 y431.length co108 : Value).ownBlock)) (by (with_reducible repeat (first | apply Kd.Q_alloc | apply Kd.Q_drewN | apply Kd.Q_drew)); exact Kd.Q_mono HO_1006.out (fun _ hk => ⟨⟨hk.1, ⟨hk.2.2.2.1, ⟨hk.2.2.2.2.1, ⟨hk.2.2.2.2.2, hk.2.2.1⟩⟩⟩⟩, hk.2.1⟩)) hg hat)
             have n3_ := Goto.m0 (Kd.Q_after (ok := (fun k_ => ((P0_4_ k_ ∨ P0_5_ k_ ∨ P0_6_ k_ ∨ P0_7_ k_) ∨ w.heap.size ≤ k_) ∧ some k_ ≠ (u9000_ : Value).ownBlock ∧ some k_ ≠ (u9001_ : Value).ownBlock ∧ some k_ ≠ (.slice Ao101 l0_6.length co101 : Value).ownBlock ∧ some k_ ≠ (.slice Ao108 y431.length co108 : Value).ownBlock)) (by (with_reducible repeat (first | apply Kd.Q_alloc | apply Kd.Q_drewN | apply Kd.Q_drew)); exact Kd.Q_mono HO_1007.out (fun _ hk => ⟨⟨hk.1, ⟨hk.2.2.2.1, ⟨hk.2.2.2.2.1, ⟨hk.2.2.2.2.2, hk.2.2.1⟩⟩⟩⟩, hk.2.1⟩)) hg hat)
             have n4_ := Goto.m0 (blk_grown (g := g) (o := .cells #[.int .i64 a0_0, .int .i64 a0_1, .int .i64 a0_2, .int .i64 a0_3, u9000_, u9001_, .slice Ao101 l0_6.length co101, u9003_] 55 (0, 0)) (Goto.bx BK0) hg (Kd.R_ne HO430.out BK0.out (by decide)))
             have n5_ := Goto.m0 (Kd.R_after (ok := (fun k_ => ((P0_4_ k_ ∨ P0_5_ k_ ∨ P0_6_ k_ ∨ P0_7_ k_) ∨ w.heap.size ≤ k_) ∧ some k_ ≠ (u9000_ : Value).ownBlock ∧ some k_ ≠ (u9001_ : Value).ownBlock ∧ some k_ ≠ (.slice Ao101 l0_6.length co101 : Value).ownBlock ∧ some k_ ≠ (u9003_ : Value).ownBlock)) (by (with_reducible repeat (first | apply Kd.R_alloc | apply Kd.R_drewN | apply Kd.R_drew)); exact Kd.R_mono HO433.out (fun _ hk => ⟨⟨hk.1, ⟨hk.2.2.1, ⟨hk.2.2.2.1, ⟨hk.2.2.2.2.1, hk.2.2.2.2.2⟩⟩⟩⟩, hk.2.1⟩)) hg hat)
             have n6_ := Goto.m0 (hb)
             have n7_ := Goto.m0 (Kept.of_grown (S := (fun k_ => (P0_4_ k_ ∨ P0_5_ k_ ∨ P0_6_ k_ ∨ P0_7_ k_) ∨ k_ = g)) hg (by repeat (first | (with_reducible first | exact HK.out | apply Kept.alloc | apply Kept.drewN | apply Kept.drew | refine Kept.setCell ?_ (.inl (.inr rfl)) _) | exact HK.out)) (fun k_ e_ => Or.imp_left Or.inl ((HO430.out.1 k_ e_).1)))
             have n8_ := Goto.m0 (ho)
             clear HO_1004; clear HO_1005; clear HO_1006; clear HO_1007; clear BK0; clear HO433; clear HB; clear HK; clear HO430; have HO_1004 := n0_; have HO_1005 := n1_; have HO_1006 := n2_; have HO_1007 := n3_; have BK0 := n4_; have HO433 := n5_; have HB := n6_; have HK := n7_; have HO436 := n8_; clear n0_ n1_ n2_ n3_ n4_ n5_ n6_ n7_ n8_; clear ho hb hg hat
             obtain ⟨Ao109, co109, eo109⟩ := Kd.R_slice HO436.out
             (first | subst eo109 | (injection eo109 with f1_ f2_ f3_; have f4_ := f1_.symm; have f5_ := f3_.symm; clear f1_ f2_ f3_; subst f4_; subst f5_))
             refine hK.out _ _ ⟨(blk_cell BK0.out 0).trans rfl, (blk_cell BK0.out 1).trans rfl, (blk_cell BK0.out 2).trans rfl, (blk_cell BK0.out 3).trans rfl, (blk_cell BK0.out 4).trans rfl, (blk_cell BK0.out 5).trans rfl, (blk_cell BK0.out 6).trans rfl, (blk_cell BK0.out 7).trans rfl⟩ (fun hHeld => ?_)
             clear hK K
             refine norm_ (a' := ?_) ?_ ?_
             rotate_left
             ·
              show Act.put _ (some 54) _ = _
              exact Goto.ap
             refine Goto.pu 14 57 16 32767 ?_
             refine last_ (i := 15) (N := none) (Goto.bs 16 65535) rfl rfl (one_of HT_.out (by kernel_rfl)) (by decide) (fun K hK => ?_)
             have hs110 : w107.cell? ⟨g, 6, none⟩ = some (.slice Ao101 l0_6.length co101) := (blk_cell BK0.out 6).trans rfl; have hfs110 := Goto.bf BK0 6
             refine skip_ (w1 := ?_) (by rfl) rfl ?_ ?_
             rotate_left
             ·
              go_simp
              rfl
             refine hK.out _ _ ?_
             clear hK K
             refine done_ (done_of HT_.out (by kernel_rfl)) ?_
             try go_wp2
             go_ret2
             (try simp only [← exists_and_left])
             exact ⟨_, _, _, _, Goto.er, by (with_reducible repeat (first | apply Kd.Q_alloc | apply Kd.Q_drewN | apply Kd.Q_drew)); exact Kd.Q_mono (Kd.Q_far (p := ⟨g, 6, none⟩) (Kd.Q_types HO_1004.out BK0.out (by decide)) (fun _ hk => hk.2) (.slice Ao109 y434.length co109)) (fun _ hk => ⟨hk.1.1.1, ⟨hk.1.1.2.1, ⟨hk.1.2, hk.1.1.2.2.2.1⟩⟩⟩), by (with_reducible repeat (first | apply Kd.Q_alloc | apply Kd.Q_drewN | apply Kd.Q_drew)); exact Kd.Q_mono (Kd.Q_far (p := ⟨g, 6, none⟩) (Kd.Q_types HO_1005.out BK0.out (by decide)) (fun _ hk => hk.2) (.slice Ao109 y434.length co109)) (fun _ hk => ⟨hk.1.1.1, ⟨hk.1.1.2.1, ⟨hk.1.2, hk.1.1.2.2.2.1⟩⟩⟩), Kd.Q_of_R (by (with_reducible repeat (first | apply Kd.R_alloc | apply Kd.R_drewN | apply Kd.R_drew)); exact Kd.R_mono (Kd.R_far (p := ⟨g, 6, none⟩) (Kd.R_types HO436.out BK0.out (by decide)) (fun _ hk => hk.2) (.slice Ao109 y434.length co109)) (fun _ hk => ⟨hk.1.1, ⟨hk.1.2.1, ⟨hk.1.2.2.1, hk.1.2.2.2.2.1⟩⟩⟩)), by (with_reducible repeat (first | apply Kd.Q_alloc | apply Kd.Q_drewN | apply Kd.Q_drew)); exact Kd.Q_mono (Kd.Q_far (p := ⟨g, 6, none⟩) (Kd.Q_types HO_1007.out BK0.out (by decide)) (fun _ hk => hk.2) (.slice Ao109 y434.length co109)) (fun _ hk => ⟨hk.1.1.1, ⟨hk.1.1.2.1, ⟨hk.1.1.2.2.1, hk.1.2⟩⟩⟩), by (with_reducible repeat first | refine blk_drewN ?_ _ | refine blk_drew ?_ | refine blk_alloc ?_ _); refine blk_put (cs := #[.int .i64 a0_0, .int .i64 a0_1, .int .i64 a0_2, .int .i64 a0_3, u9000_, u9001_, .slice Ao101 l0_6.length co101, u9003_]) ?_ 6 _ rfl; (with_reducible repeat first | refine blk_drewN ?_ _ | refine blk_drew ?_ | refine blk_alloc ?_ _); exact BK0.out, by repeat (first | (with_reducible first | exact HB.out | apply below_alloc | apply pw_below_drewN | apply below_drew1 | refine below_set ?_ GE0.out) | exact HB.out), by repeat (first | (with_reducible first | exact HK.out | apply Kept.alloc | apply Kept.drewN | apply Kept.drew | refine Kept.setCell ?_ (.inl (.inr rfl)) _) | exact HK.out)⟩
            ·
             rw [if_neg c98] at H
             exact absurd H (by simp)
           ·
            rw [if_neg c97] at H
            exact absurd H (by simp)
         ·
          rw [if_neg c88] at H
          have c88b0 : (a2 == 2) = false := beq_eq_false_iff_ne.mpr c88
          have c88b1 : (a2 != 2) = true := bne_iff_ne.mpr c88
          by_cases c111 : a2 = 3
          ·
           rw [if_pos c111] at H
           have c111b0 : (a2 == 3) = true := beq_iff_eq.mpr c111
           have c111b1 : (a2 != 3) = false := bne_eq_false_iff_eq.mpr c111
           clear c111
           have hix112e : a2 = 3 := eq_of_beq (by first | (with_reducible assumption) | assumption)
           have hix112 : (a2).toNat = 3 := by rw [hix112e]; rfl
           have hix112c : (0 ≤ a2 ∧ a2 < (4 : Int)) = True := eq_true (by rw [hix112e]; decide)
           clear hix112e
           by_cases c113 : a0_3 > 0
           ·
            rw [if_pos c113] at H
            have c113b0 : decide (0 < a0_3) = true := decide_eq_true c113
            clear c113
            have hix114e : a2 = 3 := eq_of_beq (by first | (with_reducible assumption) | assumption)
            have hix114 : (a2).toNat = 3 := by rw [hix114e]; rfl
            have hix114c : (0 ≤ a2 ∧ a2 < (4 : Int)) = True := eq_true (by rw [hix114e]; decide)
            clear hix114e
            have hix115e : a2 = 3 := eq_of_beq (by first | (with_reducible assumption) | assumption)
            have hix115 : (a2).toNat = 3 := by rw [hix115e]; rfl
            have hix115c : (0 ≤ a2 ∧ a2 < (4 : Int)) = True := eq_true (by rw [hix115e]; decide)
            clear hix115e
            simp only [Option.some.injEq, Prod.mk.injEq] at H
            obtain ⟨rfl, rfl, rfl, rfl, rfl, rfl, rfl, rfl, rfl, rfl⟩ := H
            have hcz116_0 := Goto.bc0 BK0; have hcz116_1 := Goto.bc1 BK0; have hcz116_2 := Goto.bc2 BK0; have hcz116_3 := Goto.bc3 BK0; have hcz116_4 := Goto.bc4 BK0; have hcz116_5 := Goto.bc5 BK0; have hcz116_6 := Goto.bc6 BK0; have hcz116_7 := Goto.bc7 BK0; have hfz116_0 := Goto.bf BK0 0; have hfz116_1 := Goto.bf BK0 1; have hfz116_2 := Goto.bf BK0 2; have hfz116_3 := Goto.bf BK0 3; have hfz116_4 := Goto.bf BK0 4; have hfz116_5 := Goto.bf BK0 5; have hfz116_6 := Goto.bf BK0 6; have hfz116_7 := Goto.bf BK0 7
            try go_wp2
            replace HO_1004 := Goto.m0 (Kd.Q_drew HO_1004.out); replace HO_1005 := Goto.m0 (Kd.Q_drew HO_1005.out); replace HO_1006 := Goto.m0 (Kd.Q_drew HO_1006.out); replace HO_1007 := Goto.m0 (Kd.Q_drew HO_1007.out); replace BK0 := Goto.m0 (blk_drew BK0.out); replace HK := Goto.m0 (Kept.drew HK.out); replace HB := Goto.m0 (below_drew1 HB.out)
            refine start_ (n := 13) (S := fun w' => w'.cell? ⟨g, 0, none⟩ = some (.int .i64 a0_0) ∧ w'.cell? ⟨g, 1, none⟩ = some (.int .i64 a0_1) ∧ w'.cell? ⟨g, 2, none⟩ = some (.int .i64 a0_2) ∧ w'.cell? ⟨g, 3, none⟩ = some (.int .i64 a0_3) ∧ w'.cell? ⟨g, 4, none⟩ = some (u9000_) ∧ w'.cell? ⟨g, 5, none⟩ = some (u9001_) ∧ w'.cell? ⟨g, 6, none⟩ = some (u9002_) ∧ w'.cell? ⟨g, 7, none⟩ = some (u9003_)) (ds := [12]) (.replicate 13 false) (by kernel_rfl) rfl rfl ⟨(blk_cell BK0.out 0).trans rfl, (blk_cell BK0.out 1).trans rfl, (blk_cell BK0.out 2).trans rfl, (blk_cell BK0.out 3).trans rfl, (blk_cell BK0.out 4).trans rfl, (blk_cell BK0.out 5).trans rfl, (blk_cell BK0.out 6).trans rfl, (blk_cell BK0.out 7).trans rfl⟩ (fun hHeld => ?_); refine with_tabW tontineref8_Objects_Wait.tab9 tontineref8_Objects_Wait.bits9 (fun HT_ HW_ => ?_)
            generalize wr.drew = w117 at HO_1004 HO_1005 HO_1006 HO_1007 BK0 HK HB hHeld ⊢
            refine Goto.pu 0 31 13 1 ?_
            refine Goto.pu 1 32 13 3 ?_
            refine Goto.pu 2 33 13 7 ?_
            refine Goto.pu 3 34 13 15 ?_
            refine Goto.pu 4 35 13 31 ?_
            refine Goto.pu 5 36 13 63 ?_
            refine Goto.pu 6 37 13 127 ?_
            refine Goto.pu 9 40 13 639 ?_
            refine Goto.pu 10 41 13 1663 ?_
            refine take_ (i := 7) (N := some 38) (v := ?_) (a' := ?_) (Goto.bs 13 1791) rfl rfl (take_ofW HT_.out HW_.out (by kernel_rfl)) (fun _ _ _ h => h) (Or.inl ⟨by rfl, ?_⟩) hHeld ?_ ?_
            rotate_left
            ·
             rintro w' ⟨s0, s1, s2, s3, s4, s5, s6, s7⟩
             go_simp
             with_reducible rfl
            rotate_left
            ·
             exact Goto.ap
            refine Goto.pu 8 39 13 2047 ?_
            refine Goto.pu 11 42 13 4095 ?_
            refine last_ (i := 12) (N := none) (Goto.bs 13 8191) rfl rfl (one_of HT_.out (by kernel_rfl)) (by decide) (fun K hK => ?_)
            have hs118 : w117.cell? ⟨g, 3, none⟩ = some (.int .i64 a0_3) := (blk_cell BK0.out 3).trans rfl; have hfs118 := Goto.bf BK0 3
            refine skip_ (w1 := ?_) (by rfl) rfl ?_ ?_
            rotate_left
            ·
             go_simp
             rfl
            refine hK.out _ _ ?_
            clear hK K
            refine done_ (done_of HT_.out (by kernel_rfl)) ?_
            try go_wp2
            go_ret2
            (try simp only [← exists_and_left])
            exact ⟨_, _, _, _, Goto.er, by (with_reducible repeat (first | apply Kd.Q_alloc | apply Kd.Q_drewN | apply Kd.Q_drew)); exact Kd.Q_mono (Kd.Q_far (p := ⟨g, 3, none⟩) (Kd.Q_types HO_1004.out BK0.out (by decide)) (fun _ hk => hk.2) (.int .i64 (wrap64 (a0_3 - 1)))) (fun _ hk => ⟨hk.1.1, ⟨hk.1.2.1, ⟨hk.1.2.2.1, hk.1.2.2.2⟩⟩⟩), by (with_reducible repeat (first | apply Kd.Q_alloc | apply Kd.Q_drewN | apply Kd.Q_drew)); exact Kd.Q_mono (Kd.Q_far (p := ⟨g, 3, none⟩) (Kd.Q_types HO_1005.out BK0.out (by decide)) (fun _ hk => hk.2) (.int .i64 (wrap64 (a0_3 - 1)))) (fun _ hk => ⟨hk.1.1, ⟨hk.1.2.1, ⟨hk.1.2.2.1, hk.1.2.2.2⟩⟩⟩), by (with_reducible repeat (first | apply Kd.Q_alloc | apply Kd.Q_drewN | apply Kd.Q_drew)); exact Kd.Q_mono (Kd.Q_far (p := ⟨g, 3, none⟩) (Kd.Q_types HO_1006.out BK0.out (by decide)) (fun _ hk => hk.2) (.int .i64 (wrap64 (a0_3 - 1)))) (fun _ hk => ⟨hk.1.1, ⟨hk.1.2.1, ⟨hk.1.2.2.1, hk.1.2.2.2⟩⟩⟩), by (with_reducible repeat (first | apply Kd.Q_alloc | apply Kd.Q_drewN | apply Kd.Q_drew)); exact Kd.Q_mono (Kd.Q_far (p := ⟨g, 3, none⟩) (Kd.Q_types HO_1007.out BK0.out (by decide)) (fun _ hk => hk.2) (.int .i64 (wrap64 (a0_3 - 1)))) (fun _ hk => ⟨hk.1.1, ⟨hk.1.2.1, ⟨hk.1.2.2.1, hk.1.2.2.2⟩⟩⟩), by (with_reducible repeat first | refine blk_drewN ?_ _ | refine blk_drew ?_ | refine blk_alloc ?_ _); refine blk_put (cs := #[.int .i64 a0_0, .int .i64 a0_1, .int .i64 a0_2, .int .i64 a0_3, u9000_, u9001_, u9002_, u9003_]) ?_ 3 _ rfl; (with_reducible repeat first | refine blk_drewN ?_ _ | refine blk_drew ?_ | refine blk_alloc ?_ _); exact BK0.out, by repeat (first | (with_reducible first | exact HB.out | apply below_alloc | apply pw_below_drewN | apply below_drew1 | refine below_set ?_ GE0.out) | exact HB.out), by repeat (first | (with_reducible first | exact HK.out | apply Kept.alloc | apply Kept.drewN | apply Kept.drew | refine Kept.setCell ?_ (.inl (.inr rfl)) _) | exact HK.out)⟩
           ·
            rw [if_neg c113] at H
            have c113b0 : decide (0 < a0_3) = false := decide_eq_false c113
            clear c113
            have hix119e : a2 = 3 := eq_of_beq (by first | (with_reducible assumption) | assumption)
            have hix119 : (a2).toNat = 3 := by rw [hix119e]; rfl
            have hix119c : (0 ≤ a2 ∧ a2 < (4 : Int)) = True := eq_true (by rw [hix119e]; decide)
            clear hix119e
            by_cases c120 : ([] : List Int).length + l0_7.length < 17592186044416
            ·
             rw [if_pos c120] at H
             have LMc120 := Goto.m0 c120
             clear c120
             obtain ⟨y437, hy437⟩ : ∃ y_ : List Int, y_ = (([] : List Int) ++ l0_7) := ⟨_, rfl⟩
             replace H : ((some (([a1] : List Int) : List Int)).bind fun y440 => (if y437.length + y440.length < 17592186044416 then (some (false, 0, a0_0, a0_1, a0_2, a0_3, l0_4, l0_5, l0_6, (y437 ++ y440))) else (none))) = some (r1, r2, r3, r4, r5, r6, r7, r8, r9, r10) := by first | (rw [hy437]; with_reducible exact H) | (have H2_ := (Option.bind_some _ _).symm.trans H; rw [hy437]; with_reducible exact H2_) | (have H2_ := (Option.bind_some _ _).symm.trans H; with_reducible exact H2_) | with_reducible exact H | (rw [hy437]; exact H) | exact H
             have Ny437 := Goto.m0 hy437
             clear hy437
             obtain ⟨y440, hy440⟩ : ∃ y_ : List Int, y_ = (([a1] : List Int)) := ⟨_, rfl⟩
             replace H : (if y437.length + y440.length < 17592186044416 then (some (false, 0, a0_0, a0_1, a0_2, a0_3, l0_4, l0_5, l0_6, (y437 ++ y440))) else (none)) = some (r1, r2, r3, r4, r5, r6, r7, r8, r9, r10) := by first | (rw [hy440]; with_reducible exact H) | (have H2_ := (Option.bind_some _ _).symm.trans H; rw [hy440]; with_reducible exact H2_) | (have H2_ := (Option.bind_some _ _).symm.trans H; with_reducible exact H2_) | with_reducible exact H | (rw [hy440]; exact H) | exact H
             have Ny440 := Goto.m0 hy440
             clear hy440
             by_cases c121 : y437.length + y440.length < 17592186044416
             ·
              rw [if_pos c121] at H
              have LMc121 := Goto.m0 c121
              clear c121
              obtain ⟨y443, hy443⟩ : ∃ y_ : List Int, y_ = (y437 ++ y440) := ⟨_, rfl⟩
              replace H : (some (false, 0, a0_0, a0_1, a0_2, a0_3, l0_4, l0_5, l0_6, y443)) = some (r1, r2, r3, r4, r5, r6, r7, r8, r9, r10) := by first | (rw [hy443]; with_reducible exact H) | (have H2_ := (Option.bind_some _ _).symm.trans H; rw [hy443]; with_reducible exact H2_) | (have H2_ := (Option.bind_some _ _).symm.trans H; with_reducible exact H2_) | with_reducible exact H | (rw [hy443]; exact H) | exact H
              have Ny443 := Goto.m0 hy443
              clear hy443
              have hix122e : a2 = 3 := eq_of_beq (by first | (with_reducible assumption) | assumption)
              have hix122 : (a2).toNat = 3 := by rw [hix122e]; rfl
              have hix122c : (0 ≤ a2 ∧ a2 < (4 : Int)) = True := eq_true (by rw [hix122e]; decide)
              clear hix122e
              simp only [Option.some.injEq, Prod.mk.injEq] at H
              obtain ⟨rfl, rfl, rfl, rfl, rfl, rfl, rfl, rfl, rfl, rfl⟩ := H
              have hcz123_0 := Goto.bc0 BK0; have hcz123_1 := Goto.bc1 BK0; have hcz123_2 := Goto.bc2 BK0; have hcz123_3 := Goto.bc3 BK0; have hcz123_4 := Goto.bc4 BK0; have hcz123_5 := Goto.bc5 BK0; have hcz123_6 := Goto.bc6 BK0; have hcz123_7 := Goto.bc7 BK0; have hfz123_0 := Goto.bf BK0 0; have hfz123_1 := Goto.bf BK0 1; have hfz123_2 := Goto.bf BK0 2; have hfz123_3 := Goto.bf BK0 3; have hfz123_4 := Goto.bf BK0 4; have hfz123_5 := Goto.bf BK0 5; have hfz123_6 := Goto.bf BK0 6; have hfz123_7 := Goto.bf BK0 7
              obtain ⟨Ao124, co124, eo124, _⟩ := Kd.Q_slice HO_1007.out
              subst eo124
              try go_wp2
              replace HO_1004 := Goto.m0 (Kd.Q_drew HO_1004.out); replace HO_1005 := Goto.m0 (Kd.Q_drew HO_1005.out); replace HO_1006 := Goto.m0 (Kd.Q_drew HO_1006.out); replace HO_1007 := Goto.m0 (Kd.Q_drew HO_1007.out); replace BK0 := Goto.m0 (blk_drew BK0.out); replace HK := Goto.m0 (Kept.drew HK.out); replace HB := Goto.m0 (below_drew1 HB.out)
              refine start_ (n := 16) (S := fun w' => w'.cell? ⟨g, 0, none⟩ = some (.int .i64 a0_0) ∧ w'.cell? ⟨g, 1, none⟩ = some (.int .i64 a0_1) ∧ w'.cell? ⟨g, 2, none⟩ = some (.int .i64 a0_2) ∧ w'.cell? ⟨g, 3, none⟩ = some (.int .i64 a0_3) ∧ w'.cell? ⟨g, 4, none⟩ = some (u9000_) ∧ w'.cell? ⟨g, 5, none⟩ = some (u9001_) ∧ w'.cell? ⟨g, 6, none⟩ = some (u9002_) ∧ w'.cell? ⟨g, 7, none⟩ = some (.slice Ao124 l0_7.length co124)) (ds := [15]) (.replicate 16 false) (by kernel_rfl) rfl rfl ⟨(blk_cell BK0.out 0).trans rfl, (blk_cell BK0.out 1).trans rfl, (blk_cell BK0.out 2).trans rfl, (blk_cell BK0.out 3).trans rfl, (blk_cell BK0.out 4).trans rfl, (blk_cell BK0.out 5).trans rfl, (blk_cell BK0.out 6).trans rfl, (blk_cell BK0.out 7).trans rfl⟩ (fun hHeld => ?_); refine with_tabW tontineref8_Objects_Wait.tab11 tontineref8_Objects_Wait.bits11 (fun HT_ HW_ => ?_)
              generalize wr.drew = w125 at HO_1004 HO_1005 HO_1006 HO_1007 BK0 HK HB hHeld ⊢
              refine Goto.pu 0 43 16 1 ?_
              refine Goto.pu 1 44 16 3 ?_
              refine Goto.pu 2 45 16 7 ?_
              refine Goto.pu 3 46 16 15 ?_
              refine Goto.pu 4 47 16 31 ?_
              refine Goto.pu 5 48 16 63 ?_
              refine Goto.pu 6 49 16 127 ?_
              refine Goto.pu 9 52 16 639 ?_
              refine Goto.pu 12 55 16 4735 ?_
              refine Goto.pu 13 56 16 12927 ?_
              refine take_ (i := 7) (N := some 50) (v := ?_) (a' := ?_) (Goto.bs 16 13055) rfl rfl (take_ofW HT_.out HW_.out (by kernel_rfl)) (fun _ _ _ h => h) (Or.inl ⟨by rfl, ?_⟩) hHeld ?_ ?_
              rotate_left
              ·
               rintro w' ⟨s0, s1, s2, s3, s4, s5, s6, s7⟩
               go_simp
               with_reducible rfl
              rotate_left
              ·
               exact Goto.ap
              refine join_ (σ := Value × Value) 3 (Goto.bs 16 14335) (fun s_ => [(51, s_.1), (53, s_.2)]) (fun s_ w' => (w'.cell? ⟨g, 0, none⟩ = some (.int .i64 a0_0) ∧ w'.cell? ⟨g, 1, none⟩ = some (.int .i64 a0_1) ∧ w'.cell? ⟨g, 2, none⟩ = some (.int .i64 a0_2) ∧ w'.cell? ⟨g, 3, none⟩ = some (.int .i64 a0_3) ∧ w'.cell? ⟨g, 4, none⟩ = some (u9000_) ∧ w'.cell? ⟨g, 5, none⟩ = some (u9001_) ∧ w'.cell? ⟨g, 6, none⟩ = some (u9002_) ∧ w'.cell? ⟨g, 7, none⟩ = some (.slice Ao124 l0_7.length co124)) ∧ (Kd.R (Kd.int .i64) 3 w' w0.heap.size (fun k_ => ((P0_4_ k_ ∨ P0_5_ k_ ∨ P0_6_ k_ ∨ P0_7_ k_) ∨ w.heap.size ≤ k_) ∧ some k_ ≠ (s_.2 : Value).ownBlock ∧ some k_ ≠ (u9000_ : Value).ownBlock ∧ some k_ ≠ (u9001_ : Value).ownBlock ∧ some k_ ≠ (u9002_ : Value).ownBlock ∧ some k_ ≠ (.slice Ao124 l0_7.length co124 : Value).ownBlock) s_.1 y437) ∧ (Kd.R (Kd.int .i64) 3 w' w0.heap.size (fun k_ => ((P0_4_ k_ ∨ P0_5_ k_ ∨ P0_6_ k_ ∨ P0_7_ k_) ∨ w.heap.size ≤ k_) ∧ some k_ ≠ (s_.1 : Value).ownBlock ∧ some k_ ≠ (u9000_ : Value).ownBlock ∧ some k_ ≠ (u9001_ : Value).ownBlock ∧ some k_ ≠ (u9002_ : Value).ownBlock ∧ some k_ ≠ (.slice Ao124 l0_7.length co124 : Value).ownBlock) s_.2 y440) ∧ (Kd.Q (Kd.int .i64) 3 w' w0.heap.size (fun k_ => ((P0_4_ k_ ∨ P0_5_ k_ ∨ P0_6_ k_ ∨ P0_7_ k_) ∨ w.heap.size ≤ k_) ∧ some k_ ≠ (s_.1 : Value).ownBlock ∧ some k_ ≠ (s_.2 : Value).ownBlock ∧ some k_ ≠ (u9001_ : Value).ownBlock ∧ some k_ ≠ (u9002_ : Value).ownBlock ∧ some k_ ≠ (.slice Ao124 l0_7.length co124 : Value).ownBlock) u9000_ l0_4) ∧ (Kd.Q (Kd.int .i64) 3 w' w0.heap.size (fun k_ => ((P0_4_ k_ ∨ P0_5_ k_ ∨ P0_6_ k_ ∨ P0_7_ k_) ∨ w.heap.size ≤ k_) ∧ some k_ ≠ (s_.1 : Value).ownBlock ∧ some k_ ≠ (s_.2 : Value).ownBlock ∧ some k_ ≠ (u9000_ : Value).ownBlock ∧ some k_ ≠ (u9002_ : Value).ownBlock ∧ some k_ ≠ (.slice Ao124 l0_7.length co124 : Value).ownBlock) u9001_ l0_5) ∧ (Kd.Q (Kd.int .i64) 3 w' w0.heap.size (fun k_ => ((P0_4_ k_ ∨ P0_5_ k_ ∨ P0_6_ k_ ∨ P0_7_ k_) ∨ w.heap.size ≤ k_) ∧ some k_ ≠ (s_.1 : Value).ownBlock ∧ some k_ ≠ (s_.2 : Value).ownBlock ∧ some k_ ≠ (u9000_ : Value).ownBlock ∧ some k_ ≠ (u9001_ : Value).ownBlock ∧ some k_ ≠ (.slice Ao124 l0_7.length co124 : Value).ownBlock) u9002_ l0_6) ∧ (Kd.Q (Kd.int .i64) 3 w' w0.heap.size (fun k_ => ((P0_4_ k_ ∨ P0_5_ k_ ∨ P0_6_ k_ ∨ P0_7_ k_) ∨ w.heap.size ≤ k_) ∧ some k_ ≠ (s_.1 : Value).ownBlock ∧ some k_ ≠ (s_.2 : Value).ownBlock ∧ some k_ ≠ (u9000_ : Value).ownBlock ∧ some k_ ≠ (u9001_ : Value).ownBlock ∧ some k_ ≠ (u9002_ : Value).ownBlock) (.slice Ao124 l0_7.length co124) l0_7) ∧ (w'.heap[g]? = some (.cells #[.int .i64 a0_0, .int .i64 a0_1, .int .i64 a0_2, .int .i64 a0_3, u9000_, u9001_, u9002_, .slice Ao124 l0_7.length co124] 55 (0, 0))) ∧ (Kept w w' (fun k_ => (P0_4_ k_ ∨ P0_5_ k_ ∨ P0_6_ k_ ∨ P0_7_ k_) ∨ k_ = g)) ∧ (Below w0.heap.size w0 w')) ?_ ?_
              rotate_left
              ·
               intro hCont
               refine two_ (i := 8) (j := 10) (Ni := some 51) (Nj := some 53) (Goto.bs 16 13311) (Goto.bs 16 14079) rfl rfl rfl rfl (two_of HT_.out (by kernel_rfl)) (by decide) (by decide) (fun K hK => ?_) (fun K hK => ?_)
               ·
                skip
                refine Kd.R_append_rows_step (Kd.int .i64) (w0 := w0) w0.heap.size rfl (.const (.slice none 0 0)) (.tmp 50) 52 3 (.int .i64 0) 8 rfl Tryd.underlying52 info3 rfl (by decide) (by omega) (.slice none 0 0) ([] : List Int) l0_7 _ _ _ (fun k_ => ((P0_4_ k_ ∨ P0_5_ k_ ∨ P0_6_ k_ ∨ P0_7_ k_) ∨ w.heap.size ≤ k_) ∧ some k_ ≠ (u9000_ : Value).ownBlock ∧ some k_ ≠ (u9001_ : Value).ownBlock ∧ some k_ ≠ (u9002_ : Value).ownBlock ∧ some k_ ≠ (.slice Ao124 l0_7.length co124 : Value).ownBlock) (fun _ => False) rfl rfl ?aO ?aR (fun _ _ h => h) (fun _ h => h.elim) ?aF ?aB ?aS ?aL ?_
                (case aR => repeat (first | exact (Kd.Q_reads' HO_1007.out).2.2 | (with_reducible refine Kd.C_alloc ?_ _) | (with_reducible refine Kd.C_drewN ?_ _) | (with_reducible refine Kd.C_drew ?_)))
                (case aB => exact (Goto.hx HB))
                (case aF => exact (fun k_ hk => ⟨(.inr (Nat.le_trans (by first | exact HK.out.1 | exact (show Kept w _ (fun k_ => (P0_4_ k_ ∨ P0_5_ k_ ∨ P0_6_ k_ ∨ P0_7_ k_) ∨ k_ = g) from by repeat (first | (with_reducible first | exact HK.out | apply Kept.alloc | apply Kept.drewN | apply Kept.drew | refine Kept.setCell ?_ (.inl (.inr rfl)) _) | exact HK.out)).1) hk)), Kd.fresh' (Kd.Q_lt (by (with_reducible repeat (first | apply Kd.Q_alloc | apply Kd.Q_drewN | apply Kd.Q_drew)); exact HO_1004.out)) k_ hk, Kd.fresh' (Kd.Q_lt (by (with_reducible repeat (first | apply Kd.Q_alloc | apply Kd.Q_drewN | apply Kd.Q_drew)); exact HO_1005.out)) k_ hk, Kd.fresh' (Kd.Q_lt (by (with_reducible repeat (first | apply Kd.Q_alloc | apply Kd.Q_drewN | apply Kd.Q_drew)); exact HO_1006.out)) k_ hk, Kd.fresh' (Kd.Q_lt (by (with_reducible repeat (first | apply Kd.Q_alloc | apply Kd.Q_drewN | apply Kd.Q_drew)); exact HO_1007.out)) k_ hk⟩))
                (case aO => exact ((Kd.R_nil _ _ _ _ (fun k_ => ((P0_4_ k_ ∨ P0_5_ k_ ∨ P0_6_ k_ ∨ P0_7_ k_) ∨ w.heap.size ≤ k_) ∧ some k_ ≠ (u9000_ : Value).ownBlock ∧ some k_ ≠ (u9001_ : Value).ownBlock ∧ some k_ ≠ (u9002_ : Value).ownBlock ∧ some k_ ≠ (.slice Ao124 l0_7.length co124 : Value).ownBlock))))
                (case aS => exact (below_size (Goto.hx HB)))
                (case aL => have := LMc120.out; omega)
                intro v438 w126 ho hb hg hat
                rw [← Ny437.out] at ho
                have HO439 := Goto.m0 (ho); replace HO_1004 := Goto.m0 (Kd.Q_after (Kd.Q_apart_nil (by (with_reducible repeat (first | apply Kd.Q_alloc | apply Kd.Q_drewN | apply Kd.Q_drew)); exact HO_1004.out)) hg hat); replace HO_1005 := Goto.m0 (Kd.Q_after (Kd.Q_apart_nil (by (with_reducible repeat (first | apply Kd.Q_alloc | apply Kd.Q_drewN | apply Kd.Q_drew)); exact HO_1005.out)) hg hat); replace HO_1006 := Goto.m0 (Kd.Q_after (Kd.Q_apart_nil (by (with_reducible repeat (first | apply Kd.Q_alloc | apply Kd.Q_drewN | apply Kd.Q_drew)); exact HO_1006.out)) hg hat); replace HO_1007 := Goto.m0 (Kd.Q_after (Kd.Q_apart_nil (by (with_reducible repeat (first | apply Kd.Q_alloc | apply Kd.Q_drewN | apply Kd.Q_drew)); exact HO_1007.out)) hg hat); replace BK0 := Goto.m0 (blk_grown (g := g) (o := .cells #[.int .i64 a0_0, .int .i64 a0_1, .int .i64 a0_2, .int .i64 a0_3, u9000_, u9001_, u9002_, .slice Ao124 l0_7.length co124] 55 (0, 0)) (Goto.bx BK0) hg (by simp [Value.ownBlock])); replace HB := Goto.m0 (hb); replace HK := Goto.m0 (Kept.of_grown (S := (fun k_ => (P0_4_ k_ ∨ P0_5_ k_ ∨ P0_6_ k_ ∨ P0_7_ k_) ∨ k_ = g)) hg (by repeat (first | (with_reducible first | exact HK.out | apply Kept.alloc | apply Kept.drewN | apply Kept.drew | refine Kept.setCell ?_ (.inl (.inr rfl)) _) | exact HK.out)) (fun k_ e_ => by simp [Value.ownBlock] at e_)); clear ho hb hg hat
                refine hK.out _ _ ⟨(blk_cell BK0.out 0).trans rfl, (blk_cell BK0.out 1).trans rfl, (blk_cell BK0.out 2).trans rfl, (blk_cell BK0.out 3).trans rfl, (blk_cell BK0.out 4).trans rfl, (blk_cell BK0.out 5).trans rfl, (blk_cell BK0.out 6).trans rfl, (blk_cell BK0.out 7).trans rfl⟩ (fun hHeld => ?_)
                clear hK K
                refine norm_ (a' := ?_) ?_ ?_
                rotate_left
                ·
                 show Act.put _ (some 51) _ = _
                 exact Goto.ap
                refine one_ (i := 10) (N := some 53) (Goto.bs 16 14335) rfl rfl (one_of HT_.out (by kernel_rfl)) (by decide) (fun K hK => ?_)
                refine Kd.R_lit_step (Kd.int .i64) _ 3 ?hg (N := 53) ?hd (xs := ([a1] : List Int)) (inner := [.int .i64 a1]) (ok := fun _ => True) (okp := fun _ => True) ?hr ?hp (fun _ hk => hk) trivial (Below.refl _ _) (Nat.le_refl _) (by simp) ?_; (case hd => rfl); (case hg => rfl); (case hr => first | (go_simp; done) | (go_simp; rfl)); (case hp => exact (Reps.one (show Kd.M (Kd.int .i64) _ _ _ a1 [.int .i64 a1] from rfl) (Reps.none _ _)))
                intro v441 w127 ho128 hb hg_ hnew_
                clear hg_ hnew_
                (first | rw [← Ny440.out] at ho128 | (simp only [Int.reduceToNat] at ho128; rw [← Ny440.out] at ho128))
                have HO442 := Goto.m0 (Kd.R_lower (Kd.R_new' (Kd.R_new' (Kd.R_new' (Kd.R_new' (Kd.R_new' (Kd.R_newM (M := fun k_ => ((P0_4_ k_ ∨ P0_5_ k_ ∨ P0_6_ k_ ∨ P0_7_ k_) ∨ w.heap.size ≤ k_)) ho128 (by first | exact HK.out.1 | exact (show Kept w _ (fun k_ => (P0_4_ k_ ∨ P0_5_ k_ ∨ P0_6_ k_ ∨ P0_7_ k_) ∨ k_ = g) from by repeat (first | (with_reducible first | exact HK.out | apply Kept.alloc | apply Kept.drewN | apply Kept.drew | refine Kept.setCell ?_ (.inl (.inr rfl)) _) | exact HK.out)).1) (fun k_ h_ => .inr h_)) (Kd.Q_lt (by (with_reducible repeat (first | apply Kd.Q_alloc | apply Kd.Q_drewN | apply Kd.Q_drew)); exact HO_1004.out))) (Kd.Q_lt (by (with_reducible repeat (first | apply Kd.Q_alloc | apply Kd.Q_drewN | apply Kd.Q_drew)); exact HO_1005.out))) (Kd.Q_lt (by (with_reducible repeat (first | apply Kd.Q_alloc | apply Kd.Q_drewN | apply Kd.Q_drew)); exact HO_1006.out))) (Kd.Q_lt (by (with_reducible repeat (first | apply Kd.Q_alloc | apply Kd.Q_drewN | apply Kd.Q_drew)); exact HO_1007.out))) (Kd.R_lt (Goto.rk HO439))) (below_size (Goto.hx HB))); replace HO_1004 := Goto.m0 (Kd.Q_elder' (by (with_reducible repeat (first | apply Kd.Q_alloc | apply Kd.Q_drewN | apply Kd.Q_drew)); exact HO_1004.out) (Kd.R_base ho128) hb); replace HO_1005 := Goto.m0 (Kd.Q_elder' (by (with_reducible repeat (first | apply Kd.Q_alloc | apply Kd.Q_drewN | apply Kd.Q_drew)); exact HO_1005.out) (Kd.R_base ho128) hb); replace HO_1006 := Goto.m0 (Kd.Q_elder' (by (with_reducible repeat (first | apply Kd.Q_alloc | apply Kd.Q_drewN | apply Kd.Q_drew)); exact HO_1006.out) (Kd.R_base ho128) hb); replace HO_1007 := Goto.m0 (Kd.Q_elder' (by (with_reducible repeat (first | apply Kd.Q_alloc | apply Kd.Q_drewN | apply Kd.Q_drew)); exact HO_1007.out) (Kd.R_base ho128) hb); replace HO439 := Goto.m0 (Kd.R_elder' (Goto.rk HO439) (Kd.R_base ho128) hb); replace BK0 := Goto.bb BK0 hb; replace HK := Goto.m0 (Kept.below (S := (fun k_ => (P0_4_ k_ ∨ P0_5_ k_ ∨ P0_6_ k_ ∨ P0_7_ k_) ∨ k_ = g)) (by repeat (first | (with_reducible first | exact HK.out | apply Kept.alloc | apply Kept.drewN | apply Kept.drew | refine Kept.setCell ?_ (.inl (.inr rfl)) _) | exact HK.out)) hb); replace HB := Goto.hs HB hb; clear hb ho128
                refine hK.out _ _ ⟨(blk_cell BK0.out 0).trans rfl, (blk_cell BK0.out 1).trans rfl, (blk_cell BK0.out 2).trans rfl, (blk_cell BK0.out 3).trans rfl, (blk_cell BK0.out 4).trans rfl, (blk_cell BK0.out 5).trans rfl, (blk_cell BK0.out 6).trans rfl, (blk_cell BK0.out 7).trans rfl⟩ (fun hHeld => ?_)
                clear hK K
                refine norm_ (a' := ?_) ?_ ?_
                rotate_left
                ·
                 show Act.put _ (some 53) _ = _
                 exact Goto.ap
                exact norm_ (by simp only [putAll, Act.put, List.setIfInBounds_toArray, List.set_cons_zero, List.set_cons_succ]) (hCont (v438, v441) _ ⟨hHeld, (by (with_reducible repeat (first | apply Kd.R_alloc | apply Kd.R_drewN | apply Kd.R_drew)); exact Kd.R_mono HO439.out (fun _ hk => ⟨hk.1.1, ⟨hk.2, ⟨hk.1.2.1, ⟨hk.1.2.2.1, ⟨hk.1.2.2.2.1, hk.1.2.2.2.2⟩⟩⟩⟩⟩)), (by (with_reducible repeat (first | apply Kd.R_alloc | apply Kd.R_drewN | apply Kd.R_drew)); exact Kd.R_mono HO442.out (fun _ hk => ⟨hk.1.1.1.1.1.1, ⟨hk.2, ⟨hk.1.1.1.1.2, ⟨hk.1.1.1.2, ⟨hk.1.1.2, hk.1.2⟩⟩⟩⟩⟩)), (by (with_reducible repeat (first | apply Kd.Q_alloc | apply Kd.Q_drewN | apply Kd.Q_drew)); exact Kd.Q_mono HO_1004.out (fun _ hk => ⟨hk.1.1.1, ⟨hk.1.2, ⟨hk.2, ⟨hk.1.1.2.1, ⟨hk.1.1.2.2.1, hk.1.1.2.2.2⟩⟩⟩⟩⟩)), (by (with_reducible repeat (first | apply Kd.Q_alloc | apply Kd.Q_drewN | apply Kd.Q_drew)); exact Kd.Q_mono HO_1005.out (fun _ hk => ⟨hk.1.1.1, ⟨hk.1.2, ⟨hk.2, ⟨hk.1.1.2.1, ⟨hk.1.1.2.2.1, hk.1.1.2.2.2⟩⟩⟩⟩⟩)), (by (with_reducible repeat (first | apply Kd.Q_alloc | apply Kd.Q_drewN | apply Kd.Q_drew)); exact Kd.Q_mono HO_1006.out (fun _ hk => ⟨hk.1.1.1, ⟨hk.1.2, ⟨hk.2, ⟨hk.1.1.2.1, ⟨hk.1.1.2.2.1, hk.1.1.2.2.2⟩⟩⟩⟩⟩)), (by (with_reducible repeat (first | apply Kd.Q_alloc | apply Kd.Q_drewN | apply Kd.Q_drew)); exact Kd.Q_mono HO_1007.out (fun _ hk => ⟨hk.1.1.1, ⟨hk.1.2, ⟨hk.2, ⟨hk.1.1.2.1, ⟨hk.1.1.2.2.1, hk.1.1.2.2.2⟩⟩⟩⟩⟩)), (Goto.bx BK0), (by repeat (first | (with_reducible first | exact HK.out | apply Kept.alloc | apply Kept.drewN | apply Kept.drew | refine Kept.setCell ?_ (.inl (.inr rfl)) _) | exact HK.out)), (Goto.hx HB)⟩)
               ·
                skip
                refine Kd.R_lit_step (Kd.int .i64) _ 3 ?hg (N := 53) ?hd (xs := ([a1] : List Int)) (inner := [.int .i64 a1]) (ok := fun _ => True) (okp := fun _ => True) ?hr ?hp (fun _ hk => hk) trivial (Below.refl _ _) (Nat.le_refl _) (by simp) ?_; (case hd => rfl); (case hg => rfl); (case hr => first | (go_simp; done) | (go_simp; rfl)); (case hp => exact (Reps.one (show Kd.M (Kd.int .i64) _ _ _ a1 [.int .i64 a1] from rfl) (Reps.none _ _)))
                intro v441 w126 ho127 hb hg_ hnew_
                clear hg_ hnew_
                (first | rw [← Ny440.out] at ho127 | (simp only [Int.reduceToNat] at ho127; rw [← Ny440.out] at ho127))
                have HO442 := Goto.m0 (Kd.R_lower (Kd.R_new' (Kd.R_new' (Kd.R_new' (Kd.R_new' (Kd.R_newM (M := fun k_ => ((P0_4_ k_ ∨ P0_5_ k_ ∨ P0_6_ k_ ∨ P0_7_ k_) ∨ w.heap.size ≤ k_)) ho127 (by first | exact HK.out.1 | exact (show Kept w _ (fun k_ => (P0_4_ k_ ∨ P0_5_ k_ ∨ P0_6_ k_ ∨ P0_7_ k_) ∨ k_ = g) from by repeat (first | (with_reducible first | exact HK.out | apply Kept.alloc | apply Kept.drewN | apply Kept.drew | refine Kept.setCell ?_ (.inl (.inr rfl)) _) | exact HK.out)).1) (fun k_ h_ => .inr h_)) (Kd.Q_lt (by (with_reducible repeat (first | apply Kd.Q_alloc | apply Kd.Q_drewN | apply Kd.Q_drew)); exact HO_1004.out))) (Kd.Q_lt (by (with_reducible repeat (first | apply Kd.Q_alloc | apply Kd.Q_drewN | apply Kd.Q_drew)); exact HO_1005.out))) (Kd.Q_lt (by (with_reducible repeat (first | apply Kd.Q_alloc | apply Kd.Q_drewN | apply Kd.Q_drew)); exact HO_1006.out))) (Kd.Q_lt (by (with_reducible repeat (first | apply Kd.Q_alloc | apply Kd.Q_drewN | apply Kd.Q_drew)); exact HO_1007.out))) (below_size (Goto.hx HB))); replace HO_1004 := Goto.m0 (Kd.Q_elder' (by (with_reducible repeat (first | apply Kd.Q_alloc | apply Kd.Q_drewN | apply Kd.Q_drew)); exact HO_1004.out) (Kd.R_base ho127) hb); replace HO_1005 := Goto.m0 (Kd.Q_elder' (by (with_reducible repeat (first | apply Kd.Q_alloc | apply Kd.Q_drewN | apply Kd.Q_drew)); exact HO_1005.out) (Kd.R_base ho127) hb); replace HO_1006 := Goto.m0 (Kd.Q_elder' (by (with_reducible repeat (first | apply Kd.Q_alloc | apply Kd.Q_drewN | apply Kd.Q_drew)); exact HO_1006.out) (Kd.R_base ho127) hb); replace HO_1007 := Goto.m0 (Kd.Q_elder' (by (with_reducible repeat (first | apply Kd.Q_alloc | apply Kd.Q_drewN | apply Kd.Q_drew)); exact HO_1007.out) (Kd.R_base ho127) hb); replace BK0 := Goto.bb BK0 hb; replace HK := Goto.m0 (Kept.below (S := (fun k_ => (P0_4_ k_ ∨ P0_5_ k_ ∨ P0_6_ k_ ∨ P0_7_ k_) ∨ k_ = g)) (by repeat (first | (with_reducible first | exact HK.out | apply Kept.alloc | apply Kept.drewN | apply Kept.drew | refine Kept.setCell ?_ (.inl (.inr rfl)) _) | exact HK.out)) hb); replace HB := Goto.hs HB hb; clear hb ho127
                refine hK.out _ _ ⟨(blk_cell BK0.out 0).trans rfl, (blk_cell BK0.out 1).trans rfl, (blk_cell BK0.out 2).trans rfl, (blk_cell BK0.out 3).trans rfl, (blk_cell BK0.out 4).trans rfl, (blk_cell BK0.out 5).trans rfl, (blk_cell BK0.out 6).trans rfl, (blk_cell BK0.out 7).trans rfl⟩ (fun hHeld => ?_)
                clear hK K
                refine norm_ (a' := ?_) ?_ ?_
                rotate_left
                ·
                 show Act.put _ (some 53) _ = _
                 exact Goto.ap
                refine one_ (i := 8) (N := some 51) (Goto.bs 16 14335) rfl rfl (one_of HT_.out (by kernel_rfl)) (by decide) (fun K hK => ?_)
                refine Kd.R_append_rows_step (Kd.int .i64) (w0 := w0) w0.heap.size rfl (.const (.slice none 0 0)) (.tmp 50) 52 3 (.int .i64 0) 8 rfl Tryd.underlying52 info3 rfl (by decide) (by omega) (.slice none 0 0) ([] : List Int) l0_7 _ _ _ (fun k_ => ((P0_4_ k_ ∨ P0_5_ k_ ∨ P0_6_ k_ ∨ P0_7_ k_) ∨ w.heap.size ≤ k_) ∧ some k_ ≠ (u9000_ : Value).ownBlock ∧ some k_ ≠ (u9001_ : Value).ownBlock ∧ some k_ ≠ (u9002_ : Value).ownBlock ∧ some k_ ≠ (.slice Ao124 l0_7.length co124 : Value).ownBlock ∧ some k_ ≠ (v441 : Value).ownBlock) (fun _ => False) rfl rfl ?aO ?aR (fun _ _ h => h) (fun _ h => h.elim) ?aF ?aB ?aS ?aL ?_
                (case aR => repeat (first | exact (Kd.Q_reads' HO_1007.out).2.2 | (with_reducible refine Kd.C_alloc ?_ _) | (with_reducible refine Kd.C_drewN ?_ _) | (with_reducible refine Kd.C_drew ?_)))
                (case aB => exact (Goto.hx HB))
                (case aF => exact (fun k_ hk => ⟨(.inr (Nat.le_trans (by first | exact HK.out.1 | exact (show Kept w _ (fun k_ => (P0_4_ k_ ∨ P0_5_ k_ ∨ P0_6_ k_ ∨ P0_7_ k_) ∨ k_ = g) from by repeat (first | (with_reducible first | exact HK.out | apply Kept.alloc | apply Kept.drewN | apply Kept.drew | refine Kept.setCell ?_ (.inl (.inr rfl)) _) | exact HK.out)).1) hk)), Kd.fresh' (Kd.Q_lt (by (with_reducible repeat (first | apply Kd.Q_alloc | apply Kd.Q_drewN | apply Kd.Q_drew)); exact HO_1004.out)) k_ hk, Kd.fresh' (Kd.Q_lt (by (with_reducible repeat (first | apply Kd.Q_alloc | apply Kd.Q_drewN | apply Kd.Q_drew)); exact HO_1005.out)) k_ hk, Kd.fresh' (Kd.Q_lt (by (with_reducible repeat (first | apply Kd.Q_alloc | apply Kd.Q_drewN | apply Kd.Q_drew)); exact HO_1006.out)) k_ hk, Kd.fresh' (Kd.Q_lt (by (with_reducible repeat (first | apply Kd.Q_alloc | apply Kd.Q_drewN | apply Kd.Q_drew)); exact HO_1007.out)) k_ hk, Kd.fresh' (Kd.R_lt (Goto.rk HO442)) k_ hk⟩))
                (case aO => exact ((Kd.R_nil _ _ _ _ (fun k_ => ((P0_4_ k_ ∨ P0_5_ k_ ∨ P0_6_ k_ ∨ P0_7_ k_) ∨ w.heap.size ≤ k_) ∧ some k_ ≠ (u9000_ : Value).ownBlock ∧ some k_ ≠ (u9001_ : Value).ownBlock ∧ some k_ ≠ (u9002_ : Value).ownBlock ∧ some k_ ≠ (.slice Ao124 l0_7.length co124 : Value).ownBlock ∧ some k_ ≠ (v441 : Value).ownBlock))))
                (case aS => exact (below_size (Goto.hx HB)))
                (case aL => have := LMc120.out; omega)
                intro v438 w128 ho hb hg hat
                rw [← Ny437.out] at ho
                have HO439 := Goto.m0 (ho); replace HO_1004 := Goto.m0 (Kd.Q_after (Kd.Q_apart_nil (by (with_reducible repeat (first | apply Kd.Q_alloc | apply Kd.Q_drewN | apply Kd.Q_drew)); exact HO_1004.out)) hg hat); replace HO_1005 := Goto.m0 (Kd.Q_after (Kd.Q_apart_nil (by (with_reducible repeat (first | apply Kd.Q_alloc | apply Kd.Q_drewN | apply Kd.Q_drew)); exact HO_1005.out)) hg hat); replace HO_1006 := Goto.m0 (Kd.Q_after (Kd.Q_apart_nil (by (with_reducible repeat (first | apply Kd.Q_alloc | apply Kd.Q_drewN | apply Kd.Q_drew)); exact HO_1006.out)) hg hat); replace HO_1007 := Goto.m0 (Kd.Q_after (Kd.Q_apart_nil (by (with_reducible repeat (first | apply Kd.Q_alloc | apply Kd.Q_drewN | apply Kd.Q_drew)); exact HO_1007.out)) hg hat); replace BK0 := Goto.m0 (blk_grown (g := g) (o := .cells #[.int .i64 a0_0, .int .i64 a0_1, .int .i64 a0_2, .int .i64 a0_3, u9000_, u9001_, u9002_, .slice Ao124 l0_7.length co124] 55 (0, 0)) (Goto.bx BK0) hg (by simp [Value.ownBlock])); replace HO442 := Goto.m0 (Kd.R_after (Kd.R_apart_nil (Goto.rk HO442)) hg hat); replace HB := Goto.m0 (hb); replace HK := Goto.m0 (Kept.of_grown (S := (fun k_ => (P0_4_ k_ ∨ P0_5_ k_ ∨ P0_6_ k_ ∨ P0_7_ k_) ∨ k_ = g)) hg (by repeat (first | (with_reducible first | exact HK.out | apply Kept.alloc | apply Kept.drewN | apply Kept.drew | refine Kept.setCell ?_ (.inl (.inr rfl)) _) | exact HK.out)) (fun k_ e_ => by simp [Value.ownBlock] at e_)); clear ho hb hg hat
                refine hK.out _ _ ⟨(blk_cell BK0.out 0).trans rfl, (blk_cell BK0.out 1).trans rfl, (blk_cell BK0.out 2).trans rfl, (blk_cell BK0.out 3).trans rfl, (blk_cell BK0.out 4).trans rfl, (blk_cell BK0.out 5).trans rfl, (blk_cell BK0.out 6).trans rfl, (blk_cell BK0.out 7).trans rfl⟩ (fun hHeld => ?_)
                clear hK K
                refine norm_ (a' := ?_) ?_ ?_
                rotate_left
                ·
                 show Act.put _ (some 51) _ = _
                 exact Goto.ap
                exact norm_ (by simp only [putAll, Act.put, List.setIfInBounds_toArray, List.set_cons_zero, List.set_cons_succ]) (hCont (v438, v441) _ ⟨hHeld, (by (with_reducible repeat (first | apply Kd.R_alloc | apply Kd.R_drewN | apply Kd.R_drew)); exact Kd.R_mono HO439.out (fun _ hk => ⟨hk.1, ⟨hk.2.2.2.2.2, ⟨hk.2.1, ⟨hk.2.2.1, ⟨hk.2.2.2.1, hk.2.2.2.2.1⟩⟩⟩⟩⟩)), (by (with_reducible repeat (first | apply Kd.R_alloc | apply Kd.R_drewN | apply Kd.R_drew)); exact Kd.R_mono HO442.out (fun _ hk => ⟨hk.1.1.1.1.1.1, ⟨hk.2, ⟨hk.1.1.1.1.2, ⟨hk.1.1.1.2, ⟨hk.1.1.2, hk.1.2⟩⟩⟩⟩⟩)), (by (with_reducible repeat (first | apply Kd.Q_alloc | apply Kd.Q_drewN | apply Kd.Q_drew)); exact Kd.Q_mono HO_1004.out (fun _ hk => ⟨hk.1.1.1, ⟨hk.2, ⟨hk.1.2, ⟨hk.1.1.2.1, ⟨hk.1.1.2.2.1, hk.1.1.2.2.2⟩⟩⟩⟩⟩)), (by (with_reducible repeat (first | apply Kd.Q_alloc | apply Kd.Q_drewN | apply Kd.Q_drew)); exact Kd.Q_mono HO_1005.out (fun _ hk => ⟨hk.1.1.1, ⟨hk.2, ⟨hk.1.2, ⟨hk.1.1.2.1, ⟨hk.1.1.2.2.1, hk.1.1.2.2.2⟩⟩⟩⟩⟩)), (by (with_reducible repeat (first | apply Kd.Q_alloc | apply Kd.Q_drewN | apply Kd.Q_drew)); exact Kd.Q_mono HO_1006.out (fun _ hk => ⟨hk.1.1.1, ⟨hk.2, ⟨hk.1.2, ⟨hk.1.1.2.1, ⟨hk.1.1.2.2.1, hk.1.1.2.2.2⟩⟩⟩⟩⟩)), (by (with_reducible repeat (first | apply Kd.Q_alloc | apply Kd.Q_drewN | apply Kd.Q_drew)); exact Kd.Q_mono HO_1007.out (fun _ hk => ⟨hk.1.1.1, ⟨hk.2, ⟨hk.1.2, ⟨hk.1.1.2.1, ⟨hk.1.1.2.2.1, hk.1.1.2.2.2⟩⟩⟩⟩⟩)), (Goto.bx BK0), (by repeat (first | (with_reducible first | exact HK.out | apply Kept.alloc | apply Kept.drewN | apply Kept.drew | refine Kept.setCell ?_ (.inl (.inr rfl)) _) | exact HK.out)), (Goto.hx HB)⟩)
              rintro ⟨v438, v441⟩ w129 ⟨hS_, h0_, h1_, h2_, h3_, h4_, h5_, h6_, h7_, h8_⟩
              have n0_ : Aside0 (Kd.R (Kd.int .i64) 3 w129 w0.heap.size (fun k_ => ((P0_4_ k_ ∨ P0_5_ k_ ∨ P0_6_ k_ ∨ P0_7_ k_) ∨ w.heap.size ≤ k_) ∧ some k_ ≠ (v441 : Value).ownBlock ∧ some k_ ≠ (u9000_ : Value).ownBlock ∧ some k_ ≠ (u9001_ : Value).ownBlock ∧ some k_ ≠ (u9002_ : Value).ownBlock ∧ some k_ ≠ (.slice Ao124 l0_7.length co124 : Value).ownBlock) v438 y437) := ⟨h0_⟩
              have n1_ : Aside0 (Kd.R (Kd.int .i64) 3 w129 w0.heap.size (fun k_ => ((P0_4_ k_ ∨ P0_5_ k_ ∨ P0_6_ k_ ∨ P0_7_ k_) ∨ w.heap.size ≤ k_) ∧ some k_ ≠ (v438 : Value).ownBlock ∧ some k_ ≠ (u9000_ : Value).ownBlock ∧ some k_ ≠ (u9001_ : Value).ownBlock ∧ some k_ ≠ (u9002_ : Value).ownBlock ∧ some k_ ≠ (.slice Ao124 l0_7.length co124 : Value).ownBlock) v441 y440) := ⟨h1_⟩
              have n2_ : Aside0 (Kd.Q (Kd.int .i64) 3 w129 w0.heap.size (fun k_ => ((P0_4_ k_ ∨ P0_5_ k_ ∨ P0_6_ k_ ∨ P0_7_ k_) ∨ w.heap.size ≤ k_) ∧ some k_ ≠ (v438 : Value).ownBlock ∧ some k_ ≠ (v441 : Value).ownBlock ∧ some k_ ≠ (u9001_ : Value).ownBlock ∧ some k_ ≠ (u9002_ : Value).ownBlock ∧ some k_ ≠ (.slice Ao124 l0_7.length co124 : Value).ownBlock) u9000_ l0_4) := ⟨h2_⟩
              have n3_ : Aside0 (Kd.Q (Kd.int .i64) 3 w129 w0.heap.size (fun k_ => ((P0_4_ k_ ∨ P0_5_ k_ ∨ P0_6_ k_ ∨ P0_7_ k_) ∨ w.heap.size ≤ k_) ∧ some k_ ≠ (v438 : Value).ownBlock ∧ some k_ ≠ (v441 : Value).ownBlock ∧ some k_ ≠ (u9000_ : Value).ownBlock ∧ some k_ ≠ (u9002_ : Value).ownBlock ∧ some k_ ≠ (.slice Ao124 l0_7.length co124 : Value).ownBlock) u9001_ l0_5) := ⟨h3_⟩
              have n4_ : Aside0 (Kd.Q (Kd.int .i64) 3 w129 w0.heap.size (fun k_ => ((P0_4_ k_ ∨ P0_5_ k_ ∨ P0_6_ k_ ∨ P0_7_ k_) ∨ w.heap.size ≤ k_) ∧ some k_ ≠ (v438 : Value).ownBlock ∧ some k_ ≠ (v441 : Value).ownBlock ∧ some k_ ≠ (u9000_ : Value).ownBlock ∧ some k_ ≠ (u9001_ : Value).ownBlock ∧ some k_ ≠ (.slice Ao124 l0_7.length co124 : Value).ownBlock) u9002_ l0_6) := ⟨h4_⟩
              have n5_ : Aside0 (Kd.Q (Kd.int .i64) 3 w129 w0.heap.size (fun k_ => ((P0_4_ k_ ∨ P0_5_ k_ ∨ P0_6_ k_ ∨ P0_7_ k_) ∨ w.heap.size ≤ k_) ∧ some k_ ≠ (v438 : Value).ownBlock ∧ some k_ ≠ (v441 : Value).ownBlock ∧ some k_ ≠ (u9000_ : Value).ownBlock ∧ some k_ ≠ (u9001_ : Value).ownBlock ∧ some k_ ≠ (u9002_ : Value).ownBlock) (.slice Ao124 l0_7.length co124) l0_7) := ⟨h5_⟩
              have n6_ : Aside0 (w129.heap[g]? = some (.cells #[.int .i64 a0_0, .int .i64 a0_1, .int .i64 a0_2, .int .i64 a0_3, u9000_, u9001_, u9002_, .slice Ao124 l0_7.length co124] 55 (0, 0))) := ⟨h6_⟩
              have n7_ : Aside0 (Kept w w129 (fun k_ => (P0_4_ k_ ∨ P0_5_ k_ ∨ P0_6_ k_ ∨ P0_7_ k_) ∨ k_ = g)) := ⟨h7_⟩
              have n8_ : Aside0 (Below w0.heap.size w0 w129) := ⟨h8_⟩
              clear HO_1004; clear HO_1005; clear HO_1006; clear HO_1007; clear BK0; clear HK; clear HB; clear h0_ h1_ h2_ h3_ h4_ h5_ h6_ h7_ h8_; have HO439 := n0_; have HO442 := n1_; have HO_1004 := n2_; have HO_1005 := n3_; have HO_1006 := n4_; have HO_1007 := n5_; have BK0 := n6_; have HK := n7_; have HB := n8_; clear n0_ n1_ n2_ n3_ n4_ n5_ n6_ n7_ n8_
              have hHeld : w129.cell? ⟨g, 0, none⟩ = some (.int .i64 a0_0) ∧ w129.cell? ⟨g, 1, none⟩ = some (.int .i64 a0_1) ∧ w129.cell? ⟨g, 2, none⟩ = some (.int .i64 a0_2) ∧ w129.cell? ⟨g, 3, none⟩ = some (.int .i64 a0_3) ∧ w129.cell? ⟨g, 4, none⟩ = some (u9000_) ∧ w129.cell? ⟨g, 5, none⟩ = some (u9001_) ∧ w129.cell? ⟨g, 6, none⟩ = some (u9002_) ∧ w129.cell? ⟨g, 7, none⟩ = some (.slice Ao124 l0_7.length co124) := hS_
              obtain ⟨Ao131, co131, eo131⟩ := Kd.R_slice HO442.out
              (first | subst eo131 | (injection eo131 with f1_ f2_ f3_; have f4_ := f1_.symm; have f5_ := f3_.symm; clear f1_ f2_ f3_; subst f4_; subst f5_))
              refine norm_ (a' := ?_) ?_ ?_
              rotate_left
              ·
               simp only [putAll, Act.put, List.setIfInBounds_toArray, List.set_cons_zero, List.set_cons_succ]
               rfl
              refine one_ (i := 11) (N := some 54) (Goto.bs 16 16383) rfl rfl (one_of HT_.out (by kernel_rfl)) (by decide) (fun K hK => ?_)
              refine Kd.R_append_rows_step (Kd.int .i64) (w0 := w0) w0.heap.size (by rfl) (.tmp 51) (.tmp 53) 52 3 (.int .i64 0) 8 rfl Tryd.underlying52 info3 rfl (by decide) (by omega) v438 y437 y440 _ _ _ (fun k_ => ((P0_4_ k_ ∨ P0_5_ k_ ∨ P0_6_ k_ ∨ P0_7_ k_) ∨ w.heap.size ≤ k_) ∧ some k_ ≠ (u9000_ : Value).ownBlock ∧ some k_ ≠ (u9001_ : Value).ownBlock ∧ some k_ ≠ (u9002_ : Value).ownBlock ∧ some k_ ≠ (.slice Ao124 l0_7.length co124 : Value).ownBlock ∧ some k_ ≠ (.slice Ao131 y440.length co131 : Value).ownBlock) (fun _ => False) rfl rfl ?aO ?aR (fun _ _ h => h) (fun _ h => h.elim) ?aF ?aB ?aS ?aL ?_
              (case aR => repeat (first | exact (Kd.R_reads' HO442.out).2.2 | (with_reducible refine Kd.C_alloc ?_ _) | (with_reducible refine Kd.C_drewN ?_ _) | (with_reducible refine Kd.C_drew ?_)))
              (case aB => exact (Goto.hx HB))
              (case aF => exact (fun k_ hk => ⟨(.inr (Nat.le_trans (by first | exact HK.out.1 | exact (show Kept w _ (fun k_ => (P0_4_ k_ ∨ P0_5_ k_ ∨ P0_6_ k_ ∨ P0_7_ k_) ∨ k_ = g) from by repeat (first | (with_reducible first | exact HK.out | apply Kept.alloc | apply Kept.drewN | apply Kept.drew | refine Kept.setCell ?_ (.inl (.inr rfl)) _) | exact HK.out)).1) hk)), Kd.fresh' (Kd.Q_lt (by (with_reducible repeat (first | apply Kd.Q_alloc | apply Kd.Q_drewN | apply Kd.Q_drew)); exact HO_1004.out)) k_ hk, Kd.fresh' (Kd.Q_lt (by (with_reducible repeat (first | apply Kd.Q_alloc | apply Kd.Q_drewN | apply Kd.Q_drew)); exact HO_1005.out)) k_ hk, Kd.fresh' (Kd.Q_lt (by (with_reducible repeat (first | apply Kd.Q_alloc | apply Kd.Q_drewN | apply Kd.Q_drew)); exact HO_1006.out)) k_ hk, Kd.fresh' (Kd.Q_lt (by (with_reducible repeat (first | apply Kd.Q_alloc | apply Kd.Q_drewN | apply Kd.Q_drew)); exact HO_1007.out)) k_ hk, Kd.fresh' (Kd.R_lt (Goto.rk HO442)) k_ hk⟩))
              (case aO => exact (by (with_reducible repeat (first | apply Kd.R_alloc | apply Kd.R_drewN | apply Kd.R_drew)); exact Kd.R_mono HO439.out (fun _ hk => ⟨hk.1, ⟨hk.2.2.1, ⟨hk.2.2.2.1, ⟨hk.2.2.2.2.1, ⟨hk.2.2.2.2.2, hk.2.1⟩⟩⟩⟩⟩)))
              (case aS => exact (below_size (Goto.hx HB)))
              (case aL => have := LMc121.out; omega)
              intro v444 w130 ho hb hg hat
              rw [← Ny443.out] at ho
              have n0_ := Goto.m0 (Kd.Q_after (ok := (fun k_ => ((P0_4_ k_ ∨ P0_5_ k_ ∨ P0_6_ k_ ∨ P0_7_ k_) ∨ w.heap.size ≤ k_) ∧ some k_ ≠ (u9001_ : Value).ownBlock ∧ some k_ ≠ (u9002_ : Value).ownBlock ∧ some k_ ≠ (.slice Ao124 l0_7.length co124 : Value).ownBlock ∧ some k_ ≠ (.slice Ao131 y440.length co131 : Value).ownBlock)) (by (with_reducible repeat (first | apply Kd.Q_alloc | apply Kd.Q_drewN | apply Kd.Q_drew)); exact Kd.Q_mono HO_1004.out (fun _ hk => ⟨⟨hk.1, ⟨hk.2.2.2.1, ⟨hk.2.2.2.2.1, ⟨hk.2.2.2.2.2, hk.2.2.1⟩⟩⟩⟩, hk.2.1⟩)) hg hat)
              have n1_ := Goto.m0 (Kd.Q_after (ok := (fun k_ => ((P0_4_ k_ ∨ P0_5_ k_ ∨ P0_6_ k_ ∨ P0_7_ k_) ∨ w.heap.size ≤ k_) ∧ some k_ ≠ (u9000_ : Value).ownBlock ∧ some k_ ≠ (u9002_ : Value).ownBlock ∧ some k_ ≠ (.slice Ao124 l0_7.length co124 : Value).ownBlock ∧ some k_ ≠ (.slice Ao131 y440.length co131 : Value).ownBlock)) (by (with_reducible repeat (first | apply Kd.Q_alloc | apply Kd.Q_drewN | apply Kd.Q_drew)); exact Kd.Q_mono HO_1005.out (fun _ hk => ⟨⟨hk.1, ⟨hk.2.2.2.1, ⟨hk.2.2.2.2.1, ⟨hk.2.2.2.2.2, hk.2.2.1⟩⟩⟩⟩, hk.2.1⟩)) hg hat)
              have n2_ := Goto.m0 (Kd.Q_after (ok := (fun k_ => ((P0_4_ k_ ∨ P0_5_ k_ ∨ P0_6_ k_ ∨ P0_7_ k_) ∨ w.heap.size ≤ k_) ∧ some k_ ≠ (u9000_ : Value).ownBlock ∧ some k_ ≠ (u9001_ : Value).ownBlock ∧ some k_ ≠ (.slice Ao124 l0_7.length co124 : Value).ownBlock ∧ some k_ ≠ (.slice Ao131 y440.length co131 : Value).ownBlock)) (by (with_reducible repeat (first | apply Kd.Q_alloc | apply Kd.Q_drewN | apply Kd.Q_drew)); exact Kd.Q_mono HO_1006.out (fun _ hk => ⟨⟨hk.1, ⟨hk.2.2.2.1, ⟨hk.2.2.2.2.1, ⟨hk.2.2.2.2.2, hk.2.2.1⟩⟩⟩⟩, hk.2.1⟩)) hg hat)
              have n3_ := Goto.m0 (Kd.Q_after (ok := (fun k_ => ((P0_4_ k_ ∨ P0_5_ k_ ∨ P0_6_ k_ ∨ P0_7_ k_) ∨ w.heap.size ≤ k_) ∧ some k_ ≠ (u9000_ : Value).ownBlock ∧ some k_ ≠ (u9001_ : Value).ownBlock ∧ some k_ ≠ (u9002_ : Value).ownBlock ∧ some k_ ≠ (.slice Ao131 y440.length co131 : Value).ownBlock)) (by (with_reducible repeat (first | apply Kd.Q_alloc | apply Kd.Q_drewN | apply Kd.Q_drew)); exact Kd.Q_mono HO_1007.out (fun _ hk => ⟨⟨hk.1, ⟨hk.2.2.2.1, ⟨hk.2.2.2.2.1, ⟨hk.2.2.2.2.2, hk.2.2.1⟩⟩⟩⟩, hk.2.1⟩)) hg hat)
              have n4_ := Goto.m0 (blk_grown (g := g) (o := .cells #[.int .i64 a0_0, .int .i64 a0_1, .int .i64 a0_2, .int .i64 a0_3, u9000_, u9001_, u9002_, .slice Ao124 l0_7.length co124] 55 (0, 0)) (Goto.bx BK0) hg (Kd.R_ne HO439.out BK0.out (by decide)))
              have n5_ := Goto.m0 (Kd.R_after (ok := (fun k_ => ((P0_4_ k_ ∨ P0_5_ k_ ∨ P0_6_ k_ ∨ P0_7_ k_) ∨ w.heap.size ≤ k_) ∧ some k_ ≠ (u9000_ : Value).ownBlock ∧ some k_ ≠ (u9001_ : Value).ownBlock ∧ some k_ ≠ (u9002_ : Value).ownBlock ∧ some k_ ≠ (.slice Ao124 l0_7.length co124 : Value).ownBlock)) (by (with_reducible repeat (first | apply Kd.R_alloc | apply Kd.R_drewN | apply Kd.R_drew)); exact Kd.R_mono HO442.out (fun _ hk => ⟨⟨hk.1, ⟨hk.2.2.1, ⟨hk.2.2.2.1, ⟨hk.2.2.2.2.1, hk.2.2.2.2.2⟩⟩⟩⟩, hk.2.1⟩)) hg hat)
              have n6_ := Goto.m0 (hb)
              have n7_ := Goto.m0 (Kept.of_grown (S := (fun k_ => (P0_4_ k_ ∨ P0_5_ k_ ∨ P0_6_ k_ ∨ P0_7_ k_) ∨ k_ = g)) hg (by repeat (first | (with_reducible first | exact HK.out | apply Kept.alloc | apply Kept.drewN | apply Kept.drew | refine Kept.setCell ?_ (.inl (.inr rfl)) _) | exact HK.out)) (fun k_ e_ => Or.imp_left Or.inl ((HO439.out.1 k_ e_).1)))
              have n8_ := Goto.m0 (ho)
              clear HO_1004; clear HO_1005; clear HO_1006; clear HO_1007; clear BK0; clear HO442; clear HB; clear HK; clear HO439; have HO_1004 := n0_; have HO_1005 := n1_; have HO_1006 := n2_; have HO_1007 := n3_; have BK0 := n4_; have HO442 := n5_; have HB := n6_; have HK := n7_; have HO445 := n8_; clear n0_ n1_ n2_ n3_ n4_ n5_ n6_ n7_ n8_; clear ho hb hg hat
              obtain ⟨Ao132, co132, eo132⟩ := Kd.R_slice HO445.out
              (first | subst eo132 | (injection eo132 with f1_ f2_ f3_; have f4_ := f1_.symm; have f5_ := f3_.symm; clear f1_ f2_ f3_; subst f4_; subst f5_))
              refine hK.out _ _ ⟨(blk_cell BK0.out 0).trans rfl, (blk_cell BK0.out 1).trans rfl, (blk_cell BK0.out 2).trans rfl, (blk_cell BK0.out 3).trans rfl, (blk_cell BK0.out 4).trans rfl, (blk_cell BK0.out 5).trans rfl, (blk_cell BK0.out 6).trans rfl, (blk_cell BK0.out 7).trans rfl⟩ (fun hHeld => ?_)
              clear hK K
              refine norm_ (a' := ?_) ?_ ?_
              rotate_left
              ·
               show Act.put _ (some 54) _ = _
               exact Goto.ap
              refine Goto.pu 14 57 16 32767 ?_
              refine last_ (i := 15) (N := none) (Goto.bs 16 65535) rfl rfl (one_of HT_.out (by kernel_rfl)) (by decide) (fun K hK => ?_)
              have hs133 : w130.cell? ⟨g, 7, none⟩ = some (.slice Ao124 l0_7.length co124) := (blk_cell BK0.out 7).trans rfl; have hfs133 := Goto.bf BK0 7
              refine skip_ (w1 := ?_) (by rfl) rfl ?_ ?_
              rotate_left
              ·
               go_simp
               rfl
              refine hK.out _ _ ?_
              clear hK K
              refine done_ (done_of HT_.out (by kernel_rfl)) ?_
              try go_wp2
              go_ret2
              (try simp only [← exists_and_left])
              exact ⟨_, _, _, _, Goto.er, by (with_reducible repeat (first | apply Kd.Q_alloc | apply Kd.Q_drewN | apply Kd.Q_drew)); exact Kd.Q_mono (Kd.Q_far (p := ⟨g, 7, none⟩) (Kd.Q_types HO_1004.out BK0.out (by decide)) (fun _ hk => hk.2) (.slice Ao132 y443.length co132)) (fun _ hk => ⟨hk.1.1.1, ⟨hk.1.1.2.1, ⟨hk.1.1.2.2.1, hk.1.2⟩⟩⟩), by (with_reducible repeat (first | apply Kd.Q_alloc | apply Kd.Q_drewN | apply Kd.Q_drew)); exact Kd.Q_mono (Kd.Q_far (p := ⟨g, 7, none⟩) (Kd.Q_types HO_1005.out BK0.out (by decide)) (fun _ hk => hk.2) (.slice Ao132 y443.length co132)) (fun _ hk => ⟨hk.1.1.1, ⟨hk.1.1.2.1, ⟨hk.1.1.2.2.1, hk.1.2⟩⟩⟩), by (with_reducible repeat (first | apply Kd.Q_alloc | apply Kd.Q_drewN | apply Kd.Q_drew)); exact Kd.Q_mono (Kd.Q_far (p := ⟨g, 7, none⟩) (Kd.Q_types HO_1006.out BK0.out (by decide)) (fun _ hk => hk.2) (.slice Ao132 y443.length co132)) (fun _ hk => ⟨hk.1.1.1, ⟨hk.1.1.2.1, ⟨hk.1.1.2.2.1, hk.1.2⟩⟩⟩), Kd.Q_of_R (by (with_reducible repeat (first | apply Kd.R_alloc | apply Kd.R_drewN | apply Kd.R_drew)); exact Kd.R_mono (Kd.R_far (p := ⟨g, 7, none⟩) (Kd.R_types HO445.out BK0.out (by decide)) (fun _ hk => hk.2) (.slice Ao132 y443.length co132)) (fun _ hk => ⟨hk.1.1, ⟨hk.1.2.1, ⟨hk.1.2.2.1, hk.1.2.2.2.1⟩⟩⟩)), by (with_reducible repeat first | refine blk_drewN ?_ _ | refine blk_drew ?_ | refine blk_alloc ?_ _); refine blk_put (cs := #[.int .i64 a0_0, .int .i64 a0_1, .int .i64 a0_2, .int .i64 a0_3, u9000_, u9001_, u9002_, .slice Ao124 l0_7.length co124]) ?_ 7 _ rfl; (with_reducible repeat first | refine blk_drewN ?_ _ | refine blk_drew ?_ | refine blk_alloc ?_ _); exact BK0.out, by repeat (first | (with_reducible first | exact HB.out | apply below_alloc | apply pw_below_drewN | apply below_drew1 | refine below_set ?_ GE0.out) | exact HB.out), by repeat (first | (with_reducible first | exact HK.out | apply Kept.alloc | apply Kept.drewN | apply Kept.drew | refine Kept.setCell ?_ (.inl (.inr rfl)) _) | exact HK.out)⟩
             ·
              rw [if_neg c121] at H
              exact absurd H (by simp)
            ·
             rw [if_neg c120] at H
             exact absurd H (by simp)
          ·
           rw [if_neg c111] at H
           exact absurd H (by simp)
      ·
       rw [if_neg c41] at H
       exact absurd H (by simp)
     ·
      rw [if_neg c40] at H
      exact absurd H (by simp)
 ·
  replace c5 := Bool.eq_false_iff.mpr c5
  subst c5
  rw [if_neg (show ¬ (false = true) by decide)] at H
  simp only [Option.some.injEq, Prod.mk.injEq] at H
  obtain ⟨rfl, rfl, rfl, rfl, rfl, rfl, rfl, rfl, rfl, rfl⟩ := H
  go_enter Tryd.func23, Tryd.ntmps23
  go_wp2_with (first | ((with_reducible refine gate_callee (f := 38) rfl ?_); refine goesL_ (some 10) rfl rfl Tryd.func38 (by kernel_rfl) rfl #[.int .i64 a2] rfl (by (try simp only [List.map_toArray, List.map_cons, List.map_nil]); first | done | rfl | (simp only [List.length_drop, List.length_take]; rfl)) ?_; (with_reducible refine (tontineref8_obj.calls a2 false _ A4.out).mono ?_); rintro e w' ⟨rfl, ⟨nd, rfl⟩⟩; refine ⟨_, rfl, ?_⟩))
  go_ret2
  (try simp only [← exists_and_left])
  exact ⟨_, _, _, _, Goto.er, by (with_reducible repeat (first | apply Kd.Q_alloc | apply Kd.Q_drewN | apply Kd.Q_drew)); exact HO0_4.out, by (with_reducible repeat (first | apply Kd.Q_alloc | apply Kd.Q_drewN | apply Kd.Q_drew)); exact HO0_5.out, by (with_reducible repeat (first | apply Kd.Q_alloc | apply Kd.Q_drewN | apply Kd.Q_drew)); exact HO0_6.out, by (with_reducible repeat (first | apply Kd.Q_alloc | apply Kd.Q_drewN | apply Kd.Q_drew)); exact HO0_7.out, by (with_reducible repeat first | refine blk_drewN ?_ _ | refine blk_drew ?_ | refine blk_alloc ?_ _); exact BK0.out, by repeat (first | (with_reducible first | exact HB.out | apply below_alloc | apply pw_below_drewN | apply below_drew1 | refine below_set ?_ GE0.out) | exact HB.out), by repeat (first | (with_reducible first | exact HK.out | apply Kept.alloc | apply Kept.drewN | apply Kept.drew | refine Kept.setCell ?_ (.inl (.inr rfl)) _) | exact HK.out)⟩

end Go.Proofs.YtiejhnijfgdapaaDoor.P
