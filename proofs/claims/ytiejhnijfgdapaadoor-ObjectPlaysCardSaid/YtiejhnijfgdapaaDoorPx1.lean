/- Printed by a program of this workplace (a turned copy of the kit's optional print), out of the translation; not trusted: Lean checks it. -/
import Derived.Test.YtiejhnijfgdapaaDoorPx0
namespace Go.Proofs.YtiejhnijfgdapaaDoor.P
open Go.RowKit Go.Proofs.YtiejhnijfgdapaaDoorW.PrintWords Go.Proofs.YtiejhnijfgdapaaDoorW.PrintLast Go.Proofs.YtiejhnijfgdapaaDoorW.PrintMore
attribute [local go_sem] max2_int min2_int max_two min_two max_three min_three max_four min_four   -- for this text's walks alone
set_option linter.unusedVariables false
set_option linter.unusedSimpArgs false

/-! ### object_New: function 21 -/
def object_New.f  : Option (Int × List Int × Int × List Int × Int × List Int × Int × List Int) := some (0, ([] : List Int), 0, ([] : List Int), 0, ([] : List Int), 0, ([] : List Int))
set_option maxHeartbeats 8000000 in
set_option maxRecDepth 100000 in
theorem object_New.calls  (r1 : Int) (r2 : List Int) (r3 : Int) (r4 : List Int) (r5 : Int) (r6 : List Int) (r7 : Int) (r8 : List Int) (w : World) (h : object_New.f  = some (r1, r2, r3, r4, r5, r6, r7, r8)) :
    Calls Tryd.prog 21 #[] w fun e w' => ∃ v1_ v3_ v5_ v7_ : Value, ∃ g_ : Nat, e = .returned (.pointer (some ⟨g_, 0, none⟩)) ∧ Kd.R (Kd.int .i64) 3 w' w.heap.size (fun k_ => some k_ ≠ (v3_ : Value).ownBlock ∧ some k_ ≠ (v5_ : Value).ownBlock ∧ some k_ ≠ (v7_ : Value).ownBlock) v1_ r2 ∧ Kd.R (Kd.int .i64) 3 w' w.heap.size (fun k_ => some k_ ≠ (v1_ : Value).ownBlock ∧ some k_ ≠ (v5_ : Value).ownBlock ∧ some k_ ≠ (v7_ : Value).ownBlock) v3_ r4 ∧ Kd.R (Kd.int .i64) 3 w' w.heap.size (fun k_ => some k_ ≠ (v1_ : Value).ownBlock ∧ some k_ ≠ (v3_ : Value).ownBlock ∧ some k_ ≠ (v7_ : Value).ownBlock) v5_ r6 ∧ Kd.R (Kd.int .i64) 3 w' w.heap.size (fun k_ => some k_ ≠ (v1_ : Value).ownBlock ∧ some k_ ≠ (v3_ : Value).ownBlock ∧ some k_ ≠ (v5_ : Value).ownBlock) v7_ r8 ∧ w'.heap[g_]? = some (.cells #[.int .i64 r1, v1_, .int .i64 r3, v3_, .int .i64 r5, v5_, .int .i64 r7, v7_] 86 (0, 0)) ∧ w.heap.size ≤ g_ ∧ Below w.heap.size w w' := by
 have hu86 := Tryd.underlying86
 have HB := Goto.m0 (Below.refl w.heap.size w)
 have H : (some (0, ([] : List Int), 0, ([] : List Int), 0, ([] : List Int), 0, ([] : List Int))) = some (r1, r2, r3, r4, r5, r6, r7, r8) := h
 clear h
 simp only [Option.some.injEq, Prod.mk.injEq] at H
 obtain ⟨rfl, rfl, rfl, rfl, rfl, rfl, rfl, rfl⟩ := H
 go_enter Tryd.func21, Tryd.ntmps21
 go_wp2_with (first | ((with_reducible refine gate_dst (N := 2) rfl ?_); refine box_event ?hg (N := 2) ?hd (cs := #[.int .i64 0, .slice none 0 0, .int .i64 0, .slice none 0 0, .int .i64 0, .slice none 0 0, .int .i64 0, .slice none 0 0]) (t := 86) ?hr ?_; (case hd => rfl); (case hg => rfl); (case hr => first | (go_simp; done) | (go_simp; rfl)); intro gb101 hg w1 hbox hb; have BK101 := Goto.m0 (hbox); have GW101 := Goto.gs HB hg; have GE101 := Goto.gs HB hg; replace HB := Goto.hs HB hb; clear hb hbox hg))
 go_ret
 exact ⟨_, _, _, _, _, Goto.er, by first | exact Kd.R_nil _ _ _ _ _ | exact Kd.N_nil _ _ _ _ _ | exact Kd.V_nil _ _ _ _ _ | exact Kd.Q_nil _ _ _ _ _ | exact Kd.S_nil _ _ _ _ _, by first | exact Kd.R_nil _ _ _ _ _ | exact Kd.N_nil _ _ _ _ _ | exact Kd.V_nil _ _ _ _ _ | exact Kd.Q_nil _ _ _ _ _ | exact Kd.S_nil _ _ _ _ _, by first | exact Kd.R_nil _ _ _ _ _ | exact Kd.N_nil _ _ _ _ _ | exact Kd.V_nil _ _ _ _ _ | exact Kd.Q_nil _ _ _ _ _ | exact Kd.S_nil _ _ _ _ _, by first | exact Kd.R_nil _ _ _ _ _ | exact Kd.N_nil _ _ _ _ _ | exact Kd.V_nil _ _ _ _ _ | exact Kd.Q_nil _ _ _ _ _ | exact Kd.S_nil _ _ _ _ _, by (with_reducible repeat first | refine blk_drewN ?_ _ | refine blk_drew ?_ | refine blk_alloc ?_ _); exact BK101.out, GW101.out, by repeat (first | (with_reducible first | exact HB.out | apply below_alloc | apply pw_below_drewN | apply below_drew1 | refine below_set ?_ GE101.out) | exact HB.out)⟩

/-! ### object_is: function 36 -/
def object_is.f (a0 : Int) : Option (Bool) := if a0 ≥ 0 then (some (decide (a0 < 4))) else (some false)
set_option maxHeartbeats 8000000 in
set_option maxRecDepth 100000 in
theorem object_is.calls (a0 : Int) (r : Bool) (w : World) (h : object_is.f a0 = some r) :
    Calls Tryd.prog 36 #[.int .i64 a0] w fun e w' => e = .returned (.bool r) ∧ Drawn0 w w' := by
 have H : (if a0 ≥ 0 then (some (decide (a0 < 4))) else (some false)) = some r := h
 clear h
 by_cases c2 : a0 ≥ 0
 ·
  rw [if_pos c2] at H
  have c2b0 : decide (0 ≤ a0) = true := decide_eq_true c2
  clear c2
  obtain rfl := Option.some.inj H
  go_enter Tryd.func36, Tryd.ntmps36
  go_wp2
  go_ret
  exact ⟨by first | rfl | (simp; done) | (simp [*]; done) | (congr 1; unfold wrap64; omega), by repeat (first | exact Drawn0.refl _ | apply Drawn0.step)⟩
 ·
  rw [if_neg c2] at H
  have c2b0 : decide (0 ≤ a0) = false := decide_eq_false c2
  clear c2
  obtain rfl := Option.some.inj H
  go_enter Tryd.func36, Tryd.ntmps36
  go_wp2
  go_ret
  exact ⟨by first | rfl | (simp; done) | (simp [*]; done) | (congr 1; unfold wrap64; omega), by repeat (first | exact Drawn0.refl _ | apply Drawn0.step)⟩

/-! ### slices_Index_int_int: function 54 -/
def slices_Index_int_int.l0 : Nat → List Int → Int → Int → Int → Option (Int)
  | 0, _, _, _, _ => none
  | k + 1, x0, x1, x7, x8 => if x8 < x7 then (if 0 ≤ x8 then (if x8 < (x0.length : Int) then (if x1 = (rd x0 x8) then (some x8) else (slices_Index_int_int.l0 k x0 x1 x7 (wrap64 (x8 + 1)))) else (none)) else (none)) else (some (-1))
def slices_Index_int_int.f (k : Nat) (l0 : List Int) (a1 : Int) : Option (Int) := slices_Index_int_int.l0 k l0 a1 (l0.length : Int) 0
theorem slices_Index_int_int.mono_l : ∀ k, (∀ y0 y1 y2 y3, LeO (slices_Index_int_int.l0 k y0 y1 y2 y3) (slices_Index_int_int.l0 (k + 1) y0 y1 y2 y3))
  | 0 => fun _ _ _ _ r h => by simp [slices_Index_int_int.l0] at h
  | k + 1 => by
    have ih0 := slices_Index_int_int.mono_l k
    · intro y0 y1 y2 y3
      unfold slices_Index_int_int.l0
      repeat' first
      | (with_reducible exact ih0 _ _ _ _)
      | (with_reducible exact LeO.refl _)
      | (with_reducible exact LeO.none _)
      | (with_reducible refine LeO.ite ?_ ?_)
      | (with_reducible refine LeO.bind ?_ (fun _ => ?_))
      | exact ih0 _ _ _ _
      | exact LeO.none _
      | refine LeO.ite ?_ ?_
      | refine LeO.bind ?_ (fun _ => ?_)
theorem slices_Index_int_int.mono : ∀ a0 a1 k, LeO (slices_Index_int_int.f k a0 a1) (slices_Index_int_int.f (k + 1) a0 a1) := by
 intro a0 a1 k
 have ih0 := slices_Index_int_int.mono_l k
 unfold slices_Index_int_int.f
 repeat' first
   | (with_reducible exact ih0 _ _ _ _)
   | (with_reducible exact LeO.refl _)
   | (with_reducible exact LeO.none _)
   | (with_reducible refine LeO.ite ?_ ?_)
   | (with_reducible refine LeO.bind ?_ (fun _ => ?_))
   | exact ih0 _ _ _ _
   | exact LeO.none _
   | refine LeO.ite ?_ ?_
   | refine LeO.bind ?_ (fun _ => ?_)
set_option maxHeartbeats 8000000 in
set_option maxRecDepth 100000 in
theorem slices_Index_int_int.calls (k : Nat) (A0 : Option Addr) (c0 : Nat) (l0 : List Int) (a1 : Int) (r : Int) (w : World) (hr0 : Kd.C (Kd.int .i64) w A0 l0.length l0) (hc0 : l0.length ≤ c0) (h : slices_Index_int_int.f k l0 a1 = some r) :
    Calls Tryd.prog 54 #[.slice A0 l0.length c0, .int .i64 a1] w fun e w' => e = .returned (.int .i64 r) ∧ Drawn0 w w' := by
 have HR0 := Goto.m0 hr0
 have HC0 := Goto.m0 hc0
 clear hr0 hc0
 have H : (slices_Index_int_int.l0 k l0 a1 (l0.length : Int) 0) = some r := h
 clear h
 have H' := Goto.m0 H
 clear H
 go_enter Tryd.func54, Tryd.ntmps54
 go_wp2
 go_loopg [8] k (fun kq v8 w' => ∃ (x8_1 : Int), v8 = .int .i64 x8_1 ∧ Aside0 (slices_Index_int_int.l0 kq l0 a1 (l0.length : Int) x8_1 = some r) ∧ Aside0 (kq ≤ k) ∧ Drawn0 w w')
 case atStart => exact ⟨(0), (by first | rfl | (simp; done) | (simp [*]; done) | (congr 1; unfold wrap64; omega)), H', ⟨Nat.le_refl _⟩, by repeat (first | exact Drawn0.refl _ | apply Drawn0.step)⟩
 case round =>
  clear H'
  try clear p2
  obtain ⟨x8_1, rfl, HA, HK1, ⟨m1, rfl⟩⟩ := hrel
  cases gk with
  | zero => exact absurd HA.out (by simp [slices_Index_int_int.l0])
  | succ k1 =>
   have H := HA.out; clear HA
   simp only [slices_Index_int_int.l0] at H
   by_cases c3 : x8_1 < (l0.length : Int)
   ·
    rw [if_pos c3] at H
    have c3b0 : decide (x8_1 < (l0.length : Int)) = true := decide_eq_true c3
    clear c3
    by_cases c4 : 0 ≤ x8_1
    ·
     rw [if_pos c4] at H
     have c4b0 : decide (0 ≤ x8_1) = true := decide_eq_true c4
     clear c4
     by_cases c5 : x8_1 < (l0.length : Int)
     ·
      rw [if_pos c5] at H
      have c5b0 : decide (x8_1 < (l0.length : Int)) = true := decide_eq_true c5
      clear c5
      by_cases c6 : a1 = (rd l0 x8_1)
      ·
       rw [if_pos c6] at H
       have c6b0 : (a1 == (rd l0 x8_1)) = true := beq_iff_eq.mpr c6
       have c6b1 : (a1 != (rd l0 x8_1)) = false := bne_eq_false_iff_eq.mpr c6
       clear c6
       obtain rfl := Option.some.inj H
       have p102 : 0 ≤ (x8_1 : Int) := Goto.od
       have q102 : x8_1 < (l0.length : Int) := Goto.od
       obtain ⟨ad102, e102, hx102_0⟩ := Kd.at_int HR0.out x8_1 p102 q102
       cases e102
       replace p102 := eq_true p102; replace q102 := eq_true q102
       go_wp2
       go_ret
       exact ⟨by first | rfl | (simp; done) | (simp [*]; done) | (congr 1; unfold wrap64; omega), by repeat (first | exact Drawn0.refl _ | apply Drawn0.step)⟩
      ·
       rw [if_neg c6] at H
       have c6b0 : (a1 == (rd l0 x8_1)) = false := beq_eq_false_iff_ne.mpr c6
       have c6b1 : (a1 != (rd l0 x8_1)) = true := bne_iff_ne.mpr c6
       have H' := Goto.m0 H
       clear H
       have p102 : 0 ≤ (x8_1 : Int) := Goto.od
       have q102 : x8_1 < (l0.length : Int) := Goto.od
       obtain ⟨ad102, e102, hx102_0⟩ := Kd.at_int HR0.out x8_1 p102 q102
       cases e102
       replace p102 := eq_true p102; replace q102 := eq_true q102
       go_wp2
       go_roundg k1
       case measure => have := HK1.out; omega
       case rel => exact ⟨(wrap64 (x8_1 + 1)), (by first | rfl | (simp; done) | (simp [*]; done) | (congr 1; unfold wrap64; omega)), H', ⟨by have := HK1.out; omega⟩, by repeat (first | exact Drawn0.refl _ | apply Drawn0.step)⟩
     ·
      rw [if_neg c5] at H
      exact absurd H (by simp)
    ·
     rw [if_neg c4] at H
     exact absurd H (by simp)
   ·
    rw [if_neg c3] at H
    have c3b0 : decide (x8_1 < (l0.length : Int)) = false := decide_eq_false c3
    clear c3
    obtain rfl := Option.some.inj H
    go_wp2
    go_ret
    exact ⟨by first | rfl | (simp; done) | (simp [*]; done) | (congr 1; unfold wrap64; omega), by repeat (first | exact Drawn0.refl _ | apply Drawn0.step)⟩

/-! ### slices_Contains_int_int: function 50 -/
def slices_Contains_int_int.f (k : Nat) (l0 : List Int) (a1 : Int) : Option (Bool) := (slices_Index_int_int.f k l0 a1).bind fun t103 => (some (decide (t103 ≥ 0)))
theorem slices_Contains_int_int.mono : ∀ a0 a1 k, LeO (slices_Contains_int_int.f k a0 a1) (slices_Contains_int_int.f (k + 1) a0 a1) := by
 intro a0 a1 k
 unfold slices_Contains_int_int.f
 repeat' first
   | (with_reducible exact slices_Index_int_int.mono _ _ _)
   | (with_reducible exact LeO.refl _)
   | (with_reducible exact LeO.none _)
   | (with_reducible refine LeO.ite ?_ ?_)
   | (with_reducible refine LeO.bind ?_ (fun _ => ?_))
   | exact slices_Index_int_int.mono _ _ _
   | exact LeO.none _
   | refine LeO.ite ?_ ?_
   | refine LeO.bind ?_ (fun _ => ?_)
set_option maxHeartbeats 8000000 in
set_option maxRecDepth 100000 in
theorem slices_Contains_int_int.calls (k : Nat) (A0 : Option Addr) (c0 : Nat) (l0 : List Int) (a1 : Int) (r : Bool) (w : World) (hr0 : Kd.C (Kd.int .i64) w A0 l0.length l0) (hc0 : l0.length ≤ c0) (h : slices_Contains_int_int.f k l0 a1 = some r) :
    Calls Tryd.prog 50 #[.slice A0 l0.length c0, .int .i64 a1] w fun e w' => e = .returned (.bool r) ∧ Drawn0 w w' := by
 have HR0 := Goto.m0 hr0
 have HC0 := Goto.m0 hc0
 clear hr0 hc0
 have H : ((slices_Index_int_int.f k l0 a1).bind fun t103 => (some (decide (t103 ≥ 0)))) = some r := h
 clear h
 replace H := Option.bind_eq_some_iff.mp H
 obtain ⟨t103, A30, H⟩ := H
 have A3 := Goto.m0 A30
 clear A30
 obtain rfl := Option.some.inj H
 go_enter Tryd.func50, Tryd.ntmps50
 go_wp2_with (first | ((with_reducible refine gate_callee (f := 54) rfl ?_); refine goesL_ (some 7) rfl rfl Tryd.func54 (by kernel_rfl) rfl #[.slice A0 l0.length c0, .int .i64 a1] rfl (by (try simp only [List.map_toArray, List.map_cons, List.map_nil]); first | done | rfl | (simp only [List.length_drop, List.length_take]; rfl)) ?_; (with_reducible refine (slices_Index_int_int.calls k _ _ l0 a1 t103 _ ?side1 ?side2 A3.out).mono ?_); (case side1 => repeat (first | exact HR0.out | (with_reducible refine Kd.C_alloc ?_ _) | (with_reducible refine Kd.C_drewN ?_ _) | (with_reducible refine Kd.C_drew ?_))); (case side2 => exact HC0.out); rintro e w' ⟨rfl, ⟨nd, rfl⟩⟩; refine ⟨_, rfl, ?_⟩))
 go_ret
 exact ⟨by first | rfl | (simp; done) | (simp [*]; done) | (congr 1; unfold wrap64; omega), by repeat (first | exact Drawn0.refl _ | apply Drawn0.step)⟩

/-! ### object_Objects_waits: function 37 -/
def object_Objects_waits.l0 : Nat → Int → Int → Int → List Int → Int → List Int → Int → List Int → Int → List Int → Option (Int × Int × List Int × Int × List Int × Int × List Int × Int × List Int)
  | 0, _, _, _, _, _, _, _, _, _, _ => none
  | k + 1, x1, x5, x1000, x1001, x1002, x1003, x1004, x1005, x1006, x1007 => if x5 = 4 then (some ((-1), x1000, x1001, x1002, x1003, x1004, x1005, x1006, x1007)) else (if 0 ≤ x5 then (if x5 < 4 then (if x5 = 0 then ((slices_Contains_int_int.f k x1001 x1).bind fun t104 => (if t104 = true then (some (x5, x1000, x1001, x1002, x1003, x1004, x1005, x1006, x1007)) else (object_Objects_waits.l0 k x1 (wrap64 (x5 + 1)) x1000 x1001 x1002 x1003 x1004 x1005 x1006 x1007))) else (if x5 = 1 then ((slices_Contains_int_int.f k x1003 x1).bind fun t105 => (if t105 = true then (some (x5, x1000, x1001, x1002, x1003, x1004, x1005, x1006, x1007)) else (object_Objects_waits.l0 k x1 (wrap64 (x5 + 1)) x1000 x1001 x1002 x1003 x1004 x1005 x1006 x1007))) else (if x5 = 2 then ((slices_Contains_int_int.f k x1005 x1).bind fun t106 => (if t106 = true then (some (x5, x1000, x1001, x1002, x1003, x1004, x1005, x1006, x1007)) else (object_Objects_waits.l0 k x1 (wrap64 (x5 + 1)) x1000 x1001 x1002 x1003 x1004 x1005 x1006 x1007))) else (if x5 = 3 then ((slices_Contains_int_int.f k x1007 x1).bind fun t107 => (if t107 = true then (some (x5, x1000, x1001, x1002, x1003, x1004, x1005, x1006, x1007)) else (object_Objects_waits.l0 k x1 (wrap64 (x5 + 1)) x1000 x1001 x1002 x1003 x1004 x1005 x1006 x1007))) else (none))))) else (none)) else (none))
def object_Objects_waits.f (k : Nat) (a0_0 : Int) (l0_1 : List Int) (a0_2 : Int) (l0_3 : List Int) (a0_4 : Int) (l0_5 : List Int) (a0_6 : Int) (l0_7 : List Int) (a1 : Int) : Option (Int × Int × List Int × Int × List Int × Int × List Int × Int × List Int) := object_Objects_waits.l0 k a1 0 a0_0 l0_1 a0_2 l0_3 a0_4 l0_5 a0_6 l0_7
theorem object_Objects_waits.mono_l : ∀ k, (∀ y0 y1 y2 y3 y4 y5 y6 y7 y8 y9, LeO (object_Objects_waits.l0 k y0 y1 y2 y3 y4 y5 y6 y7 y8 y9) (object_Objects_waits.l0 (k + 1) y0 y1 y2 y3 y4 y5 y6 y7 y8 y9))
  | 0 => fun _ _ _ _ _ _ _ _ _ _ r h => by simp [object_Objects_waits.l0] at h
  | k + 1 => by
    have ih0 := object_Objects_waits.mono_l k
    · intro y0 y1 y2 y3 y4 y5 y6 y7 y8 y9
      unfold object_Objects_waits.l0
      repeat' first
      | (with_reducible exact ih0 _ _ _ _ _ _ _ _ _ _)
      | (with_reducible exact slices_Contains_int_int.mono _ _ _)
      | (with_reducible exact LeO.refl _)
      | (with_reducible exact LeO.none _)
      | (with_reducible refine LeO.ite ?_ ?_)
      | (with_reducible refine LeO.bind ?_ (fun _ => ?_))
      | exact ih0 _ _ _ _ _ _ _ _ _ _
      | exact slices_Contains_int_int.mono _ _ _
      | exact LeO.none _
      | refine LeO.ite ?_ ?_
      | refine LeO.bind ?_ (fun _ => ?_)
theorem object_Objects_waits.mono : ∀ a0 a1 a2 a3 a4 a5 a6 a7 a8 k, LeO (object_Objects_waits.f k a0 a1 a2 a3 a4 a5 a6 a7 a8) (object_Objects_waits.f (k + 1) a0 a1 a2 a3 a4 a5 a6 a7 a8) := by
 intro a0 a1 a2 a3 a4 a5 a6 a7 a8 k
 have ih0 := object_Objects_waits.mono_l k
 unfold object_Objects_waits.f
 repeat' first
   | (with_reducible exact ih0 _ _ _ _ _ _ _ _ _ _)
   | (with_reducible exact slices_Contains_int_int.mono _ _ _)
   | (with_reducible exact LeO.refl _)
   | (with_reducible exact LeO.none _)
   | (with_reducible refine LeO.ite ?_ ?_)
   | (with_reducible refine LeO.bind ?_ (fun _ => ?_))
   | exact ih0 _ _ _ _ _ _ _ _ _ _
   | exact slices_Contains_int_int.mono _ _ _
   | exact LeO.none _
   | refine LeO.ite ?_ ?_
   | refine LeO.bind ?_ (fun _ => ?_)
set_option maxHeartbeats 8000000 in
set_option maxRecDepth 100000 in
theorem object_Objects_waits.calls (k : Nat) (g : Nat) (a0_0 : Int) (P0_1_ : Nat → Prop) (u9000_ : Value) (l0_1 : List Int) (a0_2 : Int) (P0_3_ : Nat → Prop) (u9001_ : Value) (l0_3 : List Int) (a0_4 : Int) (P0_5_ : Nat → Prop) (u9002_ : Value) (l0_5 : List Int) (a0_6 : Int) (P0_7_ : Nat → Prop) (u9003_ : Value) (l0_7 : List Int) (a1 : Int) (r1 : Int) (r2 : Int) (r3 : List Int) (r4 : Int) (r5 : List Int) (r6 : Int) (r7 : List Int) (r8 : Int) (r9 : List Int) (w0 w : World) (hI : w.heap[g]? = some (.cells #[.int .i64 a0_0, u9000_, .int .i64 a0_2, u9001_, .int .i64 a0_4, u9002_, .int .i64 a0_6, u9003_] 86 (0, 0))) (hG : w0.heap.size ≤ g) (hB : Below w0.heap.size w0 w) (ho0_1 : Kd.R (Kd.int .i64) 3 w w0.heap.size P0_1_ u9000_ l0_1) (hp0_1_0_3 : ∀ k_, P0_1_ k_ → ¬ P0_3_ k_) (hp0_1_0_5 : ∀ k_, P0_1_ k_ → ¬ P0_5_ k_) (hp0_1_0_7 : ∀ k_, P0_1_ k_ → ¬ P0_7_ k_) (ho0_3 : Kd.R (Kd.int .i64) 3 w w0.heap.size P0_3_ u9001_ l0_3) (hp0_3_0_1 : ∀ k_, P0_3_ k_ → ¬ P0_1_ k_) (hp0_3_0_5 : ∀ k_, P0_3_ k_ → ¬ P0_5_ k_) (hp0_3_0_7 : ∀ k_, P0_3_ k_ → ¬ P0_7_ k_) (ho0_5 : Kd.R (Kd.int .i64) 3 w w0.heap.size P0_5_ u9002_ l0_5) (hp0_5_0_1 : ∀ k_, P0_5_ k_ → ¬ P0_1_ k_) (hp0_5_0_3 : ∀ k_, P0_5_ k_ → ¬ P0_3_ k_) (hp0_5_0_7 : ∀ k_, P0_5_ k_ → ¬ P0_7_ k_) (ho0_7 : Kd.R (Kd.int .i64) 3 w w0.heap.size P0_7_ u9003_ l0_7) (hp0_7_0_1 : ∀ k_, P0_7_ k_ → ¬ P0_1_ k_) (hp0_7_0_3 : ∀ k_, P0_7_ k_ → ¬ P0_3_ k_) (hp0_7_0_5 : ∀ k_, P0_7_ k_ → ¬ P0_5_ k_) (h : object_Objects_waits.f k a0_0 l0_1 a0_2 l0_3 a0_4 l0_5 a0_6 l0_7 a1 = some (r1, r2, r3, r4, r5, r6, r7, r8, r9)) :
    Calls Tryd.prog 37 #[.pointer (some ⟨g, 0, none⟩), .int .i64 a1] w fun e w' => ∃ v2_ v4_ v6_ v8_ : Value, e = .returned (.int .i64 r1) ∧ Kd.R (Kd.int .i64) 3 w' w0.heap.size (fun k_ => ((P0_1_ k_ ∨ P0_3_ k_ ∨ P0_5_ k_ ∨ P0_7_ k_) ∨ w.heap.size ≤ k_) ∧ some k_ ≠ (v4_ : Value).ownBlock ∧ some k_ ≠ (v6_ : Value).ownBlock ∧ some k_ ≠ (v8_ : Value).ownBlock) v2_ r3 ∧ Kd.R (Kd.int .i64) 3 w' w0.heap.size (fun k_ => ((P0_1_ k_ ∨ P0_3_ k_ ∨ P0_5_ k_ ∨ P0_7_ k_) ∨ w.heap.size ≤ k_) ∧ some k_ ≠ (v2_ : Value).ownBlock ∧ some k_ ≠ (v6_ : Value).ownBlock ∧ some k_ ≠ (v8_ : Value).ownBlock) v4_ r5 ∧ Kd.R (Kd.int .i64) 3 w' w0.heap.size (fun k_ => ((P0_1_ k_ ∨ P0_3_ k_ ∨ P0_5_ k_ ∨ P0_7_ k_) ∨ w.heap.size ≤ k_) ∧ some k_ ≠ (v2_ : Value).ownBlock ∧ some k_ ≠ (v4_ : Value).ownBlock ∧ some k_ ≠ (v8_ : Value).ownBlock) v6_ r7 ∧ Kd.R (Kd.int .i64) 3 w' w0.heap.size (fun k_ => ((P0_1_ k_ ∨ P0_3_ k_ ∨ P0_5_ k_ ∨ P0_7_ k_) ∨ w.heap.size ≤ k_) ∧ some k_ ≠ (v2_ : Value).ownBlock ∧ some k_ ≠ (v4_ : Value).ownBlock ∧ some k_ ≠ (v6_ : Value).ownBlock) v8_ r9 ∧ w'.heap[g]? = some (.cells #[.int .i64 r2, v2_, .int .i64 r4, v4_, .int .i64 r6, v6_, .int .i64 r8, v8_] 86 (0, 0)) ∧ Below w0.heap.size w0 w' ∧ Kept w w' (fun k_ => (P0_1_ k_ ∨ P0_3_ k_ ∨ P0_5_ k_ ∨ P0_7_ k_) ∨ k_ = g) := by
 have HO0_1 := Goto.m0 (show Kd.R (Kd.int .i64) 3 w w0.heap.size (fun k_ => ((P0_1_ k_ ∨ P0_3_ k_ ∨ P0_5_ k_ ∨ P0_7_ k_) ∨ w.heap.size ≤ k_) ∧ some k_ ≠ (u9001_ : Value).ownBlock ∧ some k_ ≠ (u9002_ : Value).ownBlock ∧ some k_ ≠ (u9003_ : Value).ownBlock) u9000_ l0_1 from Kd.R_mono ho0_1 (fun k_ hk => ⟨(.inl (.inl hk)), fun e_ => hp0_1_0_3 k_ hk (ho0_3.1 k_ e_.symm), fun e_ => hp0_1_0_5 k_ hk (ho0_5.1 k_ e_.symm), fun e_ => hp0_1_0_7 k_ hk (ho0_7.1 k_ e_.symm)⟩))
 have HO0_3 := Goto.m0 (show Kd.R (Kd.int .i64) 3 w w0.heap.size (fun k_ => ((P0_1_ k_ ∨ P0_3_ k_ ∨ P0_5_ k_ ∨ P0_7_ k_) ∨ w.heap.size ≤ k_) ∧ some k_ ≠ (u9000_ : Value).ownBlock ∧ some k_ ≠ (u9002_ : Value).ownBlock ∧ some k_ ≠ (u9003_ : Value).ownBlock) u9001_ l0_3 from Kd.R_mono ho0_3 (fun k_ hk => ⟨(.inl (.inr (.inl hk))), fun e_ => hp0_3_0_1 k_ hk (ho0_1.1 k_ e_.symm), fun e_ => hp0_3_0_5 k_ hk (ho0_5.1 k_ e_.symm), fun e_ => hp0_3_0_7 k_ hk (ho0_7.1 k_ e_.symm)⟩))
 have HO0_5 := Goto.m0 (show Kd.R (Kd.int .i64) 3 w w0.heap.size (fun k_ => ((P0_1_ k_ ∨ P0_3_ k_ ∨ P0_5_ k_ ∨ P0_7_ k_) ∨ w.heap.size ≤ k_) ∧ some k_ ≠ (u9000_ : Value).ownBlock ∧ some k_ ≠ (u9001_ : Value).ownBlock ∧ some k_ ≠ (u9003_ : Value).ownBlock) u9002_ l0_5 from Kd.R_mono ho0_5 (fun k_ hk => ⟨(.inl (.inr (.inr (.inl hk)))), fun e_ => hp0_5_0_1 k_ hk (ho0_1.1 k_ e_.symm), fun e_ => hp0_5_0_3 k_ hk (ho0_3.1 k_ e_.symm), fun e_ => hp0_5_0_7 k_ hk (ho0_7.1 k_ e_.symm)⟩))
 have HO0_7 := Goto.m0 (show Kd.R (Kd.int .i64) 3 w w0.heap.size (fun k_ => ((P0_1_ k_ ∨ P0_3_ k_ ∨ P0_5_ k_ ∨ P0_7_ k_) ∨ w.heap.size ≤ k_) ∧ some k_ ≠ (u9000_ : Value).ownBlock ∧ some k_ ≠ (u9001_ : Value).ownBlock ∧ some k_ ≠ (u9002_ : Value).ownBlock) u9003_ l0_7 from Kd.R_mono ho0_7 (fun k_ hk => ⟨(.inl (.inr (.inr (.inr hk)))), fun e_ => hp0_7_0_1 k_ hk (ho0_1.1 k_ e_.symm), fun e_ => hp0_7_0_3 k_ hk (ho0_3.1 k_ e_.symm), fun e_ => hp0_7_0_5 k_ hk (ho0_5.1 k_ e_.symm)⟩))
 have BK0 := Goto.m0 hI
 have GE0 := Goto.m0 hG
 clear hI hG
 have HK := Goto.m0 (Kept.refl w (fun k_ => (P0_1_ k_ ∨ P0_3_ k_ ∨ P0_5_ k_ ∨ P0_7_ k_) ∨ k_ = g))
 have HW0 := Goto.m0 hB.size
 have HB := Goto.m0 hB
 clear hB
 have H : (object_Objects_waits.l0 k a1 0 a0_0 l0_1 a0_2 l0_3 a0_4 l0_5 a0_6 l0_7) = some (r1, r2, r3, r4, r5, r6, r7, r8, r9) := h
 clear h
 have H' := Goto.m0 H
 clear H
 go_enter Tryd.func37, Tryd.ntmps37
 go_wp2_with (first | (with_reducible refine Goto.scope_enter ?_))
 rename_i K0_ hK0_
 refine Goto.label_ghost (l := 0) hK0_ (fun a0_ kq a_ w' => ∃ w4_ v5 w6_ w7_ w8_ w9_ w10_ w11_ w12_ w13_ w14_ w15_ w16_ w17_ w18_ w19_ : Value, (∃ (x5_1 : Int), v5 = .int .i64 x5_1 ∧ Aside0 (object_Objects_waits.l0 kq a1 x5_1 a0_0 l0_1 a0_2 l0_3 a0_4 l0_5 a0_6 l0_7 = some (r1, r2, r3, r4, r5, r6, r7, r8, r9)) ∧ Aside0 (kq ≤ k) ∧ Aside0 (Kd.R (Kd.int .i64) 3 w' w0.heap.size (fun k_ => ((P0_1_ k_ ∨ P0_3_ k_ ∨ P0_5_ k_ ∨ P0_7_ k_) ∨ w.heap.size ≤ k_) ∧ some k_ ≠ (u9001_ : Value).ownBlock ∧ some k_ ≠ (u9002_ : Value).ownBlock ∧ some k_ ≠ (u9003_ : Value).ownBlock) u9000_ l0_1) ∧ Aside0 (Kd.R (Kd.int .i64) 3 w' w0.heap.size (fun k_ => ((P0_1_ k_ ∨ P0_3_ k_ ∨ P0_5_ k_ ∨ P0_7_ k_) ∨ w.heap.size ≤ k_) ∧ some k_ ≠ (u9000_ : Value).ownBlock ∧ some k_ ≠ (u9002_ : Value).ownBlock ∧ some k_ ≠ (u9003_ : Value).ownBlock) u9001_ l0_3) ∧ Aside0 (Kd.R (Kd.int .i64) 3 w' w0.heap.size (fun k_ => ((P0_1_ k_ ∨ P0_3_ k_ ∨ P0_5_ k_ ∨ P0_7_ k_) ∨ w.heap.size ≤ k_) ∧ some k_ ≠ (u9000_ : Value).ownBlock ∧ some k_ ≠ (u9001_ : Value).ownBlock ∧ some k_ ≠ (u9003_ : Value).ownBlock) u9002_ l0_5) ∧ Aside0 (Kd.R (Kd.int .i64) 3 w' w0.heap.size (fun k_ => ((P0_1_ k_ ∨ P0_3_ k_ ∨ P0_5_ k_ ∨ P0_7_ k_) ∨ w.heap.size ≤ k_) ∧ some k_ ≠ (u9000_ : Value).ownBlock ∧ some k_ ≠ (u9001_ : Value).ownBlock ∧ some k_ ≠ (u9002_ : Value).ownBlock) u9003_ l0_7) ∧ Aside0 (w'.heap[g]? = some (.cells #[.int .i64 a0_0, u9000_, .int .i64 a0_2, u9001_, .int .i64 a0_4, u9002_, .int .i64 a0_6, u9003_] 86 (0, 0))) ∧ Aside0 (Kept w w' (fun k_ => (P0_1_ k_ ∨ P0_3_ k_ ∨ P0_5_ k_ ∨ P0_7_ k_) ∨ k_ = g)) ∧ Aside0 (Below w0.heap.size w0 w')) ∧ a_ = { tmps := #[Goto.slot a0_.tmps.toList 0, Goto.slot a0_.tmps.toList 1, Goto.slot a0_.tmps.toList 2, Goto.slot a0_.tmps.toList 3, w4_, v5, w6_, w7_, w8_, w9_, w10_, w11_, w12_, w13_, w14_, w15_, w16_, w17_, w18_, w19_], defers := a0_.defers }) k ?hfl_ ?atStart ?round
 case hfl_ => rfl
 case atStart => ((repeat apply Exists.intro); refine ⟨?_, ?fr_⟩; (case fr_ => ((try simp only [Goto.slot_zero, Goto.slot_succ]); rfl)); exact ⟨(0), (by first | rfl | (simp; done) | (simp [*]; done) | (congr 1; unfold wrap64; omega)), H', ⟨Nat.le_refl _⟩, ⟨Goto.rk HO0_1⟩, ⟨Goto.rk HO0_3⟩, ⟨Goto.rk HO0_5⟩, ⟨Goto.rk HO0_7⟩, ⟨Goto.bx BK0⟩, ⟨by repeat (first | (with_reducible first | exact HK.out | apply Kept.alloc | apply Kept.drewN | apply Kept.drew | refine Kept.setCell ?_ (.inl (.inr rfl)) _) | exact HK.out)⟩, ⟨Goto.hx HB⟩⟩)
 case round =>
  clear hK0_ K0_
  clear H'
  try clear p2
  intro gk _ wr hinv_
  obtain ⟨w4_, v5, w6_, w7_, w8_, w9_, w10_, w11_, w12_, w13_, w14_, w15_, w16_, w17_, w18_, w19_, hrel, ha_⟩ := hinv_
  subst ha_
  (try simp only [Goto.slot_zero, Goto.slot_succ])
  intro _ _ _ _
  obtain ⟨x5_1, rfl, HA, HK1, HO_1001, HO_1003, HO_1005, HO_1007, BK0, HK, HB⟩ := hrel
  cases gk with
  | zero => exact absurd HA.out (by simp [object_Objects_waits.l0])
  | succ k1 =>
   have H := HA.out; clear HA
   simp only [object_Objects_waits.l0] at H
   by_cases c3 : x5_1 = 4
   ·
    rw [if_pos c3] at H
    have c3b0 : (x5_1 == 4) = true := beq_iff_eq.mpr c3
    have c3b1 : (x5_1 != 4) = false := bne_eq_false_iff_eq.mpr c3
    clear c3
    simp only [Option.some.injEq, Prod.mk.injEq] at H
    obtain ⟨rfl, rfl, rfl, rfl, rfl, rfl, rfl, rfl, rfl⟩ := H
    go_wp2_with (first | (with_reducible refine Goto.scope_enter ?_))
    (try simp only [Exit.inBlock, Exit.then])
    (try refine Goto.ret_hit ?_)
    (try refine Goto.end_hit ?_)
    go_ret
    (try simp only [← exists_and_left])
    exact ⟨_, _, _, _, Goto.er, Goto.rk HO_1001, Goto.rk HO_1003, Goto.rk HO_1005, Goto.rk HO_1007, by (with_reducible repeat first | refine blk_drewN ?_ _ | refine blk_drew ?_ | refine blk_alloc ?_ _); exact BK0.out, by repeat (first | (with_reducible first | exact HB.out | apply below_alloc | apply pw_below_drewN | apply below_drew1 | refine below_set ?_ GE0.out) | exact HB.out), by repeat (first | (with_reducible first | exact HK.out | apply Kept.alloc | apply Kept.drewN | apply Kept.drew | refine Kept.setCell ?_ (.inl (.inr rfl)) _) | exact HK.out)⟩
   ·
    rw [if_neg c3] at H
    have c3b0 : (x5_1 == 4) = false := beq_eq_false_iff_ne.mpr c3
    have c3b1 : (x5_1 != 4) = true := bne_iff_ne.mpr c3
    by_cases c4 : 0 ≤ x5_1
    ·
     rw [if_pos c4] at H
     have c4b0 : decide (0 ≤ x5_1) = true := decide_eq_true c4
     clear c4
     by_cases c5 : x5_1 < 4
     ·
      rw [if_pos c5] at H
      have c5b0 : decide (x5_1 < 4) = true := decide_eq_true c5
      clear c5
      by_cases c6 : x5_1 = 0
      ·
       rw [if_pos c6] at H
       have c6b0 : (x5_1 == 0) = true := beq_iff_eq.mpr c6
       have c6b1 : (x5_1 != 0) = false := bne_eq_false_iff_eq.mpr c6
       clear c6
       have hix7e : x5_1 = 0 := eq_of_beq (by first | (with_reducible assumption) | assumption)
       have hix7 : (x5_1).toNat = 0 := by rw [hix7e]; rfl
       have hix7c : (0 ≤ x5_1 ∧ x5_1 < (4 : Int)) = True := eq_true (by rw [hix7e]; decide)
       clear hix7e
       replace H := Option.bind_eq_some_iff.mp H
       obtain ⟨t104, A80, H⟩ := H
       have A8 := Goto.m0 A80
       clear A80
       by_cases c9 : t104 = true
       ·
        subst c9
        rw [if_pos rfl] at H
        simp only [Option.some.injEq, Prod.mk.injEq] at H
        obtain ⟨rfl, rfl, rfl, rfl, rfl, rfl, rfl, rfl, rfl⟩ := H
        have hcz10_0 := Goto.bc0 BK0; have hcz10_1 := Goto.bc1 BK0; have hcz10_2 := Goto.bc2 BK0; have hcz10_3 := Goto.bc3 BK0; have hcz10_4 := Goto.bc4 BK0; have hcz10_5 := Goto.bc5 BK0; have hcz10_6 := Goto.bc6 BK0; have hcz10_7 := Goto.bc7 BK0; have hfz10_0 := Goto.bf BK0 0; have hfz10_1 := Goto.bf BK0 1; have hfz10_2 := Goto.bf BK0 2; have hfz10_3 := Goto.bf BK0 3; have hfz10_4 := Goto.bf BK0 4; have hfz10_5 := Goto.bf BK0 5; have hfz10_6 := Goto.bf BK0 6; have hfz10_7 := Goto.bf BK0 7
        obtain ⟨Ao11, co11, eo11⟩ := Kd.R_slice HO_1001.out
        subst eo11
        go_wp2_with (first | ((with_reducible refine gate_callee (f := 50) rfl ?_); refine goesL_ (some 16) rfl rfl Tryd.func50 (by kernel_rfl) rfl #[.slice Ao11 l0_1.length co11, .int .i64 a1] rfl (by (try simp only [List.map_toArray, List.map_cons, List.map_nil]); first | done | rfl | (simp only [List.length_drop, List.length_take]; rfl)) ?_; (with_reducible refine (slices_Contains_int_int.calls k1 _ _ l0_1 a1 true _ ?side1 ?side2 A8.out).mono ?_); (case side1 => repeat (first | exact (Kd.R_reads' HO_1001.out).2.2 | (with_reducible refine Kd.C_alloc ?_ _) | (with_reducible refine Kd.C_drewN ?_ _) | (with_reducible refine Kd.C_drew ?_))); (case side2 => exact (Kd.R_reads' HO_1001.out).2.1); rintro e w' ⟨rfl, ⟨nd, rfl⟩⟩; refine ⟨_, rfl, ?_⟩) | (with_reducible refine Goto.scope_enter ?_))
        (try simp only [Exit.inBlock, Exit.then])
        (try refine Goto.ret_hit ?_)
        (try refine Goto.end_hit ?_)
        go_ret
        (try simp only [← exists_and_left])
        exact ⟨_, _, _, _, Goto.er, Goto.rk HO_1001, Goto.rk HO_1003, Goto.rk HO_1005, Goto.rk HO_1007, by (with_reducible repeat first | refine blk_drewN ?_ _ | refine blk_drew ?_ | refine blk_alloc ?_ _); exact BK0.out, by repeat (first | (with_reducible first | exact HB.out | apply below_alloc | apply pw_below_drewN | apply below_drew1 | refine below_set ?_ GE0.out) | exact HB.out), by repeat (first | (with_reducible first | exact HK.out | apply Kept.alloc | apply Kept.drewN | apply Kept.drew | refine Kept.setCell ?_ (.inl (.inr rfl)) _) | exact HK.out)⟩
       ·
        replace c9 := Bool.eq_false_iff.mpr c9
        subst c9
        rw [if_neg (show ¬ (false = true) by decide)] at H
        have H' := Goto.m0 H
        clear H; have hcz12_0 := Goto.bc0 BK0; have hcz12_1 := Goto.bc1 BK0; have hcz12_2 := Goto.bc2 BK0; have hcz12_3 := Goto.bc3 BK0; have hcz12_4 := Goto.bc4 BK0; have hcz12_5 := Goto.bc5 BK0; have hcz12_6 := Goto.bc6 BK0; have hcz12_7 := Goto.bc7 BK0; have hfz12_0 := Goto.bf BK0 0; have hfz12_1 := Goto.bf BK0 1; have hfz12_2 := Goto.bf BK0 2; have hfz12_3 := Goto.bf BK0 3; have hfz12_4 := Goto.bf BK0 4; have hfz12_5 := Goto.bf BK0 5; have hfz12_6 := Goto.bf BK0 6; have hfz12_7 := Goto.bf BK0 7
        obtain ⟨Ao13, co13, eo13⟩ := Kd.R_slice HO_1001.out
        subst eo13
        go_wp2_with (first | ((with_reducible refine gate_callee (f := 50) rfl ?_); refine goesL_ (some 16) rfl rfl Tryd.func50 (by kernel_rfl) rfl #[.slice Ao13 l0_1.length co13, .int .i64 a1] rfl (by (try simp only [List.map_toArray, List.map_cons, List.map_nil]); first | done | rfl | (simp only [List.length_drop, List.length_take]; rfl)) ?_; (with_reducible refine (slices_Contains_int_int.calls k1 _ _ l0_1 a1 false _ ?side1 ?side2 A8.out).mono ?_); (case side1 => repeat (first | exact (Kd.R_reads' HO_1001.out).2.2 | (with_reducible refine Kd.C_alloc ?_ _) | (with_reducible refine Kd.C_drewN ?_ _) | (with_reducible refine Kd.C_drew ?_))); (case side2 => exact (Kd.R_reads' HO_1001.out).2.1); rintro e w' ⟨rfl, ⟨nd, rfl⟩⟩; refine ⟨_, rfl, ?_⟩) | (with_reducible refine Goto.scope_enter ?_))
        refine wp_goto ?_
        (try simp only [Exit.then, Exit.inBlock])
        refine Goto.jump_hit ?_
        go_step
        go_roundg k1
        case measure => have := HK1.out; omega
        case rel => exact ⟨(wrap64 (x5_1 + 1)), (by first | rfl | (simp; done) | (simp [*]; done) | (congr 1; unfold wrap64; omega)), H', ⟨by have := HK1.out; omega⟩, ⟨Goto.rk HO_1001⟩, ⟨Goto.rk HO_1003⟩, ⟨Goto.rk HO_1005⟩, ⟨Goto.rk HO_1007⟩, ⟨Goto.bx BK0⟩, ⟨by repeat (first | (with_reducible first | exact HK.out | apply Kept.alloc | apply Kept.drewN | apply Kept.drew | refine Kept.setCell ?_ (.inl (.inr rfl)) _) | exact HK.out)⟩, ⟨Goto.hx HB⟩⟩
      ·
       rw [if_neg c6] at H
       have c6b0 : (x5_1 == 0) = false := beq_eq_false_iff_ne.mpr c6
       have c6b1 : (x5_1 != 0) = true := bne_iff_ne.mpr c6
       by_cases c14 : x5_1 = 1
       ·
        rw [if_pos c14] at H
        have c14b0 : (x5_1 == 1) = true := beq_iff_eq.mpr c14
        have c14b1 : (x5_1 != 1) = false := bne_eq_false_iff_eq.mpr c14
        clear c14
        have hix15e : x5_1 = 1 := eq_of_beq (by first | (with_reducible assumption) | assumption)
        have hix15 : (x5_1).toNat = 1 := by rw [hix15e]; rfl
        have hix15c : (0 ≤ x5_1 ∧ x5_1 < (4 : Int)) = True := eq_true (by rw [hix15e]; decide)
        clear hix15e
        replace H := Option.bind_eq_some_iff.mp H
        obtain ⟨t105, A160, H⟩ := H
        have A16 := Goto.m0 A160
        clear A160
        by_cases c17 : t105 = true
        ·
         subst c17
         rw [if_pos rfl] at H
         simp only [Option.some.injEq, Prod.mk.injEq] at H
         obtain ⟨rfl, rfl, rfl, rfl, rfl, rfl, rfl, rfl, rfl⟩ := H
         have hcz18_0 := Goto.bc0 BK0; have hcz18_1 := Goto.bc1 BK0; have hcz18_2 := Goto.bc2 BK0; have hcz18_3 := Goto.bc3 BK0; have hcz18_4 := Goto.bc4 BK0; have hcz18_5 := Goto.bc5 BK0; have hcz18_6 := Goto.bc6 BK0; have hcz18_7 := Goto.bc7 BK0; have hfz18_0 := Goto.bf BK0 0; have hfz18_1 := Goto.bf BK0 1; have hfz18_2 := Goto.bf BK0 2; have hfz18_3 := Goto.bf BK0 3; have hfz18_4 := Goto.bf BK0 4; have hfz18_5 := Goto.bf BK0 5; have hfz18_6 := Goto.bf BK0 6; have hfz18_7 := Goto.bf BK0 7
         obtain ⟨Ao19, co19, eo19⟩ := Kd.R_slice HO_1003.out
         subst eo19
         go_wp2_with (first | ((with_reducible refine gate_callee (f := 50) rfl ?_); refine goesL_ (some 16) rfl rfl Tryd.func50 (by kernel_rfl) rfl #[.slice Ao19 l0_3.length co19, .int .i64 a1] rfl (by (try simp only [List.map_toArray, List.map_cons, List.map_nil]); first | done | rfl | (simp only [List.length_drop, List.length_take]; rfl)) ?_; (with_reducible refine (slices_Contains_int_int.calls k1 _ _ l0_3 a1 true _ ?side1 ?side2 A16.out).mono ?_); (case side1 => repeat (first | exact (Kd.R_reads' HO_1003.out).2.2 | (with_reducible refine Kd.C_alloc ?_ _) | (with_reducible refine Kd.C_drewN ?_ _) | (with_reducible refine Kd.C_drew ?_))); (case side2 => exact (Kd.R_reads' HO_1003.out).2.1); rintro e w' ⟨rfl, ⟨nd, rfl⟩⟩; refine ⟨_, rfl, ?_⟩) | (with_reducible refine Goto.scope_enter ?_))
         (try simp only [Exit.inBlock, Exit.then])
         (try refine Goto.ret_hit ?_)
         (try refine Goto.end_hit ?_)
         go_ret
         (try simp only [← exists_and_left])
         exact ⟨_, _, _, _, Goto.er, Goto.rk HO_1001, Goto.rk HO_1003, Goto.rk HO_1005, Goto.rk HO_1007, by (with_reducible repeat first | refine blk_drewN ?_ _ | refine blk_drew ?_ | refine blk_alloc ?_ _); exact BK0.out, by repeat (first | (with_reducible first | exact HB.out | apply below_alloc | apply pw_below_drewN | apply below_drew1 | refine below_set ?_ GE0.out) | exact HB.out), by repeat (first | (with_reducible first | exact HK.out | apply Kept.alloc | apply Kept.drewN | apply Kept.drew | refine Kept.setCell ?_ (.inl (.inr rfl)) _) | exact HK.out)⟩
        ·
         replace c17 := Bool.eq_false_iff.mpr c17
         subst c17
         rw [if_neg (show ¬ (false = true) by decide)] at H
         have H' := Goto.m0 H
         clear H; have hcz20_0 := Goto.bc0 BK0; have hcz20_1 := Goto.bc1 BK0; have hcz20_2 := Goto.bc2 BK0; have hcz20_3 := Goto.bc3 BK0; have hcz20_4 := Goto.bc4 BK0; have hcz20_5 := Goto.bc5 BK0; have hcz20_6 := Goto.bc6 BK0; have hcz20_7 := Goto.bc7 BK0; have hfz20_0 := Goto.bf BK0 0; have hfz20_1 := Goto.bf BK0 1; have hfz20_2 := Goto.bf BK0 2; have hfz20_3 := Goto.bf BK0 3; have hfz20_4 := Goto.bf BK0 4; have hfz20_5 := Goto.bf BK0 5; have hfz20_6 := Goto.bf BK0 6; have hfz20_7 := Goto.bf BK0 7
         obtain ⟨Ao21, co21, eo21⟩ := Kd.R_slice HO_1003.out
         subst eo21
         go_wp2_with (first | ((with_reducible refine gate_callee (f := 50) rfl ?_); refine goesL_ (some 16) rfl rfl Tryd.func50 (by kernel_rfl) rfl #[.slice Ao21 l0_3.length co21, .int .i64 a1] rfl (by (try simp only [List.map_toArray, List.map_cons, List.map_nil]); first | done | rfl | (simp only [List.length_drop, List.length_take]; rfl)) ?_; (with_reducible refine (slices_Contains_int_int.calls k1 _ _ l0_3 a1 false _ ?side1 ?side2 A16.out).mono ?_); (case side1 => repeat (first | exact (Kd.R_reads' HO_1003.out).2.2 | (with_reducible refine Kd.C_alloc ?_ _) | (with_reducible refine Kd.C_drewN ?_ _) | (with_reducible refine Kd.C_drew ?_))); (case side2 => exact (Kd.R_reads' HO_1003.out).2.1); rintro e w' ⟨rfl, ⟨nd, rfl⟩⟩; refine ⟨_, rfl, ?_⟩) | (with_reducible refine Goto.scope_enter ?_))
         refine wp_goto ?_
         (try simp only [Exit.then, Exit.inBlock])
         refine Goto.jump_hit ?_
         go_step
         go_roundg k1
         case measure => have := HK1.out; omega
         case rel => exact ⟨(wrap64 (x5_1 + 1)), (by first | rfl | (simp; done) | (simp [*]; done) | (congr 1; unfold wrap64; omega)), H', ⟨by have := HK1.out; omega⟩, ⟨Goto.rk HO_1001⟩, ⟨Goto.rk HO_1003⟩, ⟨Goto.rk HO_1005⟩, ⟨Goto.rk HO_1007⟩, ⟨Goto.bx BK0⟩, ⟨by repeat (first | (with_reducible first | exact HK.out | apply Kept.alloc | apply Kept.drewN | apply Kept.drew | refine Kept.setCell ?_ (.inl (.inr rfl)) _) | exact HK.out)⟩, ⟨Goto.hx HB⟩⟩
       ·
        rw [if_neg c14] at H
        have c14b0 : (x5_1 == 1) = false := beq_eq_false_iff_ne.mpr c14
        have c14b1 : (x5_1 != 1) = true := bne_iff_ne.mpr c14
        by_cases c22 : x5_1 = 2
        ·
         rw [if_pos c22] at H
         have c22b0 : (x5_1 == 2) = true := beq_iff_eq.mpr c22
         have c22b1 : (x5_1 != 2) = false := bne_eq_false_iff_eq.mpr c22
         clear c22
         have hix23e : x5_1 = 2 := eq_of_beq (by first | (with_reducible assumption) | assumption)
         have hix23 : (x5_1).toNat = 2 := by rw [hix23e]; rfl
         have hix23c : (0 ≤ x5_1 ∧ x5_1 < (4 : Int)) = True := eq_true (by rw [hix23e]; decide)
         clear hix23e
         replace H := Option.bind_eq_some_iff.mp H
         obtain ⟨t106, A240, H⟩ := H
         have A24 := Goto.m0 A240
         clear A240
         by_cases c25 : t106 = true
         ·
          subst c25
          rw [if_pos rfl] at H
          simp only [Option.some.injEq, Prod.mk.injEq] at H
          obtain ⟨rfl, rfl, rfl, rfl, rfl, rfl, rfl, rfl, rfl⟩ := H
          have hcz26_0 := Goto.bc0 BK0; have hcz26_1 := Goto.bc1 BK0; have hcz26_2 := Goto.bc2 BK0; have hcz26_3 := Goto.bc3 BK0; have hcz26_4 := Goto.bc4 BK0; have hcz26_5 := Goto.bc5 BK0; have hcz26_6 := Goto.bc6 BK0; have hcz26_7 := Goto.bc7 BK0; have hfz26_0 := Goto.bf BK0 0; have hfz26_1 := Goto.bf BK0 1; have hfz26_2 := Goto.bf BK0 2; have hfz26_3 := Goto.bf BK0 3; have hfz26_4 := Goto.bf BK0 4; have hfz26_5 := Goto.bf BK0 5; have hfz26_6 := Goto.bf BK0 6; have hfz26_7 := Goto.bf BK0 7
          obtain ⟨Ao27, co27, eo27⟩ := Kd.R_slice HO_1005.out
          subst eo27
          go_wp2_with (first | ((with_reducible refine gate_callee (f := 50) rfl ?_); refine goesL_ (some 16) rfl rfl Tryd.func50 (by kernel_rfl) rfl #[.slice Ao27 l0_5.length co27, .int .i64 a1] rfl (by (try simp only [List.map_toArray, List.map_cons, List.map_nil]); first | done | rfl | (simp only [List.length_drop, List.length_take]; rfl)) ?_; (with_reducible refine (slices_Contains_int_int.calls k1 _ _ l0_5 a1 true _ ?side1 ?side2 A24.out).mono ?_); (case side1 => repeat (first | exact (Kd.R_reads' HO_1005.out).2.2 | (with_reducible refine Kd.C_alloc ?_ _) | (with_reducible refine Kd.C_drewN ?_ _) | (with_reducible refine Kd.C_drew ?_))); (case side2 => exact (Kd.R_reads' HO_1005.out).2.1); rintro e w' ⟨rfl, ⟨nd, rfl⟩⟩; refine ⟨_, rfl, ?_⟩) | (with_reducible refine Goto.scope_enter ?_))
          (try simp only [Exit.inBlock, Exit.then])
          (try refine Goto.ret_hit ?_)
          (try refine Goto.end_hit ?_)
          go_ret
          (try simp only [← exists_and_left])
          exact ⟨_, _, _, _, Goto.er, Goto.rk HO_1001, Goto.rk HO_1003, Goto.rk HO_1005, Goto.rk HO_1007, by (with_reducible repeat first | refine blk_drewN ?_ _ | refine blk_drew ?_ | refine blk_alloc ?_ _); exact BK0.out, by repeat (first | (with_reducible first | exact HB.out | apply below_alloc | apply pw_below_drewN | apply below_drew1 | refine below_set ?_ GE0.out) | exact HB.out), by repeat (first | (with_reducible first | exact HK.out | apply Kept.alloc | apply Kept.drewN | apply Kept.drew | refine Kept.setCell ?_ (.inl (.inr rfl)) _) | exact HK.out)⟩
         ·
          replace c25 := Bool.eq_false_iff.mpr c25
          subst c25
          rw [if_neg (show ¬ (false = true) by decide)] at H
          have H' := Goto.m0 H
          clear H; have hcz28_0 := Goto.bc0 BK0; have hcz28_1 := Goto.bc1 BK0; have hcz28_2 := Goto.bc2 BK0; have hcz28_3 := Goto.bc3 BK0; have hcz28_4 := Goto.bc4 BK0; have hcz28_5 := Goto.bc5 BK0; have hcz28_6 := Goto.bc6 BK0; have hcz28_7 := Goto.bc7 BK0; have hfz28_0 := Goto.bf BK0 0; have hfz28_1 := Goto.bf BK0 1; have hfz28_2 := Goto.bf BK0 2; have hfz28_3 := Goto.bf BK0 3; have hfz28_4 := Goto.bf BK0 4; have hfz28_5 := Goto.bf BK0 5; have hfz28_6 := Goto.bf BK0 6; have hfz28_7 := Goto.bf BK0 7
          obtain ⟨Ao29, co29, eo29⟩ := Kd.R_slice HO_1005.out
          subst eo29
          go_wp2_with (first | ((with_reducible refine gate_callee (f := 50) rfl ?_); refine goesL_ (some 16) rfl rfl Tryd.func50 (by kernel_rfl) rfl #[.slice Ao29 l0_5.length co29, .int .i64 a1] rfl (by (try simp only [List.map_toArray, List.map_cons, List.map_nil]); first | done | rfl | (simp only [List.length_drop, List.length_take]; rfl)) ?_; (with_reducible refine (slices_Contains_int_int.calls k1 _ _ l0_5 a1 false _ ?side1 ?side2 A24.out).mono ?_); (case side1 => repeat (first | exact (Kd.R_reads' HO_1005.out).2.2 | (with_reducible refine Kd.C_alloc ?_ _) | (with_reducible refine Kd.C_drewN ?_ _) | (with_reducible refine Kd.C_drew ?_))); (case side2 => exact (Kd.R_reads' HO_1005.out).2.1); rintro e w' ⟨rfl, ⟨nd, rfl⟩⟩; refine ⟨_, rfl, ?_⟩) | (with_reducible refine Goto.scope_enter ?_))
          refine wp_goto ?_
          (try simp only [Exit.then, Exit.inBlock])
          refine Goto.jump_hit ?_
          go_step
          go_roundg k1
          case measure => have := HK1.out; omega
          case rel => exact ⟨(wrap64 (x5_1 + 1)), (by first | rfl | (simp; done) | (simp [*]; done) | (congr 1; unfold wrap64; omega)), H', ⟨by have := HK1.out; omega⟩, ⟨Goto.rk HO_1001⟩, ⟨Goto.rk HO_1003⟩, ⟨Goto.rk HO_1005⟩, ⟨Goto.rk HO_1007⟩, ⟨Goto.bx BK0⟩, ⟨by repeat (first | (with_reducible first | exact HK.out | apply Kept.alloc | apply Kept.drewN | apply Kept.drew | refine Kept.setCell ?_ (.inl (.inr rfl)) _) | exact HK.out)⟩, ⟨Goto.hx HB⟩⟩
        ·
         rw [if_neg c22] at H
         have c22b0 : (x5_1 == 2) = false := beq_eq_false_iff_ne.mpr c22
         have c22b1 : (x5_1 != 2) = true := bne_iff_ne.mpr c22
         by_cases c30 : x5_1 = 3
         ·
          rw [if_pos c30] at H
          have c30b0 : (x5_1 == 3) = true := beq_iff_eq.mpr c30
          have c30b1 : (x5_1 != 3) = false := bne_eq_false_iff_eq.mpr c30
          clear c30
          have hix31e : x5_1 = 3 := eq_of_beq (by first | (with_reducible assumption) | assumption)
          have hix31 : (x5_1).toNat = 3 := by rw [hix31e]; rfl
          have hix31c : (0 ≤ x5_1 ∧ x5_1 < (4 : Int)) = True := eq_true (by rw [hix31e]; decide)
          clear hix31e
          replace H := Option.bind_eq_some_iff.mp H
          obtain ⟨t107, A320, H⟩ := H
          have A32 := Goto.m0 A320
          clear A320
          by_cases c33 : t107 = true
          ·
           subst c33
           rw [if_pos rfl] at H
           simp only [Option.some.injEq, Prod.mk.injEq] at H
           obtain ⟨rfl, rfl, rfl, rfl, rfl, rfl, rfl, rfl, rfl⟩ := H
           have hcz34_0 := Goto.bc0 BK0; have hcz34_1 := Goto.bc1 BK0; have hcz34_2 := Goto.bc2 BK0; have hcz34_3 := Goto.bc3 BK0; have hcz34_4 := Goto.bc4 BK0; have hcz34_5 := Goto.bc5 BK0; have hcz34_6 := Goto.bc6 BK0; have hcz34_7 := Goto.bc7 BK0; have hfz34_0 := Goto.bf BK0 0; have hfz34_1 := Goto.bf BK0 1; have hfz34_2 := Goto.bf BK0 2; have hfz34_3 := Goto.bf BK0 3; have hfz34_4 := Goto.bf BK0 4; have hfz34_5 := Goto.bf BK0 5; have hfz34_6 := Goto.bf BK0 6; have hfz34_7 := Goto.bf BK0 7
           obtain ⟨Ao35, co35, eo35⟩ := Kd.R_slice HO_1007.out
           subst eo35
           go_wp2_with (first | ((with_reducible refine gate_callee (f := 50) rfl ?_); refine goesL_ (some 16) rfl rfl Tryd.func50 (by kernel_rfl) rfl #[.slice Ao35 l0_7.length co35, .int .i64 a1] rfl (by (try simp only [List.map_toArray, List.map_cons, List.map_nil]); first | done | rfl | (simp only [List.length_drop, List.length_take]; rfl)) ?_; (with_reducible refine (slices_Contains_int_int.calls k1 _ _ l0_7 a1 true _ ?side1 ?side2 A32.out).mono ?_); (case side1 => repeat (first | exact (Kd.R_reads' HO_1007.out).2.2 | (with_reducible refine Kd.C_alloc ?_ _) | (with_reducible refine Kd.C_drewN ?_ _) | (with_reducible refine Kd.C_drew ?_))); (case side2 => exact (Kd.R_reads' HO_1007.out).2.1); rintro e w' ⟨rfl, ⟨nd, rfl⟩⟩; refine ⟨_, rfl, ?_⟩) | (with_reducible refine Goto.scope_enter ?_))
           (try simp only [Exit.inBlock, Exit.then])
           (try refine Goto.ret_hit ?_)
           (try refine Goto.end_hit ?_)
           go_ret
           (try simp only [← exists_and_left])
           exact ⟨_, _, _, _, Goto.er, Goto.rk HO_1001, Goto.rk HO_1003, Goto.rk HO_1005, Goto.rk HO_1007, by (with_reducible repeat first | refine blk_drewN ?_ _ | refine blk_drew ?_ | refine blk_alloc ?_ _); exact BK0.out, by repeat (first | (with_reducible first | exact HB.out | apply below_alloc | apply pw_below_drewN | apply below_drew1 | refine below_set ?_ GE0.out) | exact HB.out), by repeat (first | (with_reducible first | exact HK.out | apply Kept.alloc | apply Kept.drewN | apply Kept.drew | refine Kept.setCell ?_ (.inl (.inr rfl)) _) | exact HK.out)⟩
          ·
           replace c33 := Bool.eq_false_iff.mpr c33
           subst c33
           rw [if_neg (show ¬ (false = true) by decide)] at H
           have H' := Goto.m0 H
           clear H; have hcz36_0 := Goto.bc0 BK0; have hcz36_1 := Goto.bc1 BK0; have hcz36_2 := Goto.bc2 BK0; have hcz36_3 := Goto.bc3 BK0; have hcz36_4 := Goto.bc4 BK0; have hcz36_5 := Goto.bc5 BK0; have hcz36_6 := Goto.bc6 BK0; have hcz36_7 := Goto.bc7 BK0; have hfz36_0 := Goto.bf BK0 0; have hfz36_1 := Goto.bf BK0 1; have hfz36_2 := Goto.bf BK0 2; have hfz36_3 := Goto.bf BK0 3; have hfz36_4 := Goto.bf BK0 4; have hfz36_5 := Goto.bf BK0 5; have hfz36_6 := Goto.bf BK0 6; have hfz36_7 := Goto.bf BK0 7
           obtain ⟨Ao37, co37, eo37⟩ := Kd.R_slice HO_1007.out
           subst eo37
           go_wp2_with (first | ((with_reducible refine gate_callee (f := 50) rfl ?_); refine goesL_ (some 16) rfl rfl Tryd.func50 (by kernel_rfl) rfl #[.slice Ao37 l0_7.length co37, .int .i64 a1] rfl (by (try simp only [List.map_toArray, List.map_cons, List.map_nil]); first | done | rfl | (simp only [List.length_drop, List.length_take]; rfl)) ?_; (with_reducible refine (slices_Contains_int_int.calls k1 _ _ l0_7 a1 false _ ?side1 ?side2 A32.out).mono ?_); (case side1 => repeat (first | exact (Kd.R_reads' HO_1007.out).2.2 | (with_reducible refine Kd.C_alloc ?_ _) | (with_reducible refine Kd.C_drewN ?_ _) | (with_reducible refine Kd.C_drew ?_))); (case side2 => exact (Kd.R_reads' HO_1007.out).2.1); rintro e w' ⟨rfl, ⟨nd, rfl⟩⟩; refine ⟨_, rfl, ?_⟩) | (with_reducible refine Goto.scope_enter ?_))
           refine wp_goto ?_
           (try simp only [Exit.then, Exit.inBlock])
           refine Goto.jump_hit ?_
           go_step
           go_roundg k1
           case measure => have := HK1.out; omega
           case rel => exact ⟨(wrap64 (x5_1 + 1)), (by first | rfl | (simp; done) | (simp [*]; done) | (congr 1; unfold wrap64; omega)), H', ⟨by have := HK1.out; omega⟩, ⟨Goto.rk HO_1001⟩, ⟨Goto.rk HO_1003⟩, ⟨Goto.rk HO_1005⟩, ⟨Goto.rk HO_1007⟩, ⟨Goto.bx BK0⟩, ⟨by repeat (first | (with_reducible first | exact HK.out | apply Kept.alloc | apply Kept.drewN | apply Kept.drew | refine Kept.setCell ?_ (.inl (.inr rfl)) _) | exact HK.out)⟩, ⟨Goto.hx HB⟩⟩
         ·
          rw [if_neg c30] at H
          exact absurd H (by simp)
     ·
      rw [if_neg c5] at H
      exact absurd H (by simp)
    ·
     rw [if_neg c4] at H
     exact absurd H (by simp)

end Go.Proofs.YtiejhnijfgdapaaDoor.P
