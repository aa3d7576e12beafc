/- Printed by a program of this workplace (a turned copy of the kit's optional print), out of the translation; not trusted: Lean checks it. -/
import Derived.Test.YtiejhnijfgdapaaDoorPx0
import Derived.Test.YtiejhnijfgdapaaDoorPx1
import Derived.Test.YtiejhnijfgdapaaDoorPx3
import Derived.Test.YtiejhnijfgdapaaDoorPx4
import Derived.Test.YtiejhnijfgdapaaDoorPx5
import Derived.Test.YtiejhnijfgdapaaDoorPx6
import Derived.Test.YtiejhnijfgdapaaDoorPx7
import Derived.Test.YtiejhnijfgdapaaDoorPx8
import Derived.Test.YtiejhnijfgdapaaDoorCode
namespace Go.Proofs.YtiejhnijfgdapaaDoor.P
open Go.RowKit Go.Proofs.YtiejhnijfgdapaaDoorW.PrintWords Go.Proofs.YtiejhnijfgdapaaDoorW.PrintLast Go.Proofs.YtiejhnijfgdapaaDoorW.PrintMore
attribute [local go_sem] max2_int min2_int max_two min_two max_three min_three max_four min_four   -- for this text's walks alone
set_option linter.unusedVariables false
set_option linter.unusedSimpArgs false

/-! ### tontinelaw2_WireTells: function 3 -/
mutual
def tontinelaw2_WireTells.j0 : Nat → Int → Int → ByteArray → List (S38) → Bool → Option (Bool)
  | 0, _, _, _, _, _ => none
  | k + 1, x0, x1, x2, x3, x22 => if x22 = true then (some true) else ((wire_New.f).bind fun t189 => ((wire_Writer_Num.f k t189 x0).bind fun t192 => ((wire_Writer_Bits.f k t192 x1).bind fun t195 => ((wire_Writer_String.f t195).bind fun bt198 => ((tontineref1_Num.f k x0).bind fun t200 => ((tontineref1_Bits.f k x1).bind fun t201 => (if t200.size + t201.size ≤ 9223372036854775807 then (if bt198.1.toList = (t200 ++ t201).toList then ((wire_Of.f x2).bind fun bt203 => (tontinelaw2_WireTells.l0 k x3 0 bt203.1 bt203.2 x2 0)) else (some false)) else (none))))))))
def tontinelaw2_WireTells.l0 : Nat → List (S38) → Int → ByteArray → Option Int → ByteArray → Int → Option (Bool)
  | 0, _, _, _, _, _, _ => none
  | k + 1, x3, x12, x203000, x203001, x206000, x206001 => if x12 < (x3.length : Int) then (if 0 ≤ x12 then (if ((rd_T38 x3 x12).f0) = 0 then ((wire_Reader_Num.f k x203000 x203001 ((rd_T38 x3 x12).f1)).bind fun bt208 => ((tontineref1_Reader_Num.f k x206000 x206001 ((rd_T38 x3 x12).f1)).bind fun bt212 => (if bt208.1 = bt212.1 then (tontinelaw2_WireTells.j2 k x3 x12 bt208.2.1 bt208.2.2 bt212.2.1 bt212.2.2) else (some false)))) else ((wire_Reader_Bits.f k x203000 x203001).bind fun bt215 => ((tontineref1_Reader_Bits.f k x206000 x206001).bind fun bt218 => (if bt215.1 = bt218.1 then (tontinelaw2_WireTells.j2 k x3 x12 bt215.2.1 bt215.2.2 bt218.2.1 bt218.2.2) else (some false))))) else (none)) else (some true)
def tontinelaw2_WireTells.j2 : Nat → List (S38) → Int → ByteArray → Option Int → ByteArray → Int → Option (Bool)
  | 0, _, _, _, _, _, _ => none
  | k + 1, x3, x12, x203000, x203001, x206000, x206001 => (wire_Reader_Err.f x203000 x203001).bind fun bt221 => ((ext_17.f bt221.1).bind fun t224 => (if t224 = x206001 then ((wire_Reader_Left.f bt221.2.1 bt221.2.2).bind fun bt225 => (if bt225.1 = (x206000.size : Int) then (tontinelaw2_WireTells.l0 k x3 (wrap64 (x12 + 1)) bt225.2.1 bt225.2.2 x206000 x206001) else (some false))) else (some false)))
end
def tontinelaw2_WireTells.f (k : Nat) (a0 : Int) (a1 : Int) (a2 : ByteArray) (l3 : List (S38)) : Option (Bool) := (tontinelaw2_known.f k).bind fun t187 => (if t187 = true then (if (a2.size : Int) > 500 then (tontinelaw2_WireTells.j0 k a0 a1 a2 l3 true) else (tontinelaw2_WireTells.j0 k a0 a1 a2 l3 (decide ((l3.length : Int) > 30)))) else (some false))
theorem tontinelaw2_WireTells.mono_l : ∀ k, (∀ y0 y1 y2 y3 y4, LeO (tontinelaw2_WireTells.j0 k y0 y1 y2 y3 y4) (tontinelaw2_WireTells.j0 (k + 1) y0 y1 y2 y3 y4)) ∧ (∀ y0 y1 y2 y3 y4 y5, LeO (tontinelaw2_WireTells.l0 k y0 y1 y2 y3 y4 y5) (tontinelaw2_WireTells.l0 (k + 1) y0 y1 y2 y3 y4 y5)) ∧ (∀ y0 y1 y2 y3 y4 y5, LeO (tontinelaw2_WireTells.j2 k y0 y1 y2 y3 y4 y5) (tontinelaw2_WireTells.j2 (k + 1) y0 y1 y2 y3 y4 y5))
  | 0 => ⟨fun _ _ _ _ _ r h => by simp [tontinelaw2_WireTells.j0] at h, fun _ _ _ _ _ _ r h => by simp [tontinelaw2_WireTells.l0] at h, fun _ _ _ _ _ _ r h => by simp [tontinelaw2_WireTells.j2] at h⟩
  | k + 1 => by
    obtain ⟨ih0, ih1, ih2⟩ := tontinelaw2_WireTells.mono_l k
    refine ⟨?_, ?_, ?_⟩
    · intro y0 y1 y2 y3 y4
      unfold tontinelaw2_WireTells.j0
      repeat' first
      | (with_reducible exact ih0 _ _ _ _ _)
      | (with_reducible exact ih1 _ _ _ _ _ _)
      | (with_reducible exact ih2 _ _ _ _ _ _)
      | (with_reducible exact tontinelaw2_known.mono _)
      | (with_reducible exact tontineref1_Bits.mono _ _)
      | (with_reducible exact tontineref1_Num.mono _ _)
      | (with_reducible exact tontineref1_Reader_Bits.mono _ _ _)
      | (with_reducible exact tontineref1_Reader_Num.mono _ _ _ _)
      | (with_reducible exact wire_Reader_Bits.mono _ _ _)
      | (with_reducible exact wire_Reader_Num.mono _ _ _ _)
      | (with_reducible exact wire_Writer_Bits.mono _ _ _)
      | (with_reducible exact wire_Writer_Num.mono _ _ _)
      | (with_reducible exact LeO.refl _)
      | (with_reducible exact LeO.none _)
      | (with_reducible refine LeO.ite ?_ ?_)
      | (with_reducible refine LeO.bind ?_ (fun _ => ?_))
      | exact ih0 _ _ _ _ _
      | exact ih1 _ _ _ _ _ _
      | exact ih2 _ _ _ _ _ _
      | exact tontinelaw2_known.mono _
      | exact tontineref1_Bits.mono _ _
      | exact tontineref1_Num.mono _ _
      | exact tontineref1_Reader_Bits.mono _ _ _
      | exact tontineref1_Reader_Num.mono _ _ _ _
      | exact wire_Reader_Bits.mono _ _ _
      | exact wire_Reader_Num.mono _ _ _ _
      | exact wire_Writer_Bits.mono _ _ _
      | exact wire_Writer_Num.mono _ _ _
      | exact LeO.none _
      | refine LeO.ite ?_ ?_
      | refine LeO.bind ?_ (fun _ => ?_)
    · intro y0 y1 y2 y3 y4 y5
      unfold tontinelaw2_WireTells.l0
      repeat' first
      | (with_reducible exact ih0 _ _ _ _ _)
      | (with_reducible exact ih1 _ _ _ _ _ _)
      | (with_reducible exact ih2 _ _ _ _ _ _)
      | (with_reducible exact tontinelaw2_known.mono _)
      | (with_reducible exact tontineref1_Bits.mono _ _)
      | (with_reducible exact tontineref1_Num.mono _ _)
      | (with_reducible exact tontineref1_Reader_Bits.mono _ _ _)
      | (with_reducible exact tontineref1_Reader_Num.mono _ _ _ _)
      | (with_reducible exact wire_Reader_Bits.mono _ _ _)
      | (with_reducible exact wire_Reader_Num.mono _ _ _ _)
      | (with_reducible exact wire_Writer_Bits.mono _ _ _)
      | (with_reducible exact wire_Writer_Num.mono _ _ _)
      | (with_reducible exact LeO.refl _)
      | (with_reducible exact LeO.none _)
      | (with_reducible refine LeO.ite ?_ ?_)
      | (with_reducible refine LeO.bind ?_ (fun _ => ?_))
      | exact ih0 _ _ _ _ _
      | exact ih1 _ _ _ _ _ _
      | exact ih2 _ _ _ _ _ _
      | exact tontinelaw2_known.mono _
      | exact tontineref1_Bits.mono _ _
      | exact tontineref1_Num.mono _ _
      | exact tontineref1_Reader_Bits.mono _ _ _
      | exact tontineref1_Reader_Num.mono _ _ _ _
      | exact wire_Reader_Bits.mono _ _ _
      | exact wire_Reader_Num.mono _ _ _ _
      | exact wire_Writer_Bits.mono _ _ _
      | exact wire_Writer_Num.mono _ _ _
      | exact LeO.none _
      | refine LeO.ite ?_ ?_
      | refine LeO.bind ?_ (fun _ => ?_)
    · intro y0 y1 y2 y3 y4 y5
      unfold tontinelaw2_WireTells.j2
      repeat' first
      | (with_reducible exact ih0 _ _ _ _ _)
      | (with_reducible exact ih1 _ _ _ _ _ _)
      | (with_reducible exact ih2 _ _ _ _ _ _)
      | (with_reducible exact tontinelaw2_known.mono _)
      | (with_reducible exact tontineref1_Bits.mono _ _)
      | (with_reducible exact tontineref1_Num.mono _ _)
      | (with_reducible exact tontineref1_Reader_Bits.mono _ _ _)
      | (with_reducible exact tontineref1_Reader_Num.mono _ _ _ _)
      | (with_reducible exact wire_Reader_Bits.mono _ _ _)
      | (with_reducible exact wire_Reader_Num.mono _ _ _ _)
      | (with_reducible exact wire_Writer_Bits.mono _ _ _)
      | (with_reducible exact wire_Writer_Num.mono _ _ _)
      | (with_reducible exact LeO.refl _)
      | (with_reducible exact LeO.none _)
      | (with_reducible refine LeO.ite ?_ ?_)
      | (with_reducible refine LeO.bind ?_ (fun _ => ?_))
      | exact ih0 _ _ _ _ _
      | exact ih1 _ _ _ _ _ _
      | exact ih2 _ _ _ _ _ _
      | exact tontinelaw2_known.mono _
      | exact tontineref1_Bits.mono _ _
      | exact tontineref1_Num.mono _ _
      | exact tontineref1_Reader_Bits.mono _ _ _
      | exact tontineref1_Reader_Num.mono _ _ _ _
      | exact wire_Reader_Bits.mono _ _ _
      | exact wire_Reader_Num.mono _ _ _ _
      | exact wire_Writer_Bits.mono _ _ _
      | exact wire_Writer_Num.mono _ _ _
      | exact LeO.none _
      | refine LeO.ite ?_ ?_
      | refine LeO.bind ?_ (fun _ => ?_)
theorem tontinelaw2_WireTells.mono : ∀ a0 a1 a2 a3 k, LeO (tontinelaw2_WireTells.f k a0 a1 a2 a3) (tontinelaw2_WireTells.f (k + 1) a0 a1 a2 a3) := by
 intro a0 a1 a2 a3 k
 obtain ⟨ih0, ih1, ih2⟩ := tontinelaw2_WireTells.mono_l k
 unfold tontinelaw2_WireTells.f
 repeat' first
   | (with_reducible exact ih0 _ _ _ _ _)
   | (with_reducible exact ih1 _ _ _ _ _ _)
   | (with_reducible exact ih2 _ _ _ _ _ _)
   | (with_reducible exact tontinelaw2_known.mono _)
   | (with_reducible exact tontineref1_Bits.mono _ _)
   | (with_reducible exact tontineref1_Num.mono _ _)
   | (with_reducible exact tontineref1_Reader_Bits.mono _ _ _)
   | (with_reducible exact tontineref1_Reader_Num.mono _ _ _ _)
   | (with_reducible exact wire_Reader_Bits.mono _ _ _)
   | (with_reducible exact wire_Reader_Num.mono _ _ _ _)
   | (with_reducible exact wire_Writer_Bits.mono _ _ _)
   | (with_reducible exact wire_Writer_Num.mono _ _ _)
   | (with_reducible exact LeO.refl _)
   | (with_reducible exact LeO.none _)
   | (with_reducible refine LeO.ite ?_ ?_)
   | (with_reducible refine LeO.bind ?_ (fun _ => ?_))
   | exact ih0 _ _ _ _ _
   | exact ih1 _ _ _ _ _ _
   | exact ih2 _ _ _ _ _ _
   | exact tontinelaw2_known.mono _
   | exact tontineref1_Bits.mono _ _
   | exact tontineref1_Num.mono _ _
   | exact tontineref1_Reader_Bits.mono _ _ _
   | exact tontineref1_Reader_Num.mono _ _ _ _
   | exact wire_Reader_Bits.mono _ _ _
   | exact wire_Reader_Num.mono _ _ _ _
   | exact wire_Writer_Bits.mono _ _ _
   | exact wire_Writer_Num.mono _ _ _
   | exact LeO.none _
   | refine LeO.ite ?_ ?_
   | refine LeO.bind ?_ (fun _ => ?_)
def tontinelaw2_WireTells.T15 : Bool × List (List Nat × List Nat) := (true, [([], []), ([], []), ([], []), ([1, 2], [1, 2]), ([3], [3]), ([4], [4]), ([0, 5], [0, 5]), ([], []), ([], []), ([], []), ([8, 9], [8, 9]), ([10], [10]), ([11], [11]), ([7, 12, 6], [7, 12]), ([6, 13], [6, 13])])
def tontinelaw2_WireTells.B15 : List Nat := [0, 0, 0, 6, 14, 30, 63, 0, 0, 0, 768, 1792, 3840, 8191, 16383]
theorem tontinelaw2_WireTells.tab15 : rtab .any (opsOf Tryd.f3 15) = tontinelaw2_WireTells.T15 := by kernel_rfl
theorem tontinelaw2_WireTells.bits15 : waitsOk tontinelaw2_WireTells.T15.2 tontinelaw2_WireTells.B15 = true := by kernel_rfl
def tontinelaw2_WireTells.T19 : Bool × List (List Nat × List Nat) := (true, [([], []), ([0], [0]), ([1, 1], [1]), ([], []), ([3], [3]), ([4], [4]), ([5], [5]), ([2, 6], [2, 6]), ([7, 2], [7]), ([8], [8]), ([9, 8, 8], [8, 9]), ([8], [8]), ([11, 8], [8, 11]), ([12, 8], [8, 12]), ([13, 8], [8, 13]), ([14, 8], [8, 14]), ([10, 15, 8], [8, 10, 15]), ([8, 16], [8, 16])])
def tontinelaw2_WireTells.B19 : List Nat := [0, 1, 3, 0, 8, 24, 56, 127, 255, 511, 1023, 511, 2559, 6655, 14847, 31231, 65535, 131071]
theorem tontinelaw2_WireTells.tab19 : rtab .any (opsOf Tryd.f3 19) = tontinelaw2_WireTells.T19 := by kernel_rfl
theorem tontinelaw2_WireTells.bits19 : waitsOk tontinelaw2_WireTells.T19.2 tontinelaw2_WireTells.B19 = true := by kernel_rfl
set_option maxHeartbeats 8000000 in
set_option maxRecDepth 100000 in
theorem tontinelaw2_WireTells.calls (k : Nat) (a0 : Int) (a1 : Int) (a2 : ByteArray) (A3 : Option Addr) (c3 : Nat) (l3 : List (S38)) (r : Bool) (hrt : r = true) (w : World) (hld : w.cell? ⟨0, 0, none⟩ = some (.iface 108 (.agg #[.pointer (some ⟨1, 43, none⟩)]))) (hr3 : Kd.C k38 w A3 l3.length l3) (hc3 : l3.length ≤ c3) (h : tontinelaw2_WireTells.f k a0 a1 a2 l3 = some r) :
    Calls Tryd.prog 3 #[.int .i64 a0, .int .u64 a1, .string a2, .slice A3 l3.length c3] w fun e w' => e = .returned (.bool r) ∧ Below w.heap.size w w' := by
 have hu36 := Tryd.underlying36
 have HR3 := Goto.m0 hr3
 have HC3 := Goto.m0 hc3
 clear hr3 hc3
 have HB := Goto.m0 (Below.refl w.heap.size w)
 have HRT := Goto.m0 hrt
 clear hrt
 have HLD := Goto.m0 hld
 clear hld
 have H : ((tontinelaw2_known.f k).bind fun t187 => (if t187 = true then (if (a2.size : Int) > 500 then (tontinelaw2_WireTells.j0 k a0 a1 a2 l3 true) else (tontinelaw2_WireTells.j0 k a0 a1 a2 l3 (decide ((l3.length : Int) > 30)))) else (some false))) = some r := h
 clear h
 replace H := Option.bind_eq_some_iff.mp H
 obtain ⟨t187, A50, H⟩ := H
 have A5 := Goto.m0 A50
 clear A50
 by_cases c6 : t187 = true
 ·
  subst c6
  rw [if_pos rfl] at H
  have HC7 := Goto.m0 H
  clear H
  go_enter Tryd.func3, Tryd.ntmps3
  go_upto_region 3 with (first | ((with_reducible refine gate_callee (f := 5) rfl ?_); refine goesL_ (some 13) rfl rfl Tryd.func5 (by kernel_rfl) rfl #[] rfl (by (try simp only [List.map_toArray, List.map_cons, List.map_nil]); first | done | rfl | (simp only [List.length_drop, List.length_take]; rfl)) ?_; (with_reducible refine (tontinelaw2_known.calls k  true (by first | rfl | assumption | (simp only [Bool.not_eq_true, Bool.not_eq_false] at *; assumption)) _ A5.out).mono ?_); rintro e w8 ⟨rfl, hb⟩; refine ⟨_, rfl, ?_⟩; replace HB := Goto.hs HB hb; (try clear hb); (try clear hb2); (try clear hk); (try clear hi)))
  (try simp only [Act.put, List.setIfInBounds_toArray, List.set_cons_zero, List.set_cons_succ])
  go_cut [16, 17, 18, 22] (fun v16 v17 v18 v22 wc => ∃ (kq : Nat) (x22_6 : Bool), v22 = .bool x22_6 ∧ Aside0 (tontinelaw2_WireTells.j0 kq a0 a1 a2 l3 x22_6 = some r) ∧ Aside0 (kq ≤ k) ∧ Aside0 (Below w.heap.size w wc))
  case first =>
   have H := HC7.out; clear HC7
   by_cases c9 : (a2.size : Int) > 500
   ·
    rw [if_pos c9] at H
    have c9b0 : decide (500 < (a2.size : Int)) = true := decide_eq_true c9
    have c9b1 : decide (500 < a2.size) = true := decide_eq_true (by omega)
    clear c9
    (first | rw [c9b0] | (simp only [i64_w, i32_w]; rw [c9b0]) | skip)
    have H' := Goto.m0 H
    clear H
    go_wp2
    go_meet
    case rel => exact ⟨_, (true), (by first | rfl | (simp; done) | (simp [*]; done)), H', ⟨by first | omega | exact Nat.le_refl _⟩, ⟨Goto.hx HB⟩⟩
   ·
    rw [if_neg c9] at H
    have c9b0 : decide (500 < (a2.size : Int)) = false := decide_eq_false c9
    have c9b1 : decide (500 < a2.size) = false := decide_eq_false (by omega)
    clear c9
    (first | rw [c9b0] | (simp only [i64_w, i32_w]; rw [c9b0]) | skip)
    have H' := Goto.m0 H
    clear H
    go_wp2
    go_meet
    case rel => exact ⟨_, (decide ((l3.length : Int) > 30)), (by first | rfl | (simp; done) | (simp [*]; done)), H', ⟨by first | omega | exact Nat.le_refl _⟩, ⟨Goto.hx HB⟩⟩
  case rest =>
   clear HC7; try clear p2; try clear c3; try clear c5; try clear c6; try clear c9; try clear c9b0; try clear c9b1
   obtain ⟨kq, x22_6, rfl, HA, HJ6, HB⟩ := hcut
   cases kq with
   | zero => exact absurd HA.out (by simp [tontinelaw2_WireTells.j0])
   | succ kj6 =>
    have H := HA.out; clear HA
    simp only [tontinelaw2_WireTells.j0] at H
    by_cases c10 : x22_6 = true
    ·
     subst c10
     rw [if_pos rfl] at H
     obtain rfl := Option.some.inj H
     go_wp2
     go_ret
     exact ⟨Goto.er, by repeat (first | (with_reducible first | exact HB.out | apply below_alloc | apply pw_below_drewN | apply below_drew1) | exact HB.out)⟩
    ·
     replace c10 := Bool.eq_false_iff.mpr c10
     subst c10
     rw [if_neg (show ¬ (false = true) by decide)] at H
     replace H := Option.bind_eq_some_iff.mp H
     obtain ⟨t189, A110, H⟩ := H
     have A11 := Goto.m0 A110
     clear A110
     replace H := Option.bind_eq_some_iff.mp H
     obtain ⟨t192, A120, H⟩ := H
     have A12 := Goto.m0 A120
     clear A120
     replace H := Option.bind_eq_some_iff.mp H
     obtain ⟨t195, A130, H⟩ := H
     have A13 := Goto.m0 A130
     clear A130
     replace H := Option.bind_eq_some_iff.mp H
     obtain ⟨⟨t198, t199⟩, A140, H⟩ := H
     replace H : ((tontineref1_Num.f kj6 a0).bind fun t200 => ((tontineref1_Bits.f kj6 a1).bind fun t201 => (if t200.size + t201.size ≤ 9223372036854775807 then (if t198.toList = (t200 ++ t201).toList then ((wire_Of.f a2).bind fun bt203 => (tontinelaw2_WireTells.l0 kj6 l3 0 bt203.1 bt203.2 a2 0)) else (some false)) else (none)))) = some r := H
     have A14 := Goto.m0 A140
     clear A140
     replace H := Option.bind_eq_some_iff.mp H
     obtain ⟨t200, A150, H⟩ := H
     have A15 := Goto.m0 A150
     clear A150
     replace H := Option.bind_eq_some_iff.mp H
     obtain ⟨t201, A160, H⟩ := H
     have A16 := Goto.m0 A160
     clear A160
     by_cases c17 : t200.size + t201.size ≤ 9223372036854775807
     ·
      rw [if_pos c17] at H
      have c17b0 := eq_true c17
      have c17b1 : decide (t200.size + t201.size ≤ 9223372036854775807) = true := decide_eq_true c17
      try have c17b2 : (9223372036854775807 < t200.size + t201.size) = False := eq_false (Nat.not_lt.2 c17)
      by_cases c18 : t198.toList = (t200 ++ t201).toList
      ·
       rw [if_pos c18] at H
       have c18b0 : (t198.toList == (t200 ++ t201).toList) = true := beq_iff_eq.mpr c18
       have c18b1 : (t198.toList != (t200 ++ t201).toList) = false := bne_eq_false_iff_eq.mpr c18
       clear c18
       replace H := Option.bind_eq_some_iff.mp H
       obtain ⟨⟨t203, t204⟩, A190, H⟩ := H
       replace H : (tontinelaw2_WireTells.l0 kj6 l3 0 t203 t204 a2 0) = some r := H
       have A19 := Goto.m0 A190
       clear A190
       have H' := Goto.m0 H
       clear H
       go_wp2_with (first | ((with_reducible refine gate_callee (f := 6) rfl ?_); refine goesL_ (some 23) rfl rfl Tryd.func6 (by kernel_rfl) rfl #[] rfl (by (try simp only [List.map_toArray, List.map_cons, List.map_nil]); first | done | rfl | (simp only [List.length_drop, List.length_take]; rfl)) ?_; (with_reducible refine (wire_New.calls  t189 _ A11.out).mono ?_); rintro e w20 ⟨v190, gb188, rfl, ho0, hi, hge, hb⟩; refine ⟨_, rfl, ?_⟩; have HO191 := Goto.m0 (Kd.R_lower ho0 (below_size (Goto.hx HB))); have BK188 := Goto.m0 (hi); have GW188 := Goto.m0 ((Nat.le_trans (below_size (Goto.hx HB)) hge : w.heap.size ≤ gb188)); have GE188 := Goto.m0 ((Nat.le_trans (below_size (Goto.hx HB)) hge : w.heap.size ≤ gb188)); replace HB := Goto.hs HB hb; (try clear hb); (try clear hi); (try clear hge); (try clear ho0)) | ((with_reducible refine gate_callee (f := 7) rfl ?_); refine goesL_ (some 26) rfl rfl Tryd.func7 (by kernel_rfl) rfl #[.pointer (some ⟨gb188, 0, none⟩), .int .i64 a0] rfl (by (try simp only [List.map_toArray, List.map_cons, List.map_nil]); first | done | rfl | (simp only [List.length_drop, List.length_take]; rfl)) ?_; (with_reducible refine (wire_Writer_Num.calls kj6 gb188 (fun k_ => some k_ = (v190 : Value).ownBlock) v190 t189 a0 t192 w _ ?side1 ?side2 ?side3 ?side4 A12.out).mono ?_); (case side1 => exact by (with_reducible repeat first | refine blk_drewN ?_ _ | refine blk_drew ?_ | refine blk_alloc ?_ _); exact BK188.out); (case side2 => exact GE188.out); (case side3 => repeat (first | (with_reducible first | exact HB.out | apply below_alloc | apply pw_below_drewN | apply below_drew1 | refine below_set ?_ GE188.out) | exact HB.out)); (case side4 => exact Kd.R_tight rfl HO191.out); rintro e w21 ⟨v193, rfl, ho0, hi, hb, hkp⟩; refine ⟨_, rfl, ?_⟩; have n0_ := Goto.m0 (hi); have n1_ := Goto.m0 (Kd.R_mono (ok' := fun k_ => True) ho0 (fun k_ hk_ => trivial)); have n2_ := Goto.m0 (hb); clear BK188; clear HB; clear HO191; have BK188 := n0_; have HO194 := n1_; have HB := n2_; clear n0_ n1_ n2_; (try clear hb); (try clear hkp); (try clear ho0)) | ((with_reducible refine gate_callee (f := 8) rfl ?_); refine goesL_ (some 29) rfl rfl Tryd.func8 (by kernel_rfl) rfl #[.pointer (some ⟨gb188, 0, none⟩), .int .u64 a1] rfl (by (try simp only [List.map_toArray, List.map_cons, List.map_nil]); first | done | rfl | (simp only [List.length_drop, List.length_take]; rfl)) ?_; (with_reducible refine (wire_Writer_Bits.calls kj6 gb188 (fun k_ => some k_ = (v193 : Value).ownBlock) v193 t192 a1 t195 w _ ?side1 ?side2 ?side3 ?side4 A13.out).mono ?_); (case side1 => exact by (with_reducible repeat first | refine blk_drewN ?_ _ | refine blk_drew ?_ | refine blk_alloc ?_ _); exact BK188.out); (case side2 => exact GE188.out); (case side3 => repeat (first | (with_reducible first | exact HB.out | apply below_alloc | apply pw_below_drewN | apply below_drew1 | refine below_set ?_ GE188.out) | exact HB.out)); (case side4 => exact Kd.R_tight rfl HO194.out); rintro e w22 ⟨v196, rfl, ho0, hi, hb, hkp⟩; refine ⟨_, rfl, ?_⟩; have n0_ := Goto.m0 (hi); have n1_ := Goto.m0 (Kd.R_mono (ok' := fun k_ => True) ho0 (fun k_ hk_ => trivial)); have n2_ := Goto.m0 (hb); clear BK188; clear HB; clear HO194; have BK188 := n0_; have HO197 := n1_; have HB := n2_; clear n0_ n1_ n2_; (try clear hb); (try clear hkp); (try clear ho0)) | ((with_reducible refine gate_callee (f := 9) rfl ?_); refine goesL_ (some 31) rfl rfl Tryd.func9 (by kernel_rfl) rfl #[.pointer (some ⟨gb188, 0, none⟩)] rfl (by (try simp only [List.map_toArray, List.map_cons, List.map_nil]); first | done | rfl | (simp only [List.length_drop, List.length_take]; rfl)) ?_; (with_reducible refine (wire_Writer_String.calls gb188 (fun k_ => some k_ = (v196 : Value).ownBlock) v196 t195 t198 t199 w _ ?side1 ?side2 ?side3 ?side4 A14.out).mono ?_); (case side1 => exact by (with_reducible repeat first | refine blk_drewN ?_ _ | refine blk_drew ?_ | refine blk_alloc ?_ _); exact BK188.out); (case side2 => exact GE188.out); (case side3 => repeat (first | (with_reducible first | exact HB.out | apply below_alloc | apply pw_below_drewN | apply below_drew1 | refine below_set ?_ GE188.out) | exact HB.out)); (case side4 => exact Kd.R_tight rfl HO197.out); rintro e w23 ⟨rfl, hi, hy0, hb, hkp⟩; refine ⟨_, rfl, ?_⟩; replace BK188 := Goto.m0 (hi); replace HO197 := Goto.m0 (Kd.R_reok rfl hy0 (fun k_ e_ => HO197.out.1 k_ e_)); replace HB := Goto.m0 (hb); (try clear hb); (try clear hkp); (try clear hy0)) | ((with_reducible refine gate_callee (f := 10) rfl ?_); refine goesL_ (some 33) rfl rfl Tryd.func10 (by kernel_rfl) rfl #[.int .i64 a0] rfl (by (try simp only [List.map_toArray, List.map_cons, List.map_nil]); first | done | rfl | (simp only [List.length_drop, List.length_take]; rfl)) ?_; (with_reducible refine (tontineref1_Num.calls kj6 a0 t200 _ A15.out).mono ?_); rintro e w24 ⟨rfl, hb⟩; refine ⟨_, rfl, ?_⟩; replace HO197 := Goto.m0 (Kd.R_below (Goto.rk HO197) hb); replace BK188 := Goto.bb BK188 hb; replace HB := Goto.hs HB hb; (try clear hb); (try clear hb2); (try clear hk); (try clear hi)) | ((with_reducible refine gate_callee (f := 11) rfl ?_); refine goesL_ (some 35) rfl rfl Tryd.func11 (by kernel_rfl) rfl #[.int .u64 a1] rfl (by (try simp only [List.map_toArray, List.map_cons, List.map_nil]); first | done | rfl | (simp only [List.length_drop, List.length_take]; rfl)) ?_; (with_reducible refine (tontineref1_Bits.calls kj6 a1 t201 _ A16.out).mono ?_); rintro e w25 ⟨rfl, hb⟩; refine ⟨_, rfl, ?_⟩; replace HO197 := Goto.m0 (Kd.R_below (Goto.rk HO197) hb); replace BK188 := Goto.bb BK188 hb; replace HB := Goto.hs HB hb; (try clear hb); (try clear hb2); (try clear hk); (try clear hi)) | ((with_reducible refine gate_callee (f := 12) rfl ?_); refine goesL_ (some 39) rfl rfl Tryd.func12 (by kernel_rfl) rfl #[.string a2] rfl (by (try simp only [List.map_toArray, List.map_cons, List.map_nil]); first | done | rfl | (simp only [List.length_drop, List.length_take]; rfl)) ?_; (with_reducible refine (wire_Of.calls a2 t203 t204 _ A19.out).mono ?_); rintro e w26 ⟨gb202, rfl, hi, hge, hb⟩; refine ⟨_, rfl, ?_⟩; have BK202 := Goto.m0 (hi); have GW202 := Goto.m0 ((Nat.le_trans (below_size (Goto.hx HB)) hge : w.heap.size ≤ gb202)); have GE202 := Goto.m0 ((Nat.le_trans (below_size (Goto.hx HB)) hge : w.heap.size ≤ gb202)); have NB188_202 := Goto.m0 ((Nat.ne_of_lt (Nat.lt_of_lt_of_le (blk_lt (g := gb188) (o := .cells #[v196] 74 (0, 0)) (Goto.bx BK188)) hge) : gb188 ≠ gb202)); have NB202_188 := Goto.m0 ((Nat.ne_of_gt (Nat.lt_of_lt_of_le (blk_lt (g := gb188) (o := .cells #[v196] 74 (0, 0)) (Goto.bx BK188)) hge) : gb202 ≠ gb188)); replace HO197 := Goto.m0 (Kd.R_below (Goto.rk HO197) hb); replace BK188 := Goto.bb BK188 hb; replace HB := Goto.hs HB hb; (try clear hb); (try clear hi); (try clear hge); (try simp only [errW_none, errW_some])) | ((with_reducible refine gate_dst (N := 42) rfl ?_); (try (refine gate_guard (by rfl) ?_; dsimp only)); refine box_event ?hg (N := 42) ?hd (cs := #[.string a2, .int .i64 0]) (t := 36) ?hr ?_; (case hd => rfl); (case hg => rfl); (case hr => first | (go_simp; done) | (go_simp; rfl)); intro gb205 hg w27 hbox hb; have BK205 := Goto.m0 (hbox); have GW205 := Goto.gs HB hg; have GE205 := Goto.gs HB hg; have NB188_205 := Goto.nl BK188 hg; have NB205_188 := Goto.nr BK188 hg; have NB202_205 := Goto.nl BK202 hg; have NB205_202 := Goto.nr BK202 hg; replace HO197 := Goto.m0 (Kd.R_below (Goto.rk HO197) hb); replace BK188 := Goto.bb BK188 hb; replace BK202 := Goto.bb BK202 hb; replace HB := Goto.hs HB hb; clear hb hbox hg))
       go_loopg [12] kj6 (fun kq v12 w' => ∃ (x12_2 : Int) (x203000_2 : ByteArray) (x203001_2 : Option Int) (x206000_2 : ByteArray) (x206001_2 : Int), v12 = .int .i64 x12_2 ∧ Aside0 (tontinelaw2_WireTells.l0 kq l3 x12_2 x203000_2 x203001_2 x206000_2 x206001_2 = some r) ∧ Aside0 (kq ≤ kj6) ∧ Aside0 (Kd.R (Kd.int .u8) 5 w' w.heap.size (fun _ => True) v196 t199) ∧ Aside0 (w'.heap[gb188]? = some (.cells #[v196] 74 (0, 0))) ∧ Aside0 (w'.heap[gb202]? = some (.cells #[.string x203000_2, errW x203001_2] 77 (0, 0))) ∧ Aside0 (w'.heap[gb205]? = some (.cells #[.string x206000_2, .int .i64 x206001_2] 36 (0, 0))) ∧ Aside0 (Below w.heap.size w w'))
       case atStart => exact ⟨(0), (t203), (t204), (a2), (0), (by first | rfl | (simp; done) | (simp [*]; done)), H', ⟨Nat.le_refl _⟩, ⟨Goto.rk HO197⟩, ⟨Goto.bx BK188⟩, ⟨Goto.bx BK202⟩, ⟨Goto.bx BK205⟩, ⟨Goto.hx HB⟩⟩
       case round =>
        clear H'
        try clear c1; try clear p2; try clear c3; try clear c5; try clear c6; try clear c7; try clear c8; try clear c9; try clear c9b0; try clear c9b1; try clear c10; try clear c11; try clear c12; try clear c17; try clear c17b0; try clear c17b1; try clear c17b2; try clear c18; try clear c18b0; try clear c18b1; try clear p2
        obtain ⟨x12_2, x203000_2, x203001_2, x206000_2, x206001_2, rfl, HA, HK2, HO_189000, BK188, BK202, BK205, HB⟩ := hrel
        cases gk with
        | zero => exact absurd HA.out (by simp [tontinelaw2_WireTells.l0])
        | succ k2 =>
         have H := HA.out; clear HA
         simp only [tontinelaw2_WireTells.l0] at H
         by_cases c28 : x12_2 < (l3.length : Int)
         ·
          rw [if_pos c28] at H
          have c28b0 : decide (x12_2 < (l3.length : Int)) = true := decide_eq_true c28
          clear c28
          by_cases c29 : 0 ≤ x12_2
          ·
           rw [if_pos c29] at H
           have c29b0 : decide (0 ≤ x12_2) = true := decide_eq_true c29
           clear c29
           have HC30 := Goto.m0 H
           clear H
           have p206 : 0 ≤ (x12_2 : Int) := Goto.od
           have q206 : x12_2 < (l3.length : Int) := Goto.od
           obtain ⟨ad206, e206, hx206_0, hx206_1⟩ := at_T38 HR3.out x12_2 p206 q206
           cases e206
           replace hx206_0 := Goto.kc HB.out hx206_0
           replace hx206_1 := Goto.kc HB.out hx206_1
           replace p206 := eq_true p206; replace q206 := eq_true q206
           go_upto_if 54 with (fail)
           go_cut [45, 46, 53, 54] (fun v45 v46 v53 v54 wc => ∃ (kq : Nat) (x203000_29 : ByteArray) (x203001_29 : Option Int) (x206000_29 : ByteArray) (x206001_29 : Int), Aside0 (tontinelaw2_WireTells.j2 kq l3 x12_2 x203000_29 x203001_29 x206000_29 x206001_29 = some r) ∧ Aside0 (kq ≤ k2) ∧ Aside0 (Kd.R (Kd.int .u8) 5 wc w.heap.size (fun _ => True) v196 t199) ∧ Aside0 (wc.heap[gb188]? = some (.cells #[v196] 74 (0, 0))) ∧ Aside0 (wc.heap[gb202]? = some (.cells #[.string x203000_29, errW x203001_29] 77 (0, 0))) ∧ Aside0 (wc.heap[gb205]? = some (.cells #[.string x206000_29, .int .i64 x206001_29] 36 (0, 0))) ∧ Aside0 (Below w.heap.size w wc))
           case first =>
            have H := HC30.out; clear HC30
            by_cases c31 : ((rd_T38 l3 x12_2).f0) = 0
            ·
             rw [if_pos c31] at H
             have c31b0 : (((rd_T38 l3 x12_2).f0) == 0) = true := beq_iff_eq.mpr c31
             have c31b1 : (((rd_T38 l3 x12_2).f0) != 0) = false := bne_eq_false_iff_eq.mpr c31
             clear c31
             (first | rw [c31b0] | (simp only [i64_w, i32_w]; rw [c31b0]) | skip)
             replace H := Option.bind_eq_some_iff.mp H
             obtain ⟨⟨t208, t209, t210⟩, A320, H⟩ := H
             replace H : ((tontineref1_Reader_Num.f k2 x206000_2 x206001_2 ((rd_T38 l3 x12_2).f1)).bind fun bt212 => (if t208 = bt212.1 then (tontinelaw2_WireTells.j2 k2 l3 x12_2 t209 t210 bt212.2.1 bt212.2.2) else (some false))) = some r := H
             have A32 := Goto.m0 A320
             clear A320
             replace H := Option.bind_eq_some_iff.mp H
             obtain ⟨⟨t212, t213, t214⟩, A330, H⟩ := H
             replace H : (if t208 = t212 then (tontinelaw2_WireTells.j2 k2 l3 x12_2 t209 t210 t213 t214) else (some false)) = some r := H
             have A33 := Goto.m0 A330
             clear A330
             by_cases c34 : t208 = t212
             ·
              rw [if_pos c34] at H
              have c34b0 : (t208 == t212) = true := beq_iff_eq.mpr c34
              have c34b1 : (t208 != t212) = false := bne_eq_false_iff_eq.mpr c34
              clear c34
              have H' := Goto.m0 H
              clear H
              try go_wp2
              replace HO_189000 := Goto.m0 (Kd.R_drew HO_189000.out); replace BK188 := Goto.m0 (blk_drew BK188.out); replace BK202 := Goto.m0 (blk_drew BK202.out); replace BK205 := Goto.m0 (blk_drew BK205.out); replace HB := Goto.m0 (below_drew1 HB.out)
              have p207 : 0 ≤ (x12_2 : Int) := Goto.od
              have q207 : x12_2 < (l3.length : Int) := Goto.od
              obtain ⟨ad207, e207, hx207_0, hx207_1⟩ := at_T38 HR3.out x12_2 p207 q207
              have hw207_1 := hx207_1; have hw207_0 := hx207_0
              obtain rfl : ad206 = ad207 := (by injection e207)
              replace hx207_0 := Goto.kc HB.out hx207_0
              replace hx207_1 := Goto.kc HB.out hx207_1
              replace p207 := eq_true p207; replace q207 := eq_true q207
              have p211 : 0 ≤ (x12_2 : Int) := Goto.od
              have q211 : x12_2 < (l3.length : Int) := Goto.od
              obtain ⟨ad211, e211, hx211_0, hx211_1⟩ := at_T38 HR3.out x12_2 p211 q211
              have hw211_1 := hx211_1; have hw211_0 := hx211_0
              obtain rfl : ad206 = ad211 := (by injection e211)
              replace hx211_0 := Goto.kc HB.out hx211_0
              replace hx211_1 := Goto.kc HB.out hx211_1
              replace p211 := eq_true p211; replace q211 := eq_true q211
              refine start_ (n := 15) (S := fun w' => w'.cell? (ad206.add ((x12_2).toNat * 2)) = some (.int .i64 ((rd_T38 l3 x12_2).f0)) ∧ w'.cell? ⟨(ad206.add ((x12_2).toNat * 2)).block, (ad206.add ((x12_2).toNat * 2)).off + 1, none⟩ = some (.int .i64 ((rd_T38 l3 x12_2).f1)) ∧ w'.cell? (ad206.add ((x12_2).toNat * 2)) = some (.int .i64 ((rd_T38 l3 x12_2).f0)) ∧ w'.cell? ⟨(ad206.add ((x12_2).toNat * 2)).block, (ad206.add ((x12_2).toNat * 2)).off + 1, none⟩ = some (.int .i64 ((rd_T38 l3 x12_2).f1))) (ds := []) (.replicate 15 false) (by kernel_rfl) rfl rfl ⟨(Goto.kc HB.out hw207_0), (Goto.kc HB.out hw207_1), (Goto.kc HB.out hw211_0), (Goto.kc HB.out hw211_1)⟩ (fun hHeld => ?_); refine with_tabW tontinelaw2_WireTells.tab15 tontinelaw2_WireTells.bits15 (fun HT_ HW_ => ?_)
              generalize wr.drew = w35 at HO_189000 BK188 BK202 BK205 HB hx207_0 hx207_1 hx211_0 hx211_1 hHeld ⊢
              refine Goto.pu 0 55 15 1 ?_
              refine Goto.pu 1 56 15 3 ?_
              refine Goto.pu 2 57 15 7 ?_
              refine Goto.pu 3 58 15 15 ?_
              refine Goto.pu 4 59 15 31 ?_
              refine Goto.pu 7 62 15 159 ?_
              refine Goto.pu 8 63 15 415 ?_
              refine Goto.pu 9 64 15 927 ?_
              refine Goto.pu 10 65 15 1951 ?_
              refine Goto.pu 11 66 15 3999 ?_
              refine take_ (i := 5) (N := some 60) (v := ?_) (a' := ?_) (Goto.bs 15 4031) rfl rfl (take_ofW HT_.out HW_.out (by kernel_rfl)) (fun _ _ _ h => h) (Or.inl ⟨by rfl, ?_⟩) hHeld ?_ ?_
              rotate_left
              ·
               rintro w' ⟨s0, s1, s2, s3⟩
               go_simp
               with_reducible rfl
              rotate_left
              ·
               exact Goto.ap
              refine take_ (i := 12) (N := some 67) (v := ?_) (a' := ?_) (Goto.bs 15 8127) rfl rfl (take_ofW HT_.out HW_.out (by kernel_rfl)) (fun _ _ _ h => h) (Or.inl ⟨by rfl, ?_⟩) hHeld ?_ ?_
              rotate_left
              ·
               rintro w' ⟨s0, s1, s2, s3⟩
               go_simp
               with_reducible rfl
              rotate_left
              ·
               exact Goto.ap
              refine one_ (i := 6) (N := some 61) (Goto.bs 15 8191) rfl rfl (one_of HT_.out (by kernel_rfl)) (by decide) (fun K hK => ?_)
              refine goes_ Tryd.func13 (by kernel_rfl) rfl #[.pointer (some ⟨gb202, 0, none⟩), .int .i64 ((rd_T38 l3 x12_2).f1)] (by rfl) rfl rfl (by (try simp only [List.map_toArray, List.map_cons, List.map_nil]); first | done | rfl | (simp only [List.length_drop, List.length_take]; rfl)) ?_
              with_reducible refine (wire_Reader_Num.calls k2 gb202 x203000_2 x203001_2 ((rd_T38 l3 x12_2).f1) t208 t209 t210 w _ ?side1 ?side2 ?side3 A32.out).mono ?_
              (case side1 => exact by (with_reducible repeat first | refine blk_drewN ?_ _ | refine blk_drew ?_ | refine blk_alloc ?_ _); exact BK202.out)
              (case side2 => exact GE202.out)
              (case side3 => repeat (first | (with_reducible first | exact HB.out | apply below_alloc | apply pw_below_drewN | apply below_drew1 | refine below_set ?_ GE188.out | refine below_set ?_ GE202.out | refine below_set ?_ GE205.out) | exact HB.out))
              rintro e w36 ⟨rfl, hi, hb, hkp⟩
              refine ⟨_, rfl, ?_⟩
              replace HO_189000 := Goto.m0 (Kd.R_mono (ok' := fun k_ => True) (Kd.R_keptB ((Kd.R_types HO_189000.out BK202.out (by decide))) hkp (fun k_ hk_ hs_ => Or.elim hs_ (fun hs_ => False.elim (show False from hs_)) (fun e_ => (hk_.2) e_))) (fun k_ hk_ => trivial)); replace BK188 := Goto.m0 (blk_kept (Goto.bx BK188) hkp (fun hs_ => Or.elim hs_ (fun hs_ => False.elim (show False from hs_)) (fun e_ => NB188_202.out e_))); replace BK202 := Goto.m0 (hi); replace BK205 := Goto.m0 (blk_kept (Goto.bx BK205) hkp (fun hs_ => Or.elim hs_ (fun hs_ => False.elim (show False from hs_)) (fun e_ => NB205_202.out e_))); replace HB := Goto.m0 (hb)
              (try clear hb)
              (try clear hkp)
              (try simp only [errW_none, errW_some])
              refine hK.out _ _ ⟨(Goto.kc HB.out hw207_0), (Goto.kc HB.out hw207_1), (Goto.kc HB.out hw211_0), (Goto.kc HB.out hw211_1)⟩ (fun hHeld => ?_)
              clear hK K
              refine norm_ (a' := ?_) ?_ ?_
              rotate_left
              ·
               show Act.put _ (some 61) _ = _
               exact Goto.ap
              refine one_ (i := 13) (N := some 68) (Goto.bs 15 16383) rfl rfl (one_of HT_.out (by kernel_rfl)) (by decide) (fun K hK => ?_)
              refine goes_ Tryd.func14 (by kernel_rfl) rfl #[.pointer (some ⟨gb205, 0, none⟩), .int .i64 ((rd_T38 l3 x12_2).f1)] (by rfl) rfl rfl (by (try simp only [List.map_toArray, List.map_cons, List.map_nil]); first | done | rfl | (simp only [List.length_drop, List.length_take]; rfl)) ?_
              with_reducible refine (tontineref1_Reader_Num.calls k2 gb205 x206000_2 x206001_2 ((rd_T38 l3 x12_2).f1) t212 t213 t214 w _ ?side1 ?side2 ?side3 A33.out).mono ?_
              (case side1 => exact by (with_reducible repeat first | refine blk_drewN ?_ _ | refine blk_drew ?_ | refine blk_alloc ?_ _); exact BK205.out)
              (case side2 => exact GE205.out)
              (case side3 => repeat (first | (with_reducible first | exact HB.out | apply below_alloc | apply pw_below_drewN | apply below_drew1 | refine below_set ?_ GE188.out | refine below_set ?_ GE202.out | refine below_set ?_ GE205.out) | exact HB.out))
              rintro e w37 ⟨rfl, hi, hb, hkp⟩
              refine ⟨_, rfl, ?_⟩
              replace HO_189000 := Goto.m0 (Kd.R_mono (ok' := fun k_ => True) (Kd.R_keptB ((Kd.R_types HO_189000.out BK205.out (by decide))) hkp (fun k_ hk_ hs_ => Or.elim hs_ (fun hs_ => False.elim (show False from hs_)) (fun e_ => (hk_.2) e_))) (fun k_ hk_ => trivial)); replace BK188 := Goto.m0 (blk_kept (Goto.bx BK188) hkp (fun hs_ => Or.elim hs_ (fun hs_ => False.elim (show False from hs_)) (fun e_ => NB188_205.out e_))); replace BK202 := Goto.m0 (blk_kept (Goto.bx BK202) hkp (fun hs_ => Or.elim hs_ (fun hs_ => False.elim (show False from hs_)) (fun e_ => NB202_205.out e_))); replace BK205 := Goto.m0 (hi); replace HB := Goto.m0 (hb)
              (try clear hb)
              (try clear hkp)
              refine hK.out _ _ ⟨(Goto.kc HB.out hw207_0), (Goto.kc HB.out hw207_1), (Goto.kc HB.out hw211_0), (Goto.kc HB.out hw211_1)⟩ (fun hHeld => ?_)
              clear hK K
              refine norm_ (a' := ?_) ?_ ?_
              rotate_left
              ·
               show Act.put _ (some 68) _ = _
               exact Goto.ap
              refine Goto.pu 14 69 15 32767 ?_
              refine done_ (done_of HT_.out (by kernel_rfl)) ?_
              try go_wp2
              go_meet
              case rel => exact ⟨_, (t209), (t210), (t213), (t214), H', ⟨by have := HJ6.out; have := HK2.out; first | omega | exact Nat.le_refl _⟩, ⟨Goto.rk HO_189000⟩, ⟨Goto.bx BK188⟩, ⟨Goto.bx BK202⟩, ⟨Goto.bx BK205⟩, ⟨Goto.hx HB⟩⟩
             ·
              rw [if_neg c34] at H
              have c34b0 : (t208 == t212) = false := beq_eq_false_iff_ne.mpr c34
              have c34b1 : (t208 != t212) = true := bne_iff_ne.mpr c34
              exact absurd ((Option.some.inj H).trans HRT.out) (by decide)
            ·
             rw [if_neg c31] at H
             have c31b0 : (((rd_T38 l3 x12_2).f0) == 0) = false := beq_eq_false_iff_ne.mpr c31
             have c31b1 : (((rd_T38 l3 x12_2).f0) != 0) = true := bne_iff_ne.mpr c31
             (first | rw [c31b0] | (simp only [i64_w, i32_w]; rw [c31b0]) | skip)
             replace H := Option.bind_eq_some_iff.mp H
             obtain ⟨⟨t215, t216, t217⟩, A380, H⟩ := H
             replace H : ((tontineref1_Reader_Bits.f k2 x206000_2 x206001_2).bind fun bt218 => (if t215 = bt218.1 then (tontinelaw2_WireTells.j2 k2 l3 x12_2 t216 t217 bt218.2.1 bt218.2.2) else (some false))) = some r := H
             have A38 := Goto.m0 A380
             clear A380
             replace H := Option.bind_eq_some_iff.mp H
             obtain ⟨⟨t218, t219, t220⟩, A390, H⟩ := H
             replace H : (if t215 = t218 then (tontinelaw2_WireTells.j2 k2 l3 x12_2 t216 t217 t219 t220) else (some false)) = some r := H
             have A39 := Goto.m0 A390
             clear A390
             by_cases c40 : t215 = t218
             ·
              rw [if_pos c40] at H
              have c40b0 : (t215 == t218) = true := beq_iff_eq.mpr c40
              have c40b1 : (t215 != t218) = false := bne_eq_false_iff_eq.mpr c40
              clear c40
              have H' := Goto.m0 H
              clear H
              go_wp2_with (first | ((with_reducible refine gate_callee (f := 15) rfl ?_); refine goesL_ (some 71) rfl rfl Tryd.func15 (by kernel_rfl) rfl #[.pointer (some ⟨gb202, 0, none⟩)] rfl (by (try simp only [List.map_toArray, List.map_cons, List.map_nil]); first | done | rfl | (simp only [List.length_drop, List.length_take]; rfl)) ?_; (with_reducible refine (wire_Reader_Bits.calls k2 gb202 x203000_2 x203001_2 t215 t216 t217 w _ ?side1 ?side2 ?side3 A38.out).mono ?_); (case side1 => exact by (with_reducible repeat first | refine blk_drewN ?_ _ | refine blk_drew ?_ | refine blk_alloc ?_ _); exact BK202.out); (case side2 => exact GE202.out); (case side3 => repeat (first | (with_reducible first | exact HB.out | apply below_alloc | apply pw_below_drewN | apply below_drew1 | refine below_set ?_ GE188.out | refine below_set ?_ GE202.out | refine below_set ?_ GE205.out) | exact HB.out)); rintro e w41 ⟨rfl, hi, hb, hkp⟩; refine ⟨_, rfl, ?_⟩; replace HO_189000 := Goto.m0 (Kd.R_mono (ok' := fun k_ => True) (Kd.R_keptB ((Kd.R_types HO_189000.out BK202.out (by decide))) hkp (fun k_ hk_ hs_ => Or.elim hs_ (fun hs_ => False.elim (show False from hs_)) (fun e_ => (hk_.2) e_))) (fun k_ hk_ => trivial)); replace BK188 := Goto.m0 (blk_kept (Goto.bx BK188) hkp (fun hs_ => Or.elim hs_ (fun hs_ => False.elim (show False from hs_)) (fun e_ => NB188_202.out e_))); replace BK202 := Goto.m0 (hi); replace BK205 := Goto.m0 (blk_kept (Goto.bx BK205) hkp (fun hs_ => Or.elim hs_ (fun hs_ => False.elim (show False from hs_)) (fun e_ => NB205_202.out e_))); replace HB := Goto.m0 (hb); (try clear hb); (try clear hkp); (try simp only [errW_none, errW_some])) | ((with_reducible refine gate_callee (f := 16) rfl ?_); refine goesL_ (some 73) rfl rfl Tryd.func16 (by kernel_rfl) rfl #[.pointer (some ⟨gb205, 0, none⟩)] rfl (by (try simp only [List.map_toArray, List.map_cons, List.map_nil]); first | done | rfl | (simp only [List.length_drop, List.length_take]; rfl)) ?_; (with_reducible refine (tontineref1_Reader_Bits.calls k2 gb205 x206000_2 x206001_2 t218 t219 t220 w _ ?side1 ?side2 ?side3 A39.out).mono ?_); (case side1 => exact by (with_reducible repeat first | refine blk_drewN ?_ _ | refine blk_drew ?_ | refine blk_alloc ?_ _); exact BK205.out); (case side2 => exact GE205.out); (case side3 => repeat (first | (with_reducible first | exact HB.out | apply below_alloc | apply pw_below_drewN | apply below_drew1 | refine below_set ?_ GE188.out | refine below_set ?_ GE202.out | refine below_set ?_ GE205.out) | exact HB.out)); rintro e w42 ⟨rfl, hi, hb, hkp⟩; refine ⟨_, rfl, ?_⟩; replace HO_189000 := Goto.m0 (Kd.R_mono (ok' := fun k_ => True) (Kd.R_keptB ((Kd.R_types HO_189000.out BK205.out (by decide))) hkp (fun k_ hk_ hs_ => Or.elim hs_ (fun hs_ => False.elim (show False from hs_)) (fun e_ => (hk_.2) e_))) (fun k_ hk_ => trivial)); replace BK188 := Goto.m0 (blk_kept (Goto.bx BK188) hkp (fun hs_ => Or.elim hs_ (fun hs_ => False.elim (show False from hs_)) (fun e_ => NB188_205.out e_))); replace BK202 := Goto.m0 (blk_kept (Goto.bx BK202) hkp (fun hs_ => Or.elim hs_ (fun hs_ => False.elim (show False from hs_)) (fun e_ => NB202_205.out e_))); replace BK205 := Goto.m0 (hi); replace HB := Goto.m0 (hb); (try clear hb); (try clear hkp)))
              go_meet
              case rel => exact ⟨_, (t216), (t217), (t219), (t220), H', ⟨by have := HJ6.out; have := HK2.out; first | omega | exact Nat.le_refl _⟩, ⟨Goto.rk HO_189000⟩, ⟨Goto.bx BK188⟩, ⟨Goto.bx BK202⟩, ⟨Goto.bx BK205⟩, ⟨Goto.hx HB⟩⟩
             ·
              rw [if_neg c40] at H
              have c40b0 : (t215 == t218) = false := beq_eq_false_iff_ne.mpr c40
              have c40b1 : (t215 != t218) = true := bne_iff_ne.mpr c40
              exact absurd ((Option.some.inj H).trans HRT.out) (by decide)
           case rest =>
            clear HC30; try clear c1; try clear c2; try clear p2; try clear q2; try clear hx2; try clear c3; try clear c4; try clear c5; try clear c6; try clear c7; try clear c8; try clear c9; try clear c9b0; try clear c9b1; try clear c10; try clear c11; try clear c12; try clear c13; try clear c14; try clear c15; try clear c16; try clear c17; try clear c17b0; try clear c17b1; try clear c17b2; try clear c18; try clear c18b0; try clear c18b1; try clear p20; try clear q20; try clear hx20; try clear p21; try clear q21; try clear hx21; try clear c28; try clear c28b0; try clear c29; try clear c29b0; try clear c31; try clear c31b0; try clear c31b1; try clear c34; try clear c34b0; try clear c34b1; try clear c40; try clear c40b0; try clear c40b1; try clear hx206_0; try clear hx206_1; try clear hx207_0; try clear hx207_1; try clear hx211_0; try clear hx211_1; try clear p2; try clear p206; try clear p207; try clear p211; try clear q206; try clear q207; try clear q211
            obtain ⟨kq, x203000_29, x203001_29, x206000_29, x206001_29, HA, HJ29, HO_189000, BK188, BK202, BK205, HB⟩ := hcut
            cases kq with
            | zero => exact absurd HA.out (by simp [tontinelaw2_WireTells.j2])
            | succ kj29 =>
             have H := HA.out; clear HA
             simp only [tontinelaw2_WireTells.j2] at H
             replace H := Option.bind_eq_some_iff.mp H
             obtain ⟨⟨t221, t222, t223⟩, A430, H⟩ := H
             replace H : ((ext_17.f t221).bind fun t224 => (if t224 = x206001_29 then ((wire_Reader_Left.f t222 t223).bind fun bt225 => (if bt225.1 = (x206000_29.size : Int) then (tontinelaw2_WireTells.l0 kj29 l3 (wrap64 (x12_2 + 1)) bt225.2.1 bt225.2.2 x206000_29 x206001_29) else (some false))) else (some false))) = some r := H
             have A43 := Goto.m0 A430
             clear A430
             replace H := Option.bind_eq_some_iff.mp H
             obtain ⟨t224, A440, H⟩ := H
             have A44 := Goto.m0 A440
             clear A440
             by_cases c45 : t224 = x206001_29
             ·
              rw [if_pos c45] at H
              have c45b0 : (t224 == x206001_29) = true := beq_iff_eq.mpr c45
              have c45b1 : (t224 != x206001_29) = false := bne_eq_false_iff_eq.mpr c45
              clear c45
              replace H := Option.bind_eq_some_iff.mp H
              obtain ⟨⟨t225, t226, t227⟩, A460, H⟩ := H
              replace H : (if t225 = (x206000_29.size : Int) then (tontinelaw2_WireTells.l0 kj29 l3 (wrap64 (x12_2 + 1)) t226 t227 x206000_29 x206001_29) else (some false)) = some r := H
              have A46 := Goto.m0 A460
              clear A460
              by_cases c47 : t225 = (x206000_29.size : Int)
              ·
               rw [if_pos c47] at H
               have c47b0 : (t225 == (x206000_29.size : Int)) = true := beq_iff_eq.mpr c47
               have c47b1 : (t225 != (x206000_29.size : Int)) = false := bne_eq_false_iff_eq.mpr c47
               clear c47
               have H' := Goto.m0 H
               clear H
               try go_wp2
               replace HO_189000 := Goto.m0 (Kd.R_drew HO_189000.out); replace BK188 := Goto.m0 (blk_drew BK188.out); replace BK202 := Goto.m0 (blk_drew BK202.out); replace BK205 := Goto.m0 (blk_drew BK205.out); replace HB := Goto.m0 (below_drew1 HB.out)
               refine start_ (n := 18) (S := fun w' => w'.cell? ⟨gb205, 0, none⟩ = some (.string x206000_29) ∧ w'.cell? ⟨gb205, 1, none⟩ = some (.int .i64 x206001_29)) (ds := []) (.replicate 18 false) (by kernel_rfl) rfl rfl ⟨(blk_cell BK205.out 0).trans rfl, (blk_cell BK205.out 1).trans rfl⟩ (fun hHeld => ?_); refine with_tabW tontinelaw2_WireTells.tab19 tontinelaw2_WireTells.bits19 (fun HT_ HW_ => ?_)
               generalize wc.drew = w48 at HO_189000 BK188 BK202 BK205 HB hHeld ⊢
               refine Goto.pu 0 75 18 1 ?_
               refine Goto.pu 3 78 18 9 ?_
               refine Goto.pu 4 79 18 25 ?_
               refine Goto.pu 5 80 18 57 ?_
               refine take_ (i := 6) (N := some 81) (v := ?_) (a' := ?_) (Goto.bs 18 121) rfl rfl (take_ofW HT_.out HW_.out (by kernel_rfl)) (fun _ _ _ h => h) (Or.inl ⟨by rfl, ?_⟩) hHeld ?_ ?_
               rotate_left
               ·
                rintro w' ⟨s0, s1⟩
                go_simp
                with_reducible rfl
               rotate_left
               ·
                exact Goto.ap
               refine one_ (i := 1) (N := some 76) (Goto.bs 18 123) rfl rfl (one_of HT_.out (by kernel_rfl)) (by decide) (fun K hK => ?_)
               refine goes_ Tryd.func18 (by kernel_rfl) rfl #[.pointer (some ⟨gb202, 0, none⟩)] (by rfl) rfl rfl (by (try simp only [List.map_toArray, List.map_cons, List.map_nil]); first | done | rfl | (simp only [List.length_drop, List.length_take]; rfl)) ?_
               with_reducible refine (wire_Reader_Err.calls gb202 x203000_29 x203001_29 t221 t222 t223 w _ ?side1 ?side2 ?side3 A43.out).mono ?_
               (case side1 => exact by (with_reducible repeat first | refine blk_drewN ?_ _ | refine blk_drew ?_ | refine blk_alloc ?_ _); exact BK202.out)
               (case side2 => exact GE202.out)
               (case side3 => repeat (first | (with_reducible first | exact HB.out | apply below_alloc | apply pw_below_drewN | apply below_drew1 | refine below_set ?_ GE188.out | refine below_set ?_ GE202.out | refine below_set ?_ GE205.out) | exact HB.out))
               rintro e w49 ⟨rfl, hi, hb, hkp⟩
               refine ⟨_, rfl, ?_⟩
               replace HO_189000 := Goto.m0 (Kd.R_mono (ok' := fun k_ => True) (Kd.R_keptB ((Kd.R_types HO_189000.out BK202.out (by decide))) hkp (fun k_ hk_ hs_ => Or.elim hs_ (fun hs_ => False.elim (show False from hs_)) (fun e_ => (hk_.2) e_))) (fun k_ hk_ => trivial)); replace BK188 := Goto.m0 (blk_kept (Goto.bx BK188) hkp (fun hs_ => Or.elim hs_ (fun hs_ => False.elim (show False from hs_)) (fun e_ => NB188_202.out e_))); replace BK202 := Goto.m0 (hi); replace BK205 := Goto.m0 (blk_kept (Goto.bx BK205) hkp (fun hs_ => Or.elim hs_ (fun hs_ => False.elim (show False from hs_)) (fun e_ => NB205_202.out e_))); replace HB := Goto.m0 (hb)
               (try clear hb)
               (try clear hkp)
               (try simp only [errW_none, errW_some])
               have CA44 := fun W hl_ => ext_17.calls t221 t224 W hl_ A44.out
               try simp only [errW_none, errW_some] at CA44
               refine hK.out _ _ ⟨(blk_cell BK205.out 0).trans rfl, (blk_cell BK205.out 1).trans rfl⟩ (fun hHeld => ?_)
               clear hK K
               refine norm_ (a' := ?_) ?_ ?_
               rotate_left
               ·
                show Act.put _ (some 76) _ = _
                exact Goto.ap
               refine one_ (i := 2) (N := some 77) (Goto.bs 18 127) rfl rfl (one_of HT_.out (by kernel_rfl)) (by decide) (fun K hK => ?_)
               refine goes_ Tryd.func17 (by kernel_rfl) rfl #[errW t221] (by rfl) rfl rfl (by (try simp only [List.map_toArray, List.map_cons, List.map_nil]); first | done | rfl | (simp only [List.length_drop, List.length_take]; rfl)) ?_
               with_reducible refine (CA44 _ (Goto.kc (Goto.hx HB) HLD.out)).mono ?_
               rintro e w50 ⟨rfl, hb⟩
               refine ⟨_, rfl, ?_⟩
               replace HO_189000 := Goto.m0 (Kd.R_below (Goto.rk HO_189000) hb); replace BK188 := Goto.bb BK188 hb; replace BK202 := Goto.bb BK202 hb; replace BK205 := Goto.bb BK205 hb; replace HB := Goto.hs HB hb
               (try clear hb)
               (try clear hb2)
               (try clear hk)
               (try clear hi)
               refine hK.out _ _ ⟨(blk_cell BK205.out 0).trans rfl, (blk_cell BK205.out 1).trans rfl⟩ (fun hHeld => ?_)
               clear hK K
               refine norm_ (a' := ?_) ?_ ?_
               rotate_left
               ·
                show Act.put _ (some 77) _ = _
                exact Goto.ap
               refine Goto.pu 7 82 18 255 ?_
               refine Goto.pu 8 83 18 511 ?_
               refine Goto.pu 9 84 18 1023 ?_
               refine Goto.pu 11 86 18 3071 ?_
               refine Goto.pu 12 87 18 7167 ?_
               refine Goto.pu 13 88 18 15359 ?_
               refine take_ (i := 14) (N := some 89) (v := ?_) (a' := ?_) (Goto.bs 18 31743) rfl rfl (take_ofW HT_.out HW_.out (by kernel_rfl)) (fun _ _ _ h => h) (Or.inl ⟨by rfl, ?_⟩) hHeld ?_ ?_
               rotate_left
               ·
                rintro w' ⟨s0, s1⟩
                go_simp
                with_reducible rfl
               rotate_left
               ·
                exact Goto.ap
               refine Goto.pu 15 90 18 64511 ?_
               refine one_ (i := 10) (N := some 85) (Goto.bs 18 65535) rfl rfl (one_of HT_.out (by kernel_rfl)) (by decide) (fun K hK => ?_)
               refine goes_ Tryd.func19 (by kernel_rfl) rfl #[.pointer (some ⟨gb202, 0, none⟩)] (by rfl) rfl rfl (by (try simp only [List.map_toArray, List.map_cons, List.map_nil]); first | done | rfl | (simp only [List.length_drop, List.length_take]; rfl)) ?_
               with_reducible refine (wire_Reader_Left.calls gb202 t222 t223 t225 t226 t227 w _ ?side1 ?side2 ?side3 A46.out).mono ?_
               (case side1 => exact by (with_reducible repeat first | refine blk_drewN ?_ _ | refine blk_drew ?_ | refine blk_alloc ?_ _); exact BK202.out)
               (case side2 => exact GE202.out)
               (case side3 => repeat (first | (with_reducible first | exact HB.out | apply below_alloc | apply pw_below_drewN | apply below_drew1 | refine below_set ?_ GE188.out | refine below_set ?_ GE202.out | refine below_set ?_ GE205.out) | exact HB.out))
               rintro e w51 ⟨rfl, hi, hb, hkp⟩
               refine ⟨_, rfl, ?_⟩
               replace HO_189000 := Goto.m0 (Kd.R_mono (ok' := fun k_ => True) (Kd.R_keptB ((Kd.R_types HO_189000.out BK202.out (by decide))) hkp (fun k_ hk_ hs_ => Or.elim hs_ (fun hs_ => False.elim (show False from hs_)) (fun e_ => (hk_.2) e_))) (fun k_ hk_ => trivial)); replace BK188 := Goto.m0 (blk_kept (Goto.bx BK188) hkp (fun hs_ => Or.elim hs_ (fun hs_ => False.elim (show False from hs_)) (fun e_ => NB188_202.out e_))); replace BK202 := Goto.m0 (hi); replace BK205 := Goto.m0 (blk_kept (Goto.bx BK205) hkp (fun hs_ => Or.elim hs_ (fun hs_ => False.elim (show False from hs_)) (fun e_ => NB205_202.out e_))); replace HB := Goto.m0 (hb)
               (try clear hb)
               (try clear hkp)
               (try simp only [errW_none, errW_some])
               refine hK.out _ _ ⟨(blk_cell BK205.out 0).trans rfl, (blk_cell BK205.out 1).trans rfl⟩ (fun hHeld => ?_)
               clear hK K
               refine norm_ (a' := ?_) ?_ ?_
               rotate_left
               ·
                show Act.put _ (some 85) _ = _
                exact Goto.ap
               refine Goto.pu 16 91 18 131071 ?_
               refine Goto.pu 17 92 18 262143 ?_
               refine done_ (done_of HT_.out (by kernel_rfl)) ?_
               try go_wp2
               go_roundg kj29
               case measure => have := HJ6.out; have := HK2.out; have := HJ29.out; omega
               case rel => exact ⟨(wrap64 (x12_2 + 1)), (t226), (t227), (x206000_29), (x206001_29), (by first | rfl | (simp; done) | (simp [*]; done)), H', ⟨by have := HJ6.out; have := HK2.out; have := HJ29.out; omega⟩, ⟨Goto.rk HO_189000⟩, ⟨Goto.bx BK188⟩, ⟨Goto.bx BK202⟩, ⟨Goto.bx BK205⟩, ⟨Goto.hx HB⟩⟩
              ·
               rw [if_neg c47] at H
               have c47b0 : (t225 == (x206000_29.size : Int)) = false := beq_eq_false_iff_ne.mpr c47
               have c47b1 : (t225 != (x206000_29.size : Int)) = true := bne_iff_ne.mpr c47
               exact absurd ((Option.some.inj H).trans HRT.out) (by decide)
             ·
              rw [if_neg c45] at H
              have c45b0 : (t224 == x206001_29) = false := beq_eq_false_iff_ne.mpr c45
              have c45b1 : (t224 != x206001_29) = true := bne_iff_ne.mpr c45
              exact absurd ((Option.some.inj H).trans HRT.out) (by decide)
          ·
           rw [if_neg c29] at H
           exact absurd H (by simp)
         ·
          rw [if_neg c28] at H
          have c28b0 : decide (x12_2 < (l3.length : Int)) = false := decide_eq_false c28
          clear c28
          obtain rfl := Option.some.inj H
          go_wp2
          go_ret
          exact ⟨Goto.er, by repeat (first | (with_reducible first | exact HB.out | apply below_alloc | apply pw_below_drewN | apply below_drew1 | refine below_set ?_ GE188.out | refine below_set ?_ GE202.out | refine below_set ?_ GE205.out) | exact HB.out)⟩
      ·
       rw [if_neg c18] at H
       have c18b0 : (t198.toList == (t200 ++ t201).toList) = false := beq_eq_false_iff_ne.mpr c18
       have c18b1 : (t198.toList != (t200 ++ t201).toList) = true := bne_iff_ne.mpr c18
       exact absurd ((Option.some.inj H).trans HRT.out) (by decide)
     ·
      rw [if_neg c17] at H
      exact absurd H (by simp)
 ·
  replace c6 := Bool.eq_false_iff.mpr c6
  subst c6
  rw [if_neg (show ¬ (false = true) by decide)] at H
  exact absurd ((Option.some.inj H).trans HRT.out) (by decide)

end Go.Proofs.YtiejhnijfgdapaaDoor.P
