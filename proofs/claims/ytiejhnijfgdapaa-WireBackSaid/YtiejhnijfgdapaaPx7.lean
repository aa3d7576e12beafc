/- Printed by a program of this workplace (a turned copy of the kit's optional print), out of the translation; not trusted: Lean checks it. -/
import Derived.Test.YtiejhnijfgdapaaPx0
import Derived.Test.YtiejhnijfgdapaaPx1
import Derived.Test.YtiejhnijfgdapaaPx3
import Derived.Test.YtiejhnijfgdapaaPx4
import Derived.Test.YtiejhnijfgdapaaPx5
namespace Go.Proofs.Ytiejhnijfgdapaa.P
open Go.RowKit Go.Proofs.YtiejhnijfgdapaaW.PrintWords Go.Proofs.YtiejhnijfgdapaaW.PrintLast Go.Proofs.YtiejhnijfgdapaaW.PrintMore
attribute [local go_sem] max2_int min2_int max_two min_two max_three min_three max_four min_four   -- for this text's walks alone
set_option linter.unusedVariables false
set_option linter.unusedSimpArgs false

/-! ### tontinelaw2_WireBack: function 3 -/
mutual
def tontinelaw2_WireBack.j0 : Nat → List Int → List Int → Bool → Option (Bool)
  | 0, _, _, _ => none
  | k + 1, x0, x1, x21 => if x21 = true then (some true) else ((wire_New.f).bind fun t228 => (tontinelaw2_WireBack.l0 k x0 x1 0 0 t228))
def tontinelaw2_WireBack.l0 : Nat → List Int → List Int → Int → Int → List Int → Option (Bool)
  | 0, _, _, _, _, _ => none
  | k + 1, x0, x1, x6, x7, x228000 => if x7 < (x0.length : Int) then (if 0 ≤ x7 then (if (rd x0 x7) < (-1) then (tontinelaw2_WireBack.j2 k x0 x1 x6 x7 true x228000) else (tontinelaw2_WireBack.j2 k x0 x1 x6 x7 (decide ((rd x0 x7) > 1048576)) x228000)) else (none)) else (tontinelaw2_WireBack.l1 k x0 x1 x6 0 x228000)
def tontinelaw2_WireBack.j2 : Nat → List Int → List Int → Int → Int → Bool → List Int → Option (Bool)
  | 0, _, _, _, _, _, _ => none
  | k + 1, x0, x1, x6, x7, x40, x228000 => if x40 = true then (some true) else (if 0 ≤ x7 then (if x7 < (x0.length : Int) then ((wire_Writer_Num.f k x228000 (rd x0 x7)).bind fun t234 => (if (rd x0 x7) ≥ 127 then (tontinelaw2_WireBack.j3 k x0 x1 (wrap64 ((wrap64 (x6 + 1)) + 1)) x7 t234) else (tontinelaw2_WireBack.j3 k x0 x1 (wrap64 (x6 + 1)) x7 t234))) else (none)) else (none))
def tontinelaw2_WireBack.j3 : Nat → List Int → List Int → Int → Int → List Int → Option (Bool)
  | 0, _, _, _, _, _ => none
  | k + 1, x0, x1, x6, x7, x228000 => if 0 ≤ x7 then (if x7 < (x0.length : Int) then (if (rd x0 x7) ≥ 16383 then (tontinelaw2_WireBack.l0 k x0 x1 (wrap64 (x6 + 1)) (wrap64 (x7 + 1)) x228000) else (tontinelaw2_WireBack.l0 k x0 x1 x6 (wrap64 (x7 + 1)) x228000)) else (none)) else (none)
def tontinelaw2_WireBack.l1 : Nat → List Int → List Int → Int → Int → List Int → Option (Bool)
  | 0, _, _, _, _, _ => none
  | k + 1, x0, x1, x6, x8, x228000 => if x8 < (x1.length : Int) then (if 0 ≤ x8 then ((wire_Writer_Bits.f k x228000 (rd x1 x8)).bind fun t240 => (tontinelaw2_WireBack.l1 k x0 x1 x6 (wrap64 (x8 + 1)) t240)) else (none)) else ((wire_Writer_String.f x228000).bind fun bt243 => ((wire_Of.f bt243.1).bind fun bt246 => ((wire_Writer_String.f bt243.2).bind fun bt248 => (if (bt248.1.size : Int) = (wrap64 (x6 + (wrap64 (8 * (x1.length : Int))))) then (tontinelaw2_WireBack.l2 k x0 x1 0 bt246.1 bt246.2) else (some false)))))
def tontinelaw2_WireBack.l2 : Nat → List Int → List Int → Int → ByteArray → Option Int → Option (Bool)
  | 0, _, _, _, _, _ => none
  | k + 1, x0, x1, x10, x246000, x246001 => if x10 < (x0.length : Int) then ((wire_Reader_Num.f k x246000 x246001 1048576).bind fun bt250 => (if 0 ≤ x10 then (if bt250.1 = (rd x0 x10) then (tontinelaw2_WireBack.l2 k x0 x1 (wrap64 (x10 + 1)) bt250.2.1 bt250.2.2) else (some false)) else (none))) else (tontinelaw2_WireBack.l3 k x1 0 x246000 x246001)
def tontinelaw2_WireBack.l3 : Nat → List Int → Int → ByteArray → Option Int → Option (Bool)
  | 0, _, _, _, _ => none
  | k + 1, x1, x11, x246000, x246001 => if x11 < (x1.length : Int) then ((wire_Reader_Bits.f k x246000 x246001).bind fun bt254 => (if 0 ≤ x11 then (if bt254.1 = (rd x1 x11) then (tontinelaw2_WireBack.l3 k x1 (wrap64 (x11 + 1)) bt254.2.1 bt254.2.2) else (some false)) else (none))) else ((wire_Reader_Left.f x246000 x246001).bind fun bt258 => (if bt258.1 = 0 then ((wire_Reader_Err.f bt258.2.1 bt258.2.2).bind fun bt261 => (if bt261.1.isNone = true then (some true) else (some false))) else (some false)))
end
def tontinelaw2_WireBack.f (k : Nat) (l0 : List Int) (l1 : List Int) : Option (Bool) := (tontinelaw2_known.f k).bind fun t226 => (if t226 = true then (if (l0.length : Int) > 30 then (tontinelaw2_WireBack.j0 k l0 l1 true) else (tontinelaw2_WireBack.j0 k l0 l1 (decide ((l1.length : Int) > 30)))) else (some false))
theorem tontinelaw2_WireBack.mono_l : ∀ k, (∀ y0 y1 y2, LeO (tontinelaw2_WireBack.j0 k y0 y1 y2) (tontinelaw2_WireBack.j0 (k + 1) y0 y1 y2)) ∧ (∀ y0 y1 y2 y3 y4, LeO (tontinelaw2_WireBack.l0 k y0 y1 y2 y3 y4) (tontinelaw2_WireBack.l0 (k + 1) y0 y1 y2 y3 y4)) ∧ (∀ y0 y1 y2 y3 y4 y5, LeO (tontinelaw2_WireBack.j2 k y0 y1 y2 y3 y4 y5) (tontinelaw2_WireBack.j2 (k + 1) y0 y1 y2 y3 y4 y5)) ∧ (∀ y0 y1 y2 y3 y4, LeO (tontinelaw2_WireBack.j3 k y0 y1 y2 y3 y4) (tontinelaw2_WireBack.j3 (k + 1) y0 y1 y2 y3 y4)) ∧ (∀ y0 y1 y2 y3 y4, LeO (tontinelaw2_WireBack.l1 k y0 y1 y2 y3 y4) (tontinelaw2_WireBack.l1 (k + 1) y0 y1 y2 y3 y4)) ∧ (∀ y0 y1 y2 y3 y4, LeO (tontinelaw2_WireBack.l2 k y0 y1 y2 y3 y4) (tontinelaw2_WireBack.l2 (k + 1) y0 y1 y2 y3 y4)) ∧ (∀ y0 y1 y2 y3, LeO (tontinelaw2_WireBack.l3 k y0 y1 y2 y3) (tontinelaw2_WireBack.l3 (k + 1) y0 y1 y2 y3))
  | 0 => ⟨fun _ _ _ r h => by simp [tontinelaw2_WireBack.j0] at h, fun _ _ _ _ _ r h => by simp [tontinelaw2_WireBack.l0] at h, fun _ _ _ _ _ _ r h => by simp [tontinelaw2_WireBack.j2] at h, fun _ _ _ _ _ r h => by simp [tontinelaw2_WireBack.j3] at h, fun _ _ _ _ _ r h => by simp [tontinelaw2_WireBack.l1] at h, fun _ _ _ _ _ r h => by simp [tontinelaw2_WireBack.l2] at h, fun _ _ _ _ r h => by simp [tontinelaw2_WireBack.l3] at h⟩
  | k + 1 => by
    obtain ⟨ih0, ih1, ih2, ih3, ih4, ih5, ih6⟩ := tontinelaw2_WireBack.mono_l k
    refine ⟨?_, ?_, ?_, ?_, ?_, ?_, ?_⟩
    · intro y0 y1 y2
      unfold tontinelaw2_WireBack.j0
      repeat' first
      | (with_reducible exact ih0 _ _ _)
      | (with_reducible exact ih1 _ _ _ _ _)
      | (with_reducible exact ih2 _ _ _ _ _ _)
      | (with_reducible exact ih3 _ _ _ _ _)
      | (with_reducible exact ih4 _ _ _ _ _)
      | (with_reducible exact ih5 _ _ _ _ _)
      | (with_reducible exact ih6 _ _ _ _)
      | (with_reducible exact tontinelaw2_known.mono _)
      | (with_reducible exact wire_Reader_Bits.mono _ _ _)
      | (with_reducible exact wire_Reader_Num.mono _ _ _ _)
      | (with_reducible exact wire_Writer_Bits.mono _ _ _)
      | (with_reducible exact wire_Writer_Num.mono _ _ _)
      | (with_reducible exact LeO.refl _)
      | (with_reducible exact LeO.none _)
      | (with_reducible refine LeO.ite ?_ ?_)
      | (with_reducible refine LeO.bind ?_ (fun _ => ?_))
      | exact ih0 _ _ _
      | exact ih1 _ _ _ _ _
      | exact ih2 _ _ _ _ _ _
      | exact ih3 _ _ _ _ _
      | exact ih4 _ _ _ _ _
      | exact ih5 _ _ _ _ _
      | exact ih6 _ _ _ _
      | exact tontinelaw2_known.mono _
      | exact wire_Reader_Bits.mono _ _ _
      | exact wire_Reader_Num.mono _ _ _ _
      | exact wire_Writer_Bits.mono _ _ _
      | exact wire_Writer_Num.mono _ _ _
      | exact LeO.none _
      | refine LeO.ite ?_ ?_
      | refine LeO.bind ?_ (fun _ => ?_)
    · intro y0 y1 y2 y3 y4
      unfold tontinelaw2_WireBack.l0
      repeat' first
      | (with_reducible exact ih0 _ _ _)
      | (with_reducible exact ih1 _ _ _ _ _)
      | (with_reducible exact ih2 _ _ _ _ _ _)
      | (with_reducible exact ih3 _ _ _ _ _)
      | (with_reducible exact ih4 _ _ _ _ _)
      | (with_reducible exact ih5 _ _ _ _ _)
      | (with_reducible exact ih6 _ _ _ _)
      | (with_reducible exact tontinelaw2_known.mono _)
      | (with_reducible exact wire_Reader_Bits.mono _ _ _)
      | (with_reducible exact wire_Reader_Num.mono _ _ _ _)
      | (with_reducible exact wire_Writer_Bits.mono _ _ _)
      | (with_reducible exact wire_Writer_Num.mono _ _ _)
      | (with_reducible exact LeO.refl _)
      | (with_reducible exact LeO.none _)
      | (with_reducible refine LeO.ite ?_ ?_)
      | (with_reducible refine LeO.bind ?_ (fun _ => ?_))
      | exact ih0 _ _ _
      | exact ih1 _ _ _ _ _
      | exact ih2 _ _ _ _ _ _
      | exact ih3 _ _ _ _ _
      | exact ih4 _ _ _ _ _
      | exact ih5 _ _ _ _ _
      | exact ih6 _ _ _ _
      | exact tontinelaw2_known.mono _
      | exact wire_Reader_Bits.mono _ _ _
      | exact wire_Reader_Num.mono _ _ _ _
      | exact wire_Writer_Bits.mono _ _ _
      | exact wire_Writer_Num.mono _ _ _
      | exact LeO.none _
      | refine LeO.ite ?_ ?_
      | refine LeO.bind ?_ (fun _ => ?_)
    · intro y0 y1 y2 y3 y4 y5
      unfold tontinelaw2_WireBack.j2
      repeat' first
      | (with_reducible exact ih0 _ _ _)
      | (with_reducible exact ih1 _ _ _ _ _)
      | (with_reducible exact ih2 _ _ _ _ _ _)
      | (with_reducible exact ih3 _ _ _ _ _)
      | (with_reducible exact ih4 _ _ _ _ _)
      | (with_reducible exact ih5 _ _ _ _ _)
      | (with_reducible exact ih6 _ _ _ _)
      | (with_reducible exact tontinelaw2_known.mono _)
      | (with_reducible exact wire_Reader_Bits.mono _ _ _)
      | (with_reducible exact wire_Reader_Num.mono _ _ _ _)
      | (with_reducible exact wire_Writer_Bits.mono _ _ _)
      | (with_reducible exact wire_Writer_Num.mono _ _ _)
      | (with_reducible exact LeO.refl _)
      | (with_reducible exact LeO.none _)
      | (with_reducible refine LeO.ite ?_ ?_)
      | (with_reducible refine LeO.bind ?_ (fun _ => ?_))
      | exact ih0 _ _ _
      | exact ih1 _ _ _ _ _
      | exact ih2 _ _ _ _ _ _
      | exact ih3 _ _ _ _ _
      | exact ih4 _ _ _ _ _
      | exact ih5 _ _ _ _ _
      | exact ih6 _ _ _ _
      | exact tontinelaw2_known.mono _
      | exact wire_Reader_Bits.mono _ _ _
      | exact wire_Reader_Num.mono _ _ _ _
      | exact wire_Writer_Bits.mono _ _ _
      | exact wire_Writer_Num.mono _ _ _
      | exact LeO.none _
      | refine LeO.ite ?_ ?_
      | refine LeO.bind ?_ (fun _ => ?_)
    · intro y0 y1 y2 y3 y4
      unfold tontinelaw2_WireBack.j3
      repeat' first
      | (with_reducible exact ih0 _ _ _)
      | (with_reducible exact ih1 _ _ _ _ _)
      | (with_reducible exact ih2 _ _ _ _ _ _)
      | (with_reducible exact ih3 _ _ _ _ _)
      | (with_reducible exact ih4 _ _ _ _ _)
      | (with_reducible exact ih5 _ _ _ _ _)
      | (with_reducible exact ih6 _ _ _ _)
      | (with_reducible exact tontinelaw2_known.mono _)
      | (with_reducible exact wire_Reader_Bits.mono _ _ _)
      | (with_reducible exact wire_Reader_Num.mono _ _ _ _)
      | (with_reducible exact wire_Writer_Bits.mono _ _ _)
      | (with_reducible exact wire_Writer_Num.mono _ _ _)
      | (with_reducible exact LeO.refl _)
      | (with_reducible exact LeO.none _)
      | (with_reducible refine LeO.ite ?_ ?_)
      | (with_reducible refine LeO.bind ?_ (fun _ => ?_))
      | exact ih0 _ _ _
      | exact ih1 _ _ _ _ _
      | exact ih2 _ _ _ _ _ _
      | exact ih3 _ _ _ _ _
      | exact ih4 _ _ _ _ _
      | exact ih5 _ _ _ _ _
      | exact ih6 _ _ _ _
      | exact tontinelaw2_known.mono _
      | exact wire_Reader_Bits.mono _ _ _
      | exact wire_Reader_Num.mono _ _ _ _
      | exact wire_Writer_Bits.mono _ _ _
      | exact wire_Writer_Num.mono _ _ _
      | exact LeO.none _
      | refine LeO.ite ?_ ?_
      | refine LeO.bind ?_ (fun _ => ?_)
    · intro y0 y1 y2 y3 y4
      unfold tontinelaw2_WireBack.l1
      repeat' first
      | (with_reducible exact ih0 _ _ _)
      | (with_reducible exact ih1 _ _ _ _ _)
      | (with_reducible exact ih2 _ _ _ _ _ _)
      | (with_reducible exact ih3 _ _ _ _ _)
      | (with_reducible exact ih4 _ _ _ _ _)
      | (with_reducible exact ih5 _ _ _ _ _)
      | (with_reducible exact ih6 _ _ _ _)
      | (with_reducible exact tontinelaw2_known.mono _)
      | (with_reducible exact wire_Reader_Bits.mono _ _ _)
      | (with_reducible exact wire_Reader_Num.mono _ _ _ _)
      | (with_reducible exact wire_Writer_Bits.mono _ _ _)
      | (with_reducible exact wire_Writer_Num.mono _ _ _)
      | (with_reducible exact LeO.refl _)
      | (with_reducible exact LeO.none _)
      | (with_reducible refine LeO.ite ?_ ?_)
      | (with_reducible refine LeO.bind ?_ (fun _ => ?_))
      | exact ih0 _ _ _
      | exact ih1 _ _ _ _ _
      | exact ih2 _ _ _ _ _ _
      | exact ih3 _ _ _ _ _
      | exact ih4 _ _ _ _ _
      | exact ih5 _ _ _ _ _
      | exact ih6 _ _ _ _
      | exact tontinelaw2_known.mono _
      | exact wire_Reader_Bits.mono _ _ _
      | exact wire_Reader_Num.mono _ _ _ _
      | exact wire_Writer_Bits.mono _ _ _
      | exact wire_Writer_Num.mono _ _ _
      | exact LeO.none _
      | refine LeO.ite ?_ ?_
      | refine LeO.bind ?_ (fun _ => ?_)
    · intro y0 y1 y2 y3 y4
      unfold tontinelaw2_WireBack.l2
      repeat' first
      | (with_reducible exact ih0 _ _ _)
      | (with_reducible exact ih1 _ _ _ _ _)
      | (with_reducible exact ih2 _ _ _ _ _ _)
      | (with_reducible exact ih3 _ _ _ _ _)
      | (with_reducible exact ih4 _ _ _ _ _)
      | (with_reducible exact ih5 _ _ _ _ _)
      | (with_reducible exact ih6 _ _ _ _)
      | (with_reducible exact tontinelaw2_known.mono _)
      | (with_reducible exact wire_Reader_Bits.mono _ _ _)
      | (with_reducible exact wire_Reader_Num.mono _ _ _ _)
      | (with_reducible exact wire_Writer_Bits.mono _ _ _)
      | (with_reducible exact wire_Writer_Num.mono _ _ _)
      | (with_reducible exact LeO.refl _)
      | (with_reducible exact LeO.none _)
      | (with_reducible refine LeO.ite ?_ ?_)
      | (with_reducible refine LeO.bind ?_ (fun _ => ?_))
      | exact ih0 _ _ _
      | exact ih1 _ _ _ _ _
      | exact ih2 _ _ _ _ _ _
      | exact ih3 _ _ _ _ _
      | exact ih4 _ _ _ _ _
      | exact ih5 _ _ _ _ _
      | exact ih6 _ _ _ _
      | exact tontinelaw2_known.mono _
      | exact wire_Reader_Bits.mono _ _ _
      | exact wire_Reader_Num.mono _ _ _ _
      | exact wire_Writer_Bits.mono _ _ _
      | exact wire_Writer_Num.mono _ _ _
      | exact LeO.none _
      | refine LeO.ite ?_ ?_
      | refine LeO.bind ?_ (fun _ => ?_)
    · intro y0 y1 y2 y3
      unfold tontinelaw2_WireBack.l3
      repeat' first
      | (with_reducible exact ih0 _ _ _)
      | (with_reducible exact ih1 _ _ _ _ _)
      | (with_reducible exact ih2 _ _ _ _ _ _)
      | (with_reducible exact ih3 _ _ _ _ _)
      | (with_reducible exact ih4 _ _ _ _ _)
      | (with_reducible exact ih5 _ _ _ _ _)
      | (with_reducible exact ih6 _ _ _ _)
      | (with_reducible exact tontinelaw2_known.mono _)
      | (with_reducible exact wire_Reader_Bits.mono _ _ _)
      | (with_reducible exact wire_Reader_Num.mono _ _ _ _)
      | (with_reducible exact wire_Writer_Bits.mono _ _ _)
      | (with_reducible exact wire_Writer_Num.mono _ _ _)
      | (with_reducible exact LeO.refl _)
      | (with_reducible exact LeO.none _)
      | (with_reducible refine LeO.ite ?_ ?_)
      | (with_reducible refine LeO.bind ?_ (fun _ => ?_))
      | exact ih0 _ _ _
      | exact ih1 _ _ _ _ _
      | exact ih2 _ _ _ _ _ _
      | exact ih3 _ _ _ _ _
      | exact ih4 _ _ _ _ _
      | exact ih5 _ _ _ _ _
      | exact ih6 _ _ _ _
      | exact tontinelaw2_known.mono _
      | exact wire_Reader_Bits.mono _ _ _
      | exact wire_Reader_Num.mono _ _ _ _
      | exact wire_Writer_Bits.mono _ _ _
      | exact wire_Writer_Num.mono _ _ _
      | exact LeO.none _
      | refine LeO.ite ?_ ?_
      | refine LeO.bind ?_ (fun _ => ?_)
theorem tontinelaw2_WireBack.mono : ∀ a0 a1 k, LeO (tontinelaw2_WireBack.f k a0 a1) (tontinelaw2_WireBack.f (k + 1) a0 a1) := by
 intro a0 a1 k
 obtain ⟨ih0, ih1, ih2, ih3, ih4, ih5, ih6⟩ := tontinelaw2_WireBack.mono_l k
 unfold tontinelaw2_WireBack.f
 repeat' first
   | (with_reducible exact ih0 _ _ _)
   | (with_reducible exact ih1 _ _ _ _ _)
   | (with_reducible exact ih2 _ _ _ _ _ _)
   | (with_reducible exact ih3 _ _ _ _ _)
   | (with_reducible exact ih4 _ _ _ _ _)
   | (with_reducible exact ih5 _ _ _ _ _)
   | (with_reducible exact ih6 _ _ _ _)
   | (with_reducible exact tontinelaw2_known.mono _)
   | (with_reducible exact wire_Reader_Bits.mono _ _ _)
   | (with_reducible exact wire_Reader_Num.mono _ _ _ _)
   | (with_reducible exact wire_Writer_Bits.mono _ _ _)
   | (with_reducible exact wire_Writer_Num.mono _ _ _)
   | (with_reducible exact LeO.refl _)
   | (with_reducible exact LeO.none _)
   | (with_reducible refine LeO.ite ?_ ?_)
   | (with_reducible refine LeO.bind ?_ (fun _ => ?_))
   | exact ih0 _ _ _
   | exact ih1 _ _ _ _ _
   | exact ih2 _ _ _ _ _ _
   | exact ih3 _ _ _ _ _
   | exact ih4 _ _ _ _ _
   | exact ih5 _ _ _ _ _
   | exact ih6 _ _ _ _
   | exact tontinelaw2_known.mono _
   | exact wire_Reader_Bits.mono _ _ _
   | exact wire_Reader_Num.mono _ _ _ _
   | exact wire_Writer_Bits.mono _ _ _
   | exact wire_Writer_Num.mono _ _ _
   | exact LeO.none _
   | refine LeO.ite ?_ ?_
   | refine LeO.bind ?_ (fun _ => ?_)
set_option maxHeartbeats 8000000 in
set_option maxRecDepth 100000 in
theorem tontinelaw2_WireBack.calls (k : Nat) (A0 : Option Addr) (c0 : Nat) (l0 : List Int) (A1 : Option Addr) (c1 : Nat) (l1 : List Int) (r : Bool) (hrt : r = true) (w : World) (hr0 : Kd.C (Kd.int .i64) w A0 l0.length l0) (hc0 : l0.length ≤ c0) (hr1 : Kd.C (Kd.int .u64) w A1 l1.length l1) (hc1 : l1.length ≤ c1) (h : tontinelaw2_WireBack.f k l0 l1 = some r) :
    Calls Try.prog 3 #[.slice A0 l0.length c0, .slice A1 l1.length c1] w fun e w' => e = .returned (.bool r) ∧ Below w.heap.size w w' := by
 have hu37 := Try.underlying37; have hu42 := Try.underlying42
 have HR0 := Goto.m0 hr0
 have HC0 := Goto.m0 hc0
 clear hr0 hc0
 have HR1 := Goto.m0 hr1
 have HC1 := Goto.m0 hc1
 clear hr1 hc1
 have HB := Goto.m0 (Below.refl w.heap.size w)
 have HRT := Goto.m0 hrt
 clear hrt
 have H : ((tontinelaw2_known.f k).bind fun t226 => (if t226 = true then (if (l0.length : Int) > 30 then (tontinelaw2_WireBack.j0 k l0 l1 true) else (tontinelaw2_WireBack.j0 k l0 l1 (decide ((l1.length : Int) > 30)))) else (some false))) = some r := h
 clear h
 replace H := Option.bind_eq_some_iff.mp H
 obtain ⟨t226, A30, H⟩ := H
 have A3 := Goto.m0 A30
 clear A30
 by_cases c4 : t226 = true
 ·
  subst c4
  rw [if_pos rfl] at H
  have HC5 := Goto.m0 H
  clear H
  go_enter Try.func3, Try.ntmps3
  go_upto_region 3 with (first | ((with_reducible refine gate_callee (f := 9) rfl ?_); refine goesL_ (some 12) rfl rfl Try.func9 (by kernel_rfl) rfl #[] rfl (by (try simp only [List.map_toArray, List.map_cons, List.map_nil]); first | done | rfl | (simp only [List.length_drop, List.length_take]; rfl)) ?_; (with_reducible refine (tontinelaw2_known.calls k  true (by first | rfl | assumption | (simp only [Bool.not_eq_true, Bool.not_eq_false] at *; assumption)) _ A3.out).mono ?_); rintro e w6 ⟨rfl, hb⟩; refine ⟨_, rfl, ?_⟩; replace HB := Goto.hs HB hb; (try clear hb); (try clear hb2); (try clear hk); (try clear hi)))
  (try simp only [Act.put, List.setIfInBounds_toArray, List.set_cons_zero, List.set_cons_succ])
  go_cut [15, 16, 17, 21] (fun v15 v16 v17 v21 wc => ∃ (kq : Nat) (x21_4 : Bool), v21 = .bool x21_4 ∧ Aside0 (tontinelaw2_WireBack.j0 kq l0 l1 x21_4 = some r) ∧ Aside0 (kq ≤ k) ∧ Aside0 (Below w.heap.size w wc))
  case first =>
   have H := HC5.out; clear HC5
   by_cases c7 : (l0.length : Int) > 30
   ·
    rw [if_pos c7] at H
    have c7b0 : decide (30 < (l0.length : Int)) = true := decide_eq_true c7
    have c7b1 : decide (30 < l0.length) = true := decide_eq_true (by omega)
    clear c7
    (first | rw [c7b0] | (simp only [i64_w, i32_w]; rw [c7b0]) | skip)
    have H' := Goto.m0 H
    clear H
    go_wp2
    go_meet
    case rel => exact ⟨_, (true), (by first | rfl | (simp; done) | (simp [*]; done)), H', ⟨by first | omega | exact Nat.le_refl _⟩, ⟨Goto.hx HB⟩⟩
   ·
    rw [if_neg c7] at H
    have c7b0 : decide (30 < (l0.length : Int)) = false := decide_eq_false c7
    have c7b1 : decide (30 < l0.length) = false := decide_eq_false (by omega)
    clear c7
    (first | rw [c7b0] | (simp only [i64_w, i32_w]; rw [c7b0]) | skip)
    have H' := Goto.m0 H
    clear H
    go_wp2
    go_meet
    case rel => exact ⟨_, (decide ((l1.length : Int) > 30)), (by first | rfl | (simp; done) | (simp [*]; done)), H', ⟨by first | omega | exact Nat.le_refl _⟩, ⟨Goto.hx HB⟩⟩
  case rest =>
   clear HC5; try clear c1; try clear p2; try clear c3; try clear c4; try clear c7; try clear c7b0; try clear c7b1
   obtain ⟨kq, x21_4, rfl, HA, HJ4, HB⟩ := hcut
   cases kq with
   | zero => exact absurd HA.out (by simp [tontinelaw2_WireBack.j0])
   | succ kj4 =>
    have H := HA.out; clear HA
    simp only [tontinelaw2_WireBack.j0] at H
    by_cases c8 : x21_4 = true
    ·
     subst c8
     rw [if_pos rfl] at H
     obtain rfl := Option.some.inj H
     go_wp2
     go_ret
     exact ⟨Goto.er, by repeat (first | (with_reducible first | exact HB.out | apply below_alloc | apply pw_below_drewN | apply below_drew1) | exact HB.out)⟩
    ·
     replace c8 := Bool.eq_false_iff.mpr c8
     subst c8
     rw [if_neg (show ¬ (false = true) by decide)] at H
     replace H := Option.bind_eq_some_iff.mp H
     obtain ⟨t228, A90, H⟩ := H
     have A9 := Goto.m0 A90
     clear A90
     have H' := Goto.m0 H
     clear H
     go_wp2_with (first | ((with_reducible refine gate_callee (f := 10) rfl ?_); refine goesL_ (some 22) rfl rfl Try.func10 (by kernel_rfl) rfl #[] rfl (by (try simp only [List.map_toArray, List.map_cons, List.map_nil]); first | done | rfl | (simp only [List.length_drop, List.length_take]; rfl)) ?_; (with_reducible refine (wire_New.calls  t228 _ A9.out).mono ?_); rintro e w10 ⟨v229, gb227, rfl, ho0, hi, hge, hb⟩; refine ⟨_, rfl, ?_⟩; have HO230 := Goto.m0 (Kd.R_lower ho0 (below_size (Goto.hx HB))); have BK227 := Goto.m0 (hi); have GW227 := Goto.m0 ((Nat.le_trans (below_size (Goto.hx HB)) hge : w.heap.size ≤ gb227)); have GE227 := Goto.m0 ((Nat.le_trans (below_size (Goto.hx HB)) hge : w.heap.size ≤ gb227)); replace HB := Goto.hs HB hb; (try clear hb); (try clear hi); (try clear hge); (try clear ho0)))
     go_loopg [6, 7] kj4 (fun kq v6 v7 w' => ∃ (x6_2 : Int) (x7_2 : Int) (x228000_2 : List Int) (u228000 : Value), v6 = .int .i64 x6_2 ∧ v7 = .int .i64 x7_2 ∧ Aside0 (tontinelaw2_WireBack.l0 kq l0 l1 x6_2 x7_2 x228000_2 = some r) ∧ Aside0 (kq ≤ kj4) ∧ Aside0 (Kd.R (Kd.int .u8) 5 w' w.heap.size (fun _ => True) u228000 x228000_2) ∧ Aside0 (w'.heap[gb227]? = some (.cells #[u228000] 65 (0, 0))) ∧ Aside0 (Below w.heap.size w w'))
     case atStart => exact ⟨(0), (0), (t228), (v229), (by first | rfl | (simp; done) | (simp [*]; done)), (by first | rfl | (simp; done) | (simp [*]; done)), H', ⟨Nat.le_refl _⟩, ⟨Goto.rk HO230⟩, ⟨Goto.bx BK227⟩, ⟨Goto.hx HB⟩⟩
     case round =>
      clear H'
      try clear c1; try clear p2; try clear c3; try clear c4; try clear c7; try clear c7b0; try clear c7b1; try clear c8; try clear c9; try clear c10; try clear p2
      obtain ⟨x6_2, x7_2, x228000_2, u228000, rfl, rfl, HA, HK2, HO_228000, BK227, HB⟩ := hrel
      cases gk with
      | zero => exact absurd HA.out (by simp [tontinelaw2_WireBack.l0])
      | succ k2 =>
       have H := HA.out; clear HA
       simp only [tontinelaw2_WireBack.l0] at H
       by_cases c11 : x7_2 < (l0.length : Int)
       ·
        rw [if_pos c11] at H
        have c11b0 : decide (x7_2 < (l0.length : Int)) = true := decide_eq_true c11
        clear c11
        have HC12 := Goto.m0 H
        clear H
        go_upto_region 10 with (fail)
        go_cut [25, 26, 32, 33, 34, 40] (fun v25 v26 v32 v33 v34 v40 wc => ∃ (kq : Nat) (x40_11 : Bool), v40 = .bool x40_11 ∧ Aside0 (tontinelaw2_WireBack.j2 kq l0 l1 x6_2 x7_2 x40_11 x228000_2 = some r) ∧ Aside0 (kq ≤ k2) ∧ Aside0 (Kd.R (Kd.int .u8) 5 wc w.heap.size (fun _ => True) u228000 x228000_2) ∧ Aside0 (wc.heap[gb227]? = some (.cells #[u228000] 65 (0, 0))) ∧ Aside0 (Below w.heap.size w wc))
        case first =>
         have H := HC12.out; clear HC12
         by_cases c13 : 0 ≤ x7_2
         ·
          rw [if_pos c13] at H
          have c13b0 : decide (0 ≤ x7_2) = true := decide_eq_true c13
          clear c13
          (first | rw [c13b0] | (simp only [i64_w, i32_w]; rw [c13b0]) | skip)
          by_cases c14 : (rd l0 x7_2) < (-1)
          ·
           rw [if_pos c14] at H
           have c14b0 : decide ((rd l0 x7_2) < (-1)) = true := decide_eq_true c14
           clear c14
           have H' := Goto.m0 H
           clear H
           have p231 : 0 ≤ (x7_2 : Int) := Goto.od
           have q231 : x7_2 < (l0.length : Int) := Goto.od
           obtain ⟨ad231, e231, hx231_0⟩ := Kd.at_int HR0.out x7_2 p231 q231
           cases e231
           replace hx231_0 := Goto.kc HB.out hx231_0
           replace p231 := eq_true p231; replace q231 := eq_true q231
           go_wp2
           go_meet
           case rel => exact ⟨_, (true), (by first | rfl | (simp; done) | (simp [*]; done)), H', ⟨by have := HJ4.out; have := HK2.out; first | omega | exact Nat.le_refl _⟩, ⟨Goto.rk HO_228000⟩, ⟨Goto.bx BK227⟩, ⟨Goto.hx HB⟩⟩
          ·
           rw [if_neg c14] at H
           have c14b0 : decide ((rd l0 x7_2) < (-1)) = false := decide_eq_false c14
           clear c14
           have H' := Goto.m0 H
           clear H
           have p231 : 0 ≤ (x7_2 : Int) := Goto.od
           have q231 : x7_2 < (l0.length : Int) := Goto.od
           obtain ⟨ad231, e231, hx231_0⟩ := Kd.at_int HR0.out x7_2 p231 q231
           cases e231
           replace hx231_0 := Goto.kc HB.out hx231_0
           replace p231 := eq_true p231; replace q231 := eq_true q231
           have p232 : 0 ≤ (x7_2 : Int) := Goto.od
           have q232 : x7_2 < (l0.length : Int) := Goto.od
           obtain ⟨ad232, e232, hx232_0⟩ := Kd.at_int HR0.out x7_2 p232 q232
           obtain rfl : ad231 = ad232 := (by injection e232)
           replace hx232_0 := Goto.kc HB.out hx232_0
           replace p232 := eq_true p232; replace q232 := eq_true q232
           go_wp2
           go_meet
           case rel => exact ⟨_, (decide ((rd l0 x7_2) > 1048576)), (by first | rfl | (simp; done) | (simp [*]; done)), H', ⟨by have := HJ4.out; have := HK2.out; first | omega | exact Nat.le_refl _⟩, ⟨Goto.rk HO_228000⟩, ⟨Goto.bx BK227⟩, ⟨Goto.hx HB⟩⟩
         ·
          rw [if_neg c13] at H
          exact absurd H (by simp)
        case rest =>
         clear HC12; try clear c1; try clear p2; try clear q2; try clear hx2; try clear c3; try clear c4; try clear c7; try clear c7b0; try clear c7b1; try clear c8; try clear c9; try clear c10; try clear c11; try clear c11b0; try clear c13; try clear c13b0; try clear c14; try clear c14b0; try clear hx231_0; try clear hx232_0; try clear p2; try clear p231; try clear p232; try clear q231; try clear q232
         obtain ⟨kq, x40_11, rfl, HA, HJ11, HO_228000, BK227, HB⟩ := hcut
         cases kq with
         | zero => exact absurd HA.out (by simp [tontinelaw2_WireBack.j2])
         | succ kj11 =>
          have H := HA.out; clear HA
          simp only [tontinelaw2_WireBack.j2] at H
          by_cases c15 : x40_11 = true
          ·
           subst c15
           rw [if_pos rfl] at H
           obtain rfl := Option.some.inj H
           go_wp2
           go_ret
           exact ⟨Goto.er, by repeat (first | (with_reducible first | exact HB.out | apply below_alloc | apply pw_below_drewN | apply below_drew1 | refine below_set ?_ GE227.out) | exact HB.out)⟩
          ·
           replace c15 := Bool.eq_false_iff.mpr c15
           subst c15
           rw [if_neg (show ¬ (false = true) by decide)] at H
           by_cases c16 : 0 ≤ x7_2
           ·
            rw [if_pos c16] at H
            have c16b0 : decide (0 ≤ x7_2) = true := decide_eq_true c16
            clear c16
            by_cases c17 : x7_2 < (l0.length : Int)
            ·
             rw [if_pos c17] at H
             have c17b0 : decide (x7_2 < (l0.length : Int)) = true := decide_eq_true c17
             clear c17
             replace H := Option.bind_eq_some_iff.mp H
             obtain ⟨t234, A180, H⟩ := H
             have A18 := Goto.m0 A180
             clear A180
             have HC19 := Goto.m0 H
             clear H
             have p233 : 0 ≤ (x7_2 : Int) := Goto.od
             have q233 : x7_2 < (l0.length : Int) := Goto.od
             obtain ⟨ad233, e233, hx233_0⟩ := Kd.at_int HR0.out x7_2 p233 q233
             cases e233
             replace hx233_0 := Goto.kc HB.out hx233_0
             replace p233 := eq_true p233; replace q233 := eq_true q233
             go_upto_if 53 with (first | ((with_reducible refine gate_callee (f := 11) rfl ?_); refine goesL_ (some 46) rfl rfl Try.func11 (by kernel_rfl) rfl #[.pointer (some ⟨gb227, 0, none⟩), .int .i64 (rd l0 x7_2)] rfl (by (try simp only [List.map_toArray, List.map_cons, List.map_nil]); first | done | rfl | (simp only [List.length_drop, List.length_take]; rfl)) ?_; (with_reducible refine (wire_Writer_Num.calls kj11 gb227 (fun k_ => some k_ = (u228000 : Value).ownBlock) u228000 x228000_2 (rd l0 x7_2) t234 w _ ?side1 ?side2 ?side3 ?side4 A18.out).mono ?_); (case side1 => exact by (with_reducible repeat first | refine blk_drewN ?_ _ | refine blk_drew ?_ | refine blk_alloc ?_ _); exact BK227.out); (case side2 => exact GE227.out); (case side3 => repeat (first | (with_reducible first | exact HB.out | apply below_alloc | apply pw_below_drewN | apply below_drew1 | refine below_set ?_ GE227.out) | exact HB.out)); (case side4 => exact Kd.R_tight rfl HO_228000.out); rintro e w20 ⟨v235, rfl, ho0, hi, hb, hkp⟩; refine ⟨_, rfl, ?_⟩; have n0_ := Goto.m0 (hi); have n1_ := Goto.m0 (Kd.R_mono (ok' := fun k_ => True) ho0 (fun k_ hk_ => trivial)); have n2_ := Goto.m0 (hb); clear BK227; clear HB; clear HO_228000; have BK227 := n0_; have HO236 := n1_; have HB := n2_; clear n0_ n1_ n2_; (try clear hb); (try clear hkp); (try clear ho0); have p237 : 0 ≤ (x7_2 : Int) := Goto.od; have q237 : x7_2 < (l0.length : Int) := Goto.od; obtain ⟨ad237, e237, hx237_0⟩ := Kd.at_int HR0.out x7_2 p237 q237; obtain rfl : ad233 = ad237 := (by injection e237); replace hx237_0 := Goto.kc HB.out hx237_0; replace p237 := eq_true p237; replace q237 := eq_true q237))
             (try simp only [Act.put, List.setIfInBounds_toArray, List.set_cons_zero, List.set_cons_succ])
             go_cut [6, 45, 48, 52, 53] (fun v6 v45 v48 v52 v53 wc => ∃ (kq : Nat) (x6_18 : Int), v6 = .int .i64 x6_18 ∧ Aside0 (tontinelaw2_WireBack.j3 kq l0 l1 x6_18 x7_2 t234 = some r) ∧ Aside0 (kq ≤ kj11) ∧ Aside0 (Kd.R (Kd.int .u8) 5 wc w.heap.size (fun _ => True) v235 t234) ∧ Aside0 (wc.heap[gb227]? = some (.cells #[v235] 65 (0, 0))) ∧ Aside0 (Below w.heap.size w wc))
             case first =>
              have H := HC19.out; clear HC19
              by_cases c21 : (rd l0 x7_2) ≥ 127
              ·
               rw [if_pos c21] at H
               have c21b0 : decide (127 ≤ (rd l0 x7_2)) = true := decide_eq_true c21
               clear c21
               (first | rw [c21b0] | (simp only [i64_w, i32_w]; rw [c21b0]) | skip)
               have H' := Goto.m0 H
               clear H
               go_wp2
               go_meet
               case rel => exact ⟨_, (wrap64 ((wrap64 (x6_2 + 1)) + 1)), (by first | rfl | (simp; done) | (simp [*]; done)), H', ⟨by have := HJ4.out; have := HK2.out; have := HJ11.out; first | omega | exact Nat.le_refl _⟩, ⟨Goto.rk HO236⟩, ⟨Goto.bx BK227⟩, ⟨Goto.hx HB⟩⟩
              ·
               rw [if_neg c21] at H
               have c21b0 : decide (127 ≤ (rd l0 x7_2)) = false := decide_eq_false c21
               clear c21
               (first | rw [c21b0] | (simp only [i64_w, i32_w]; rw [c21b0]) | skip)
               have H' := Goto.m0 H
               clear H
               go_wp2
               go_meet
               case rel => exact ⟨_, (wrap64 (x6_2 + 1)), (by first | rfl | (simp; done) | (simp [*]; done)), H', ⟨by have := HJ4.out; have := HK2.out; have := HJ11.out; first | omega | exact Nat.le_refl _⟩, ⟨Goto.rk HO236⟩, ⟨Goto.bx BK227⟩, ⟨Goto.hx HB⟩⟩
             case rest =>
              clear HC19; try clear c1; try clear c2; try clear p2; try clear q2; try clear hx2; try clear c3; try clear c4; try clear p6; try clear c7; try clear c7b0; try clear c7b1; try clear c8; try clear c9; try clear c10; try clear c11; try clear c11b0; try clear c13; try clear c13b0; try clear c14; try clear c14b0; try clear c15; try clear c16; try clear c16b0; try clear c17; try clear c17b0; try clear c21; try clear c21b0; try clear hx231_0; try clear hx232_0; try clear hx233_0; try clear hx237_0; try clear p2; try clear p231; try clear p232; try clear p233; try clear p237; try clear q2; try clear q231; try clear q232; try clear q233; try clear q237
              obtain ⟨kq, x6_18, rfl, HA, HJ18, HO_228000, BK227, HB⟩ := hcut
              cases kq with
              | zero => exact absurd HA.out (by simp [tontinelaw2_WireBack.j3])
              | succ kj18 =>
               have H := HA.out; clear HA
               simp only [tontinelaw2_WireBack.j3] at H
               by_cases c22 : 0 ≤ x7_2
               ·
                rw [if_pos c22] at H
                have c22b0 : decide (0 ≤ x7_2) = true := decide_eq_true c22
                clear c22
                by_cases c23 : x7_2 < (l0.length : Int)
                ·
                 rw [if_pos c23] at H
                 have c23b0 : decide (x7_2 < (l0.length : Int)) = true := decide_eq_true c23
                 clear c23
                 by_cases c24 : (rd l0 x7_2) ≥ 16383
                 ·
                  rw [if_pos c24] at H
                  have c24b0 : decide (16383 ≤ (rd l0 x7_2)) = true := decide_eq_true c24
                  clear c24
                  have H' := Goto.m0 H
                  clear H
                  have p238 : 0 ≤ (x7_2 : Int) := Goto.od
                  have q238 : x7_2 < (l0.length : Int) := Goto.od
                  obtain ⟨ad238, e238, hx238_0⟩ := Kd.at_int HR0.out x7_2 p238 q238
                  obtain rfl : ad233 = ad238 := (by injection e238)
                  replace hx238_0 := Goto.kc HB.out hx238_0
                  replace p238 := eq_true p238; replace q238 := eq_true q238
                  go_wp2
                  go_roundg kj18
                  case measure => have := HJ4.out; have := HK2.out; have := HJ11.out; have := HJ18.out; omega
                  case rel => exact ⟨(wrap64 (x6_18 + 1)), (wrap64 (x7_2 + 1)), (t234), (v235), (by first | rfl | (simp; done) | (simp [*]; done)), (by first | rfl | (simp; done) | (simp [*]; done)), H', ⟨by have := HJ4.out; have := HK2.out; have := HJ11.out; have := HJ18.out; omega⟩, ⟨Goto.rk HO_228000⟩, ⟨Goto.bx BK227⟩, ⟨Goto.hx HB⟩⟩
                 ·
                  rw [if_neg c24] at H
                  have c24b0 : decide (16383 ≤ (rd l0 x7_2)) = false := decide_eq_false c24
                  clear c24
                  have H' := Goto.m0 H
                  clear H
                  have p238 : 0 ≤ (x7_2 : Int) := Goto.od
                  have q238 : x7_2 < (l0.length : Int) := Goto.od
                  obtain ⟨ad238, e238, hx238_0⟩ := Kd.at_int HR0.out x7_2 p238 q238
                  obtain rfl : ad233 = ad238 := (by injection e238)
                  replace hx238_0 := Goto.kc HB.out hx238_0
                  replace p238 := eq_true p238; replace q238 := eq_true q238
                  go_wp2
                  go_roundg kj18
                  case measure => have := HJ4.out; have := HK2.out; have := HJ11.out; have := HJ18.out; omega
                  case rel => exact ⟨(x6_18), (wrap64 (x7_2 + 1)), (t234), (v235), (by first | rfl | (simp; done) | (simp [*]; done)), (by first | rfl | (simp; done) | (simp [*]; done)), H', ⟨by have := HJ4.out; have := HK2.out; have := HJ11.out; have := HJ18.out; omega⟩, ⟨Goto.rk HO_228000⟩, ⟨Goto.bx BK227⟩, ⟨Goto.hx HB⟩⟩
                ·
                 rw [if_neg c23] at H
                 exact absurd H (by simp)
               ·
                rw [if_neg c22] at H
                exact absurd H (by simp)
            ·
             rw [if_neg c17] at H
             exact absurd H (by simp)
           ·
            rw [if_neg c16] at H
            exact absurd H (by simp)
       ·
        rw [if_neg c11] at H
        have c11b0 : decide (x7_2 < (l0.length : Int)) = false := decide_eq_false c11
        clear c11
        have H' := Goto.m0 H
        clear H
        go_wp2
        go_loopg [8] k2 (fun kq v8 w' => ∃ (x8_3 : Int) (x228000_3 : List Int) (u228000 : Value), v8 = .int .i64 x8_3 ∧ Aside0 (tontinelaw2_WireBack.l1 kq l0 l1 x6_2 x8_3 x228000_3 = some r) ∧ Aside0 (kq ≤ k2) ∧ Aside0 (Kd.R (Kd.int .u8) 5 w' w.heap.size (fun _ => True) u228000 x228000_3) ∧ Aside0 (w'.heap[gb227]? = some (.cells #[u228000] 65 (0, 0))) ∧ Aside0 (Below w.heap.size w w'))
        case atStart => exact ⟨(0), (x228000_2), (u228000), (by first | rfl | (simp; done) | (simp [*]; done)), H', ⟨Nat.le_refl _⟩, ⟨Goto.rk HO_228000⟩, ⟨Goto.bx BK227⟩, ⟨Goto.hx HB⟩⟩
        case round =>
         clear H'
         try clear c1; try clear c2; try clear p2; try clear q2; try clear hx2; try clear c3; try clear c4; try clear p6; try clear c7; try clear c7b0; try clear c7b1; try clear c8; try clear c9; try clear c10; try clear c11; try clear c11b0; try clear c13; try clear c13b0; try clear c14; try clear c14b0; try clear c15; try clear c16; try clear c16b0; try clear c17; try clear c17b0; try clear c21; try clear c21b0; try clear c22; try clear c22b0; try clear c23; try clear c23b0; try clear p23; try clear q23; try clear hx23; try clear c24; try clear c24b0; try clear hx231_0; try clear hx232_0; try clear hx233_0; try clear hx237_0; try clear hx238_0; try clear p2; try clear p231; try clear p232; try clear p233; try clear p237; try clear p238; try clear p6; try clear q2; try clear q231; try clear q232; try clear q233; try clear q237; try clear q238
         obtain ⟨x8_3, x228000_3, u228000, rfl, HA, HK3, HO_228000, BK227, HB⟩ := hrel
         cases gk with
         | zero => exact absurd HA.out (by simp [tontinelaw2_WireBack.l1])
         | succ k3 =>
          have H := HA.out; clear HA
          simp only [tontinelaw2_WireBack.l1] at H
          by_cases c25 : x8_3 < (l1.length : Int)
          ·
           rw [if_pos c25] at H
           have c25b0 : decide (x8_3 < (l1.length : Int)) = true := decide_eq_true c25
           clear c25
           by_cases c26 : 0 ≤ x8_3
           ·
            rw [if_pos c26] at H
            have c26b0 : decide (0 ≤ x8_3) = true := decide_eq_true c26
            clear c26
            replace H := Option.bind_eq_some_iff.mp H
            obtain ⟨t240, A270, H⟩ := H
            have A27 := Goto.m0 A270
            clear A270
            have H' := Goto.m0 H
            clear H
            have p239 : 0 ≤ (x8_3 : Int) := Goto.od
            have q239 : x8_3 < (l1.length : Int) := Goto.od
            obtain ⟨ad239, e239, hx239_0⟩ := Kd.at_int HR1.out x8_3 p239 q239
            cases e239
            replace hx239_0 := Goto.kc HB.out hx239_0
            replace p239 := eq_true p239; replace q239 := eq_true q239
            go_wp2_with (first | ((with_reducible refine gate_callee (f := 12) rfl ?_); refine goesL_ (some 74) rfl rfl Try.func12 (by kernel_rfl) rfl #[.pointer (some ⟨gb227, 0, none⟩), .int .u64 (rd l1 x8_3)] rfl (by (try simp only [List.map_toArray, List.map_cons, List.map_nil]); first | done | rfl | (simp only [List.length_drop, List.length_take]; rfl)) ?_; (with_reducible refine (wire_Writer_Bits.calls k3 gb227 (fun k_ => some k_ = (u228000 : Value).ownBlock) u228000 x228000_3 (rd l1 x8_3) t240 w _ ?side1 ?side2 ?side3 ?side4 A27.out).mono ?_); (case side1 => exact by (with_reducible repeat first | refine blk_drewN ?_ _ | refine blk_drew ?_ | refine blk_alloc ?_ _); exact BK227.out); (case side2 => exact GE227.out); (case side3 => repeat (first | (with_reducible first | exact HB.out | apply below_alloc | apply pw_below_drewN | apply below_drew1 | refine below_set ?_ GE227.out) | exact HB.out)); (case side4 => exact Kd.R_tight rfl HO_228000.out); rintro e w28 ⟨v241, rfl, ho0, hi, hb, hkp⟩; refine ⟨_, rfl, ?_⟩; have n0_ := Goto.m0 (hi); have n1_ := Goto.m0 (Kd.R_mono (ok' := fun k_ => True) ho0 (fun k_ hk_ => trivial)); have n2_ := Goto.m0 (hb); clear BK227; clear HB; clear HO_228000; have BK227 := n0_; have HO242 := n1_; have HB := n2_; clear n0_ n1_ n2_; (try clear hb); (try clear hkp); (try clear ho0)))
            go_roundg k3
            case measure => have := HJ4.out; have := HK2.out; have := HK3.out; omega
            case rel => exact ⟨(wrap64 (x8_3 + 1)), (t240), (v241), (by first | rfl | (simp; done) | (simp [*]; done)), H', ⟨by have := HJ4.out; have := HK2.out; have := HK3.out; omega⟩, ⟨Goto.rk HO242⟩, ⟨Goto.bx BK227⟩, ⟨Goto.hx HB⟩⟩
           ·
            rw [if_neg c26] at H
            exact absurd H (by simp)
          ·
           rw [if_neg c25] at H
           have c25b0 : decide (x8_3 < (l1.length : Int)) = false := decide_eq_false c25
           clear c25
           replace H := Option.bind_eq_some_iff.mp H
           obtain ⟨⟨t243, t244⟩, A290, H⟩ := H
           replace H : ((wire_Of.f t243).bind fun bt246 => ((wire_Writer_String.f t244).bind fun bt248 => (if (bt248.1.size : Int) = (wrap64 (x6_2 + (wrap64 (8 * (l1.length : Int))))) then (tontinelaw2_WireBack.l2 k3 l0 l1 0 bt246.1 bt246.2) else (some false)))) = some r := H
           have A29 := Goto.m0 A290
           clear A290
           replace H := Option.bind_eq_some_iff.mp H
           obtain ⟨⟨t246, t247⟩, A300, H⟩ := H
           replace H : ((wire_Writer_String.f t244).bind fun bt248 => (if (bt248.1.size : Int) = (wrap64 (x6_2 + (wrap64 (8 * (l1.length : Int))))) then (tontinelaw2_WireBack.l2 k3 l0 l1 0 t246 t247) else (some false))) = some r := H
           have A30 := Goto.m0 A300
           clear A300
           replace H := Option.bind_eq_some_iff.mp H
           obtain ⟨⟨t248, t249⟩, A310, H⟩ := H
           replace H : (if (t248.size : Int) = (wrap64 (x6_2 + (wrap64 (8 * (l1.length : Int))))) then (tontinelaw2_WireBack.l2 k3 l0 l1 0 t246 t247) else (some false)) = some r := H
           have A31 := Goto.m0 A310
           clear A310
           by_cases c32 : (t248.size : Int) = (wrap64 (x6_2 + (wrap64 (8 * (l1.length : Int)))))
           ·
            rw [if_pos c32] at H
            have c32b0 : ((t248.size : Int) == (wrap64 (x6_2 + (wrap64 (8 * (l1.length : Int)))))) = true := beq_iff_eq.mpr c32
            have c32b1 : ((t248.size : Int) != (wrap64 (x6_2 + (wrap64 (8 * (l1.length : Int)))))) = false := bne_eq_false_iff_eq.mpr c32
            clear c32
            have H' := Goto.m0 H
            clear H
            go_wp2_with (first | ((with_reducible refine gate_callee (f := 14) rfl ?_); refine goesL_ (some 76) rfl rfl Try.func14 (by kernel_rfl) rfl #[.pointer (some ⟨gb227, 0, none⟩)] rfl (by (try simp only [List.map_toArray, List.map_cons, List.map_nil]); first | done | rfl | (simp only [List.length_drop, List.length_take]; rfl)) ?_; (with_reducible refine (wire_Writer_String.calls gb227 (fun k_ => some k_ = (u228000 : Value).ownBlock) u228000 x228000_3 t243 t244 w _ ?side1 ?side2 ?side3 ?side4 A29.out).mono ?_); (case side1 => exact by (with_reducible repeat first | refine blk_drewN ?_ _ | refine blk_drew ?_ | refine blk_alloc ?_ _); exact BK227.out); (case side2 => exact GE227.out); (case side3 => repeat (first | (with_reducible first | exact HB.out | apply below_alloc | apply pw_below_drewN | apply below_drew1 | refine below_set ?_ GE227.out) | exact HB.out)); (case side4 => exact Kd.R_tight rfl HO_228000.out); rintro e w33 ⟨rfl, hi, hy0, hb, hkp⟩; refine ⟨_, rfl, ?_⟩; replace HO_228000 := Goto.m0 (Kd.R_reok rfl hy0 (fun k_ e_ => HO_228000.out.1 k_ e_)); replace BK227 := Goto.m0 (hi); replace HB := Goto.m0 (hb); (try clear hb); (try clear hkp); (try clear hy0)) | ((with_reducible refine gate_callee (f := 13) rfl ?_); refine goesL_ (some 77) rfl rfl Try.func13 (by kernel_rfl) rfl #[.string t243] rfl (by (try simp only [List.map_toArray, List.map_cons, List.map_nil]); first | done | rfl | (simp only [List.length_drop, List.length_take]; rfl)) ?_; (with_reducible refine (wire_Of.calls t243 t246 t247 _ A30.out).mono ?_); rintro e w34 ⟨gb245, rfl, hi, hge, hb⟩; refine ⟨_, rfl, ?_⟩; have BK245 := Goto.m0 (hi); have GW245 := Goto.m0 ((Nat.le_trans (below_size (Goto.hx HB)) hge : w.heap.size ≤ gb245)); have GE245 := Goto.m0 ((Nat.le_trans (below_size (Goto.hx HB)) hge : w.heap.size ≤ gb245)); have NB227_245 := Goto.m0 ((Nat.ne_of_lt (Nat.lt_of_lt_of_le (blk_lt (g := gb227) (o := .cells #[u228000] 65 (0, 0)) (Goto.bx BK227)) hge) : gb227 ≠ gb245)); have NB245_227 := Goto.m0 ((Nat.ne_of_gt (Nat.lt_of_lt_of_le (blk_lt (g := gb227) (o := .cells #[u228000] 65 (0, 0)) (Goto.bx BK227)) hge) : gb245 ≠ gb227)); replace HO_228000 := Goto.m0 (Kd.R_below (Goto.rk HO_228000) hb); replace BK227 := Goto.bb BK227 hb; replace HB := Goto.hs HB hb; (try clear hb); (try clear hi); (try clear hge); (try simp only [errW_none, errW_some])) | ((with_reducible refine gate_callee (f := 14) rfl ?_); refine goesL_ (some 79) rfl rfl Try.func14 (by kernel_rfl) rfl #[.pointer (some ⟨gb227, 0, none⟩)] rfl (by (try simp only [List.map_toArray, List.map_cons, List.map_nil]); first | done | rfl | (simp only [List.length_drop, List.length_take]; rfl)) ?_; (with_reducible refine (wire_Writer_String.calls gb227 (fun k_ => some k_ = (u228000 : Value).ownBlock) u228000 t244 t248 t249 w _ ?side1 ?side2 ?side3 ?side4 A31.out).mono ?_); (case side1 => exact by (with_reducible repeat first | refine blk_drewN ?_ _ | refine blk_drew ?_ | refine blk_alloc ?_ _); exact BK227.out); (case side2 => exact GE227.out); (case side3 => repeat (first | (with_reducible first | exact HB.out | apply below_alloc | apply pw_below_drewN | apply below_drew1 | refine below_set ?_ GE227.out | refine below_set ?_ GE245.out) | exact HB.out)); (case side4 => exact Kd.R_tight rfl HO_228000.out); rintro e w35 ⟨rfl, hi, hy0, hb, hkp⟩; refine ⟨_, rfl, ?_⟩; replace BK227 := Goto.m0 (hi); replace BK245 := Goto.m0 (blk_kept (Goto.bx BK245) hkp (fun hs_ => Or.elim hs_ (fun hs_ => (fun e_ => (Kd.R_ne HO_228000.out BK245.out (by decide)) e_) hs_) (fun e_ => NB245_227.out e_))); replace HO_228000 := Goto.m0 (Kd.R_reok rfl hy0 (fun k_ e_ => HO_228000.out.1 k_ e_)); replace HB := Goto.m0 (hb); (try clear hb); (try clear hkp); (try clear hy0)))
            go_loopg [10] k3 (fun kq v10 w' => ∃ (x10_4 : Int) (x246000_4 : ByteArray) (x246001_4 : Option Int), v10 = .int .i64 x10_4 ∧ Aside0 (tontinelaw2_WireBack.l2 kq l0 l1 x10_4 x246000_4 x246001_4 = some r) ∧ Aside0 (kq ≤ k3) ∧ Aside0 (Kd.R (Kd.int .u8) 5 w' w.heap.size (fun _ => True) u228000 t249) ∧ Aside0 (w'.heap[gb227]? = some (.cells #[u228000] 65 (0, 0))) ∧ Aside0 (w'.heap[gb245]? = some (.cells #[.string x246000_4, errW x246001_4] 68 (0, 0))) ∧ Aside0 (Below w.heap.size w w'))
            case atStart => exact ⟨(0), (t246), (t247), (by first | rfl | (simp; done) | (simp [*]; done)), H', ⟨Nat.le_refl _⟩, ⟨Goto.rk HO_228000⟩, ⟨Goto.bx BK227⟩, ⟨Goto.bx BK245⟩, ⟨Goto.hx HB⟩⟩
            case round =>
             clear H'
             try clear c1; try clear c2; try clear p2; try clear q2; try clear hx2; try clear c3; try clear c4; try clear p6; try clear c7; try clear c7b0; try clear c7b1; try clear c8; try clear c9; try clear c10; try clear c11; try clear c11b0; try clear c12; try clear c13; try clear c13b0; try clear c14; try clear c14b0; try clear c15; try clear c16; try clear c16b0; try clear c17; try clear c17b0; try clear c21; try clear c21b0; try clear c22; try clear c22b0; try clear c23; try clear c23b0; try clear p23; try clear q23; try clear hx23; try clear c24; try clear c24b0; try clear c25; try clear c25b0; try clear c26; try clear c26b0; try clear c32; try clear c32b0; try clear c32b1; try clear hx231_0; try clear hx232_0; try clear hx233_0; try clear hx237_0; try clear hx238_0; try clear hx239_0; try clear p2; try clear p23; try clear p231; try clear p232; try clear p233; try clear p237; try clear p238; try clear p239; try clear p6; try clear q2; try clear q23; try clear q231; try clear q232; try clear q233; try clear q237; try clear q238; try clear q239
             obtain ⟨x10_4, x246000_4, x246001_4, rfl, HA, HK4, HO_228000, BK227, BK245, HB⟩ := hrel
             cases gk with
             | zero => exact absurd HA.out (by simp [tontinelaw2_WireBack.l2])
             | succ k4 =>
              have H := HA.out; clear HA
              simp only [tontinelaw2_WireBack.l2] at H
              by_cases c36 : x10_4 < (l0.length : Int)
              ·
               rw [if_pos c36] at H
               have c36b0 : decide (x10_4 < (l0.length : Int)) = true := decide_eq_true c36
               clear c36
               replace H := Option.bind_eq_some_iff.mp H
               obtain ⟨⟨t250, t251, t252⟩, A370, H⟩ := H
               replace H : (if 0 ≤ x10_4 then (if t250 = (rd l0 x10_4) then (tontinelaw2_WireBack.l2 k4 l0 l1 (wrap64 (x10_4 + 1)) t251 t252) else (some false)) else (none)) = some r := H
               have A37 := Goto.m0 A370
               clear A370
               by_cases c38 : 0 ≤ x10_4
               ·
                rw [if_pos c38] at H
                have c38b0 : decide (0 ≤ x10_4) = true := decide_eq_true c38
                clear c38
                by_cases c39 : t250 = (rd l0 x10_4)
                ·
                 rw [if_pos c39] at H
                 have c39b0 : (t250 == (rd l0 x10_4)) = true := beq_iff_eq.mpr c39
                 have c39b1 : (t250 != (rd l0 x10_4)) = false := bne_eq_false_iff_eq.mpr c39
                 clear c39
                 have H' := Goto.m0 H
                 clear H
                 try go_wp2
                 replace HO_228000 := Goto.m0 (Kd.R_drew HO_228000.out); replace BK227 := Goto.m0 (blk_drew BK227.out); replace BK245 := Goto.m0 (blk_drew BK245.out); replace HB := Goto.m0 (below_drew1 HB.out)
                 have p253 : 0 ≤ (x10_4 : Int) := Goto.od
                 have q253 : x10_4 < (l0.length : Int) := Goto.od
                 obtain ⟨ad253, e253, hx253_0⟩ := Kd.at_int HR0.out x10_4 p253 q253
                 have hw253_0 := hx253_0
                 cases e253
                 replace hx253_0 := Goto.kc HB.out hx253_0
                 replace p253 := eq_true p253; replace q253 := eq_true q253
                 refine start_ (n := 7) (S := fun w' => w'.cell? (ad253.add (x10_4).toNat) = some (.int .i64 (rd l0 x10_4))) (ds := []) #[false, false, false, false, false, false, false] (by kernel_rfl) rfl rfl ((Goto.kc HB.out hw253_0)) (fun hHeld => ?_)
                 generalize wr.drew = w40 at HO_228000 BK227 BK245 HB hx253_0 hHeld ⊢
                 refine pure_ (i := 0) (N := some 93) (v := ?_) (a' := ?_) #[true, false, false, false, false, false, false] rfl rfl (by kernel_rfl) (fun _ _ _ h => h) (Or.inl ⟨by rfl, ?_⟩) ?_ ?_
                 rotate_left
                 ·
                  intro w'
                  go_simp
                  with_reducible rfl
                 rotate_left
                 ·
                  exact Goto.ap
                 refine pure_ (i := 2) (N := some 95) (v := ?_) (a' := ?_) #[true, false, true, false, false, false, false] rfl rfl (by kernel_rfl) (fun _ _ _ h => h) (Or.inl ⟨by rfl, ?_⟩) ?_ ?_
                 rotate_left
                 ·
                  intro w'
                  go_simp
                  with_reducible rfl
                 rotate_left
                 ·
                  exact Goto.ap
                 refine pure_ (i := 3) (N := some 96) (v := ?_) (a' := ?_) #[true, false, true, true, false, false, false] rfl rfl (by kernel_rfl) (fun _ _ _ h => h) (Or.inl ⟨by rfl, ?_⟩) ?_ ?_
                 rotate_left
                 ·
                  intro w'
                  go_simp
                  with_reducible rfl
                 rotate_left
                 ·
                  exact Goto.ap
                 refine pure_ (i := 4) (N := some 97) (v := ?_) (a' := ?_) #[true, false, true, true, true, false, false] rfl rfl (by kernel_rfl) (fun _ _ _ h => h) (Or.inl ⟨by rfl, ?_⟩) ?_ ?_
                 rotate_left
                 ·
                  intro w'
                  go_simp
                  with_reducible rfl
                 rotate_left
                 ·
                  exact Goto.ap
                 refine take_ (i := 5) (N := some 98) (v := ?_) (a' := ?_) #[true, false, true, true, true, true, false] rfl rfl (by kernel_rfl) (fun _ _ _ h => h) (Or.inl ⟨by rfl, ?_⟩) hHeld ?_ ?_
                 rotate_left
                 ·
                  intro w' s0
                  go_simp
                  with_reducible rfl
                 rotate_left
                 ·
                  exact Goto.ap
                 refine one_ (i := 1) (N := some 94) #[true, true, true, true, true, true, false] rfl rfl (by kernel_rfl) (by decide) (fun K hK => ?_)
                 refine goes_ Try.func15 (by kernel_rfl) rfl #[.pointer (some ⟨gb245, 0, none⟩), .int .i64 1048576] (by rfl) rfl rfl (by (try simp only [List.map_toArray, List.map_cons, List.map_nil]); first | done | rfl | (simp only [List.length_drop, List.length_take]; rfl)) ?_
                 with_reducible refine (wire_Reader_Num.calls k4 gb245 x246000_4 x246001_4 1048576 t250 t251 t252 w _ ?side1 ?side2 ?side3 A37.out).mono ?_
                 (case side1 => exact by (with_reducible repeat first | refine blk_drewN ?_ _ | refine blk_drew ?_ | refine blk_alloc ?_ _); exact BK245.out)
                 (case side2 => exact GE245.out)
                 (case side3 => repeat (first | (with_reducible first | exact HB.out | apply below_alloc | apply pw_below_drewN | apply below_drew1 | refine below_set ?_ GE227.out | refine below_set ?_ GE245.out) | exact HB.out))
                 rintro e w41 ⟨rfl, hi, hb, hkp⟩
                 refine ⟨_, rfl, ?_⟩
                 replace HO_228000 := Goto.m0 (Kd.R_mono (ok' := fun k_ => True) (Kd.R_keptB ((Kd.R_types HO_228000.out BK245.out (by decide))) hkp (fun k_ hk_ hs_ => Or.elim hs_ (fun hs_ => False.elim (show False from hs_)) (fun e_ => (hk_.2) e_))) (fun k_ hk_ => trivial)); replace BK227 := Goto.m0 (blk_kept (Goto.bx BK227) hkp (fun hs_ => Or.elim hs_ (fun hs_ => False.elim (show False from hs_)) (fun e_ => NB227_245.out e_))); replace BK245 := Goto.m0 (hi); replace HB := Goto.m0 (hb)
                 (try clear hb)
                 (try clear hkp)
                 (try simp only [errW_none, errW_some])
                 refine hK.out _ _ ((Goto.kc HB.out hw253_0)) (fun hHeld => ?_)
                 clear hK K
                 refine norm_ (a' := ?_) ?_ ?_
                 rotate_left
                 ·
                  show Act.put _ (some 94) _ = _
                  exact Goto.ap
                 refine pure_ (i := 6) (N := some 99) (v := ?_) (a' := ?_) #[true, true, true, true, true, true, true] rfl rfl (by kernel_rfl) (fun _ _ _ h => h) (Or.inl ⟨by rfl, ?_⟩) ?_ ?_
                 rotate_left
                 ·
                  intro w'
                  go_simp
                  with_reducible rfl
                 rotate_left
                 ·
                  exact Goto.ap
                 refine done_ (by kernel_rfl) ?_
                 try go_wp2
                 go_roundg k4
                 case measure => have := HJ4.out; have := HK2.out; have := HK3.out; have := HK4.out; omega
                 case rel => exact ⟨(wrap64 (x10_4 + 1)), (t251), (t252), (by first | rfl | (simp; done) | (simp [*]; done)), H', ⟨by have := HJ4.out; have := HK2.out; have := HK3.out; have := HK4.out; omega⟩, ⟨Goto.rk HO_228000⟩, ⟨Goto.bx BK227⟩, ⟨Goto.bx BK245⟩, ⟨Goto.hx HB⟩⟩
                ·
                 rw [if_neg c39] at H
                 have c39b0 : (t250 == (rd l0 x10_4)) = false := beq_eq_false_iff_ne.mpr c39
                 have c39b1 : (t250 != (rd l0 x10_4)) = true := bne_iff_ne.mpr c39
                 exact absurd ((Option.some.inj H).trans HRT.out) (by decide)
               ·
                rw [if_neg c38] at H
                exact absurd H (by simp)
              ·
               rw [if_neg c36] at H
               have c36b0 : decide (x10_4 < (l0.length : Int)) = false := decide_eq_false c36
               clear c36
               have H' := Goto.m0 H
               clear H
               go_wp2
               go_loopg [11] k4 (fun kq v11 w' => ∃ (x11_5 : Int) (x246000_5 : ByteArray) (x246001_5 : Option Int), v11 = .int .i64 x11_5 ∧ Aside0 (tontinelaw2_WireBack.l3 kq l1 x11_5 x246000_5 x246001_5 = some r) ∧ Aside0 (kq ≤ k4) ∧ Aside0 (Kd.R (Kd.int .u8) 5 w' w.heap.size (fun _ => True) u228000 t249) ∧ Aside0 (w'.heap[gb227]? = some (.cells #[u228000] 65 (0, 0))) ∧ Aside0 (w'.heap[gb245]? = some (.cells #[.string x246000_5, errW x246001_5] 68 (0, 0))) ∧ Aside0 (Below w.heap.size w w'))
               case atStart => exact ⟨(0), (x246000_4), (x246001_4), (by first | rfl | (simp; done) | (simp [*]; done)), H', ⟨Nat.le_refl _⟩, ⟨Goto.rk HO_228000⟩, ⟨Goto.bx BK227⟩, ⟨Goto.bx BK245⟩, ⟨Goto.hx HB⟩⟩
               case round =>
                clear H'
                try clear c1; try clear c2; try clear p2; try clear q2; try clear hx2; try clear c3; try clear c4; try clear p6; try clear c7; try clear c7b0; try clear c7b1; try clear c8; try clear c9; try clear c10; try clear c11; try clear c11b0; try clear c12; try clear c13; try clear c13b0; try clear c14; try clear c14b0; try clear c15; try clear c16; try clear c16b0; try clear c17; try clear c17b0; try clear c21; try clear c21b0; try clear c22; try clear c22b0; try clear c23; try clear c23b0; try clear p23; try clear q23; try clear hx23; try clear c24; try clear c24b0; try clear c25; try clear c25b0; try clear p25; try clear q25; try clear hx25; try clear c26; try clear c26b0; try clear c32; try clear c32b0; try clear c32b1; try clear c36; try clear c36b0; try clear c38; try clear c38b0; try clear c39; try clear c39b0; try clear c39b1; try clear hx231_0; try clear hx232_0; try clear hx233_0; try clear hx237_0; try clear hx238_0; try clear hx239_0; try clear hx253_0; try clear p2; try clear p23; try clear p231; try clear p232; try clear p233; try clear p237; try clear p238; try clear p239; try clear p253; try clear p6; try clear q2; try clear q23; try clear q231; try clear q232; try clear q233; try clear q237; try clear q238; try clear q239; try clear q253
                obtain ⟨x11_5, x246000_5, x246001_5, rfl, HA, HK5, HO_228000, BK227, BK245, HB⟩ := hrel
                cases gk with
                | zero => exact absurd HA.out (by simp [tontinelaw2_WireBack.l3])
                | succ k5 =>
                 have H := HA.out; clear HA
                 simp only [tontinelaw2_WireBack.l3] at H
                 by_cases c42 : x11_5 < (l1.length : Int)
                 ·
                  rw [if_pos c42] at H
                  have c42b0 : decide (x11_5 < (l1.length : Int)) = true := decide_eq_true c42
                  clear c42
                  replace H := Option.bind_eq_some_iff.mp H
                  obtain ⟨⟨t254, t255, t256⟩, A430, H⟩ := H
                  replace H : (if 0 ≤ x11_5 then (if t254 = (rd l1 x11_5) then (tontinelaw2_WireBack.l3 k5 l1 (wrap64 (x11_5 + 1)) t255 t256) else (some false)) else (none)) = some r := H
                  have A43 := Goto.m0 A430
                  clear A430
                  by_cases c44 : 0 ≤ x11_5
                  ·
                   rw [if_pos c44] at H
                   have c44b0 : decide (0 ≤ x11_5) = true := decide_eq_true c44
                   clear c44
                   by_cases c45 : t254 = (rd l1 x11_5)
                   ·
                    rw [if_pos c45] at H
                    have c45b0 : (t254 == (rd l1 x11_5)) = true := beq_iff_eq.mpr c45
                    have c45b1 : (t254 != (rd l1 x11_5)) = false := bne_eq_false_iff_eq.mpr c45
                    clear c45
                    have H' := Goto.m0 H
                    clear H
                    try go_wp2
                    replace HO_228000 := Goto.m0 (Kd.R_drew HO_228000.out); replace BK227 := Goto.m0 (blk_drew BK227.out); replace BK245 := Goto.m0 (blk_drew BK245.out); replace HB := Goto.m0 (below_drew1 HB.out)
                    have p257 : 0 ≤ (x11_5 : Int) := Goto.od
                    have q257 : x11_5 < (l1.length : Int) := Goto.od
                    obtain ⟨ad257, e257, hx257_0⟩ := Kd.at_int HR1.out x11_5 p257 q257
                    have hw257_0 := hx257_0
                    cases e257
                    replace hx257_0 := Goto.kc HB.out hx257_0
                    replace p257 := eq_true p257; replace q257 := eq_true q257
                    refine start_ (n := 7) (S := fun w' => w'.cell? (ad257.add (x11_5).toNat) = some (.int .u64 (rd l1 x11_5))) (ds := []) #[false, false, false, false, false, false, false] (by kernel_rfl) rfl rfl ((Goto.kc HB.out hw257_0)) (fun hHeld => ?_)
                    generalize wr.drew = w46 at HO_228000 BK227 BK245 HB hx257_0 hHeld ⊢
                    refine pure_ (i := 0) (N := some 106) (v := ?_) (a' := ?_) #[true, false, false, false, false, false, false] rfl rfl (by kernel_rfl) (fun _ _ _ h => h) (Or.inl ⟨by rfl, ?_⟩) ?_ ?_
                    rotate_left
                    ·
                     intro w'
                     go_simp
                     with_reducible rfl
                    rotate_left
                    ·
                     exact Goto.ap
                    refine pure_ (i := 2) (N := some 108) (v := ?_) (a' := ?_) #[true, false, true, false, false, false, false] rfl rfl (by kernel_rfl) (fun _ _ _ h => h) (Or.inl ⟨by rfl, ?_⟩) ?_ ?_
                    rotate_left
                    ·
                     intro w'
                     go_simp
                     with_reducible rfl
                    rotate_left
                    ·
                     exact Goto.ap
                    refine pure_ (i := 3) (N := some 109) (v := ?_) (a' := ?_) #[true, false, true, true, false, false, false] rfl rfl (by kernel_rfl) (fun _ _ _ h => h) (Or.inl ⟨by rfl, ?_⟩) ?_ ?_
                    rotate_left
                    ·
                     intro w'
                     go_simp
                     with_reducible rfl
                    rotate_left
                    ·
                     exact Goto.ap
                    refine pure_ (i := 4) (N := some 110) (v := ?_) (a' := ?_) #[true, false, true, true, true, false, false] rfl rfl (by kernel_rfl) (fun _ _ _ h => h) (Or.inl ⟨by rfl, ?_⟩) ?_ ?_
                    rotate_left
                    ·
                     intro w'
                     go_simp
                     with_reducible rfl
                    rotate_left
                    ·
                     exact Goto.ap
                    refine take_ (i := 5) (N := some 111) (v := ?_) (a' := ?_) #[true, false, true, true, true, true, false] rfl rfl (by kernel_rfl) (fun _ _ _ h => h) (Or.inl ⟨by rfl, ?_⟩) hHeld ?_ ?_
                    rotate_left
                    ·
                     intro w' s0
                     go_simp
                     with_reducible rfl
                    rotate_left
                    ·
                     exact Goto.ap
                    refine one_ (i := 1) (N := some 107) #[true, true, true, true, true, true, false] rfl rfl (by kernel_rfl) (by decide) (fun K hK => ?_)
                    refine goes_ Try.func16 (by kernel_rfl) rfl #[.pointer (some ⟨gb245, 0, none⟩)] (by rfl) rfl rfl (by (try simp only [List.map_toArray, List.map_cons, List.map_nil]); first | done | rfl | (simp only [List.length_drop, List.length_take]; rfl)) ?_
                    with_reducible refine (wire_Reader_Bits.calls k5 gb245 x246000_5 x246001_5 t254 t255 t256 w _ ?side1 ?side2 ?side3 A43.out).mono ?_
                    (case side1 => exact by (with_reducible repeat first | refine blk_drewN ?_ _ | refine blk_drew ?_ | refine blk_alloc ?_ _); exact BK245.out)
                    (case side2 => exact GE245.out)
                    (case side3 => repeat (first | (with_reducible first | exact HB.out | apply below_alloc | apply pw_below_drewN | apply below_drew1 | refine below_set ?_ GE227.out | refine below_set ?_ GE245.out) | exact HB.out))
                    rintro e w47 ⟨rfl, hi, hb, hkp⟩
                    refine ⟨_, rfl, ?_⟩
                    replace HO_228000 := Goto.m0 (Kd.R_mono (ok' := fun k_ => True) (Kd.R_keptB ((Kd.R_types HO_228000.out BK245.out (by decide))) hkp (fun k_ hk_ hs_ => Or.elim hs_ (fun hs_ => False.elim (show False from hs_)) (fun e_ => (hk_.2) e_))) (fun k_ hk_ => trivial)); replace BK227 := Goto.m0 (blk_kept (Goto.bx BK227) hkp (fun hs_ => Or.elim hs_ (fun hs_ => False.elim (show False from hs_)) (fun e_ => NB227_245.out e_))); replace BK245 := Goto.m0 (hi); replace HB := Goto.m0 (hb)
                    (try clear hb)
                    (try clear hkp)
                    (try simp only [errW_none, errW_some])
                    refine hK.out _ _ ((Goto.kc HB.out hw257_0)) (fun hHeld => ?_)
                    clear hK K
                    refine norm_ (a' := ?_) ?_ ?_
                    rotate_left
                    ·
                     show Act.put _ (some 107) _ = _
                     exact Goto.ap
                    refine pure_ (i := 6) (N := some 112) (v := ?_) (a' := ?_) #[true, true, true, true, true, true, true] rfl rfl (by kernel_rfl) (fun _ _ _ h => h) (Or.inl ⟨by rfl, ?_⟩) ?_ ?_
                    rotate_left
                    ·
                     intro w'
                     go_simp
                     with_reducible rfl
                    rotate_left
                    ·
                     exact Goto.ap
                    refine done_ (by kernel_rfl) ?_
                    try go_wp2
                    go_roundg k5
                    case measure => have := HJ4.out; have := HK2.out; have := HK3.out; have := HK4.out; have := HK5.out; omega
                    case rel => exact ⟨(wrap64 (x11_5 + 1)), (t255), (t256), (by first | rfl | (simp; done) | (simp [*]; done)), H', ⟨by have := HJ4.out; have := HK2.out; have := HK3.out; have := HK4.out; have := HK5.out; omega⟩, ⟨Goto.rk HO_228000⟩, ⟨Goto.bx BK227⟩, ⟨Goto.bx BK245⟩, ⟨Goto.hx HB⟩⟩
                   ·
                    rw [if_neg c45] at H
                    have c45b0 : (t254 == (rd l1 x11_5)) = false := beq_eq_false_iff_ne.mpr c45
                    have c45b1 : (t254 != (rd l1 x11_5)) = true := bne_iff_ne.mpr c45
                    exact absurd ((Option.some.inj H).trans HRT.out) (by decide)
                  ·
                   rw [if_neg c44] at H
                   exact absurd H (by simp)
                 ·
                  rw [if_neg c42] at H
                  have c42b0 : decide (x11_5 < (l1.length : Int)) = false := decide_eq_false c42
                  clear c42
                  replace H := Option.bind_eq_some_iff.mp H
                  obtain ⟨⟨t258, t259, t260⟩, A480, H⟩ := H
                  replace H : (if t258 = 0 then ((wire_Reader_Err.f t259 t260).bind fun bt261 => (if bt261.1.isNone = true then (some true) else (some false))) else (some false)) = some r := H
                  have A48 := Goto.m0 A480
                  clear A480
                  by_cases c49 : t258 = 0
                  ·
                   rw [if_pos c49] at H
                   have c49b0 : (t258 == 0) = true := beq_iff_eq.mpr c49
                   have c49b1 : (t258 != 0) = false := bne_eq_false_iff_eq.mpr c49
                   clear c49
                   replace H := Option.bind_eq_some_iff.mp H
                   obtain ⟨⟨t261, t262, t263⟩, A500, H⟩ := H
                   replace H : (if t261.isNone = true then (some true) else (some false)) = some r := H
                   have A50 := Goto.m0 A500
                   clear A500
                   rcases t261 with _ | q264
                   ·
                    have H1 : (some true) = some r := by rw [if_pos (show (none : Option Int).isNone = true by rfl)] at H; exact H
                    clear H; have H := H1; clear H1
                    try simp only [errW_none, errW_some]
                    obtain rfl := Option.some.inj H
                    go_wp2_with (first | ((with_reducible refine gate_callee (f := 17) rfl ?_); refine goesL_ (some 114) rfl rfl Try.func17 (by kernel_rfl) rfl #[.pointer (some ⟨gb245, 0, none⟩)] rfl (by (try simp only [List.map_toArray, List.map_cons, List.map_nil]); first | done | rfl | (simp only [List.length_drop, List.length_take]; rfl)) ?_; (with_reducible refine (wire_Reader_Left.calls gb245 x246000_5 x246001_5 t258 t259 t260 w _ ?side1 ?side2 ?side3 A48.out).mono ?_); (case side1 => exact by (with_reducible repeat first | refine blk_drewN ?_ _ | refine blk_drew ?_ | refine blk_alloc ?_ _); exact BK245.out); (case side2 => exact GE245.out); (case side3 => repeat (first | (with_reducible first | exact HB.out | apply below_alloc | apply pw_below_drewN | apply below_drew1 | refine below_set ?_ GE227.out | refine below_set ?_ GE245.out) | exact HB.out)); rintro e w51 ⟨rfl, hi, hb, hkp⟩; refine ⟨_, rfl, ?_⟩; replace HO_228000 := Goto.m0 (Kd.R_mono (ok' := fun k_ => True) (Kd.R_keptB ((Kd.R_types HO_228000.out BK245.out (by decide))) hkp (fun k_ hk_ hs_ => Or.elim hs_ (fun hs_ => False.elim (show False from hs_)) (fun e_ => (hk_.2) e_))) (fun k_ hk_ => trivial)); replace BK227 := Goto.m0 (blk_kept (Goto.bx BK227) hkp (fun hs_ => Or.elim hs_ (fun hs_ => False.elim (show False from hs_)) (fun e_ => NB227_245.out e_))); replace BK245 := Goto.m0 (hi); replace HB := Goto.m0 (hb); (try clear hb); (try clear hkp); (try simp only [errW_none, errW_some])) | (go_at_call 18; (with_reducible refine (wire_Reader_Err.calls gb245 t259 t260 none t262 t263 w _ ?side1 ?side2 ?side3 A50.out).mono ?_); (case side1 => exact by (with_reducible repeat first | refine blk_drewN ?_ _ | refine blk_drew ?_ | refine blk_alloc ?_ _); exact BK245.out); (case side2 => exact GE245.out); (case side3 => repeat (first | (with_reducible first | exact HB.out | apply below_alloc | apply pw_below_drewN | apply below_drew1 | refine below_set ?_ GE227.out | refine below_set ?_ GE245.out) | exact HB.out)); rintro e w52 ⟨rfl, hi, hb, hkp⟩; replace HO_228000 := Goto.m0 (Kd.R_mono (ok' := fun k_ => True) (Kd.R_keptB ((Kd.R_types HO_228000.out BK245.out (by decide))) hkp (fun k_ hk_ hs_ => Or.elim hs_ (fun hs_ => False.elim (show False from hs_)) (fun e_ => (hk_.2) e_))) (fun k_ hk_ => trivial)); replace BK227 := Goto.m0 (blk_kept (Goto.bx BK227) hkp (fun hs_ => Or.elim hs_ (fun hs_ => False.elim (show False from hs_)) (fun e_ => NB227_245.out e_))); replace BK245 := Goto.m0 (hi); replace HB := Goto.m0 (hb); (try clear hb); (try clear hkp); (try simp only [errW_none, errW_some])))
                    go_ret
                    exact ⟨Goto.er, by repeat (first | (with_reducible first | exact HB.out | apply below_alloc | apply pw_below_drewN | apply below_drew1 | refine below_set ?_ GE227.out | refine below_set ?_ GE245.out) | exact HB.out)⟩
                   ·
                    have H1 : (some false) = some r := by rw [if_neg (show ¬ (some q264).isNone = true by simp)] at H; exact H
                    clear H; have H := H1; clear H1
                    try simp only [errW_none, errW_some]
                    exact absurd ((Option.some.inj H).trans HRT.out) (by decide)
                  ·
                   rw [if_neg c49] at H
                   have c49b0 : (t258 == 0) = false := beq_eq_false_iff_ne.mpr c49
                   have c49b1 : (t258 != 0) = true := bne_iff_ne.mpr c49
                   exact absurd ((Option.some.inj H).trans HRT.out) (by decide)
           ·
            rw [if_neg c32] at H
            have c32b0 : ((t248.size : Int) == (wrap64 (x6_2 + (wrap64 (8 * (l1.length : Int)))))) = false := beq_eq_false_iff_ne.mpr c32
            have c32b1 : ((t248.size : Int) != (wrap64 (x6_2 + (wrap64 (8 * (l1.length : Int)))))) = true := bne_iff_ne.mpr c32
            exact absurd ((Option.some.inj H).trans HRT.out) (by decide)
 ·
  replace c4 := Bool.eq_false_iff.mpr c4
  subst c4
  rw [if_neg (show ¬ (false = true) by decide)] at H
  exact absurd ((Option.some.inj H).trans HRT.out) (by decide)

/-- THE ONE PURE STATEMENT of tontinelaw2_WireBack: yours. -/
def tontinelaw2_WireBack.Pure : Prop := ∀ (l0 : List Int) (l1 : List Int), l0.length ≤ maxLen → l0.length * 8 ≤ 140737488351232 → (∀ x ∈ l0, (Lit.int .i64 x).wf = true) → l1.length ≤ maxLen → l1.length * 8 ≤ 140737488351232 → (∀ x ∈ l1, (Lit.int .u64 x).wf = true) → ∃ k, tontinelaw2_WireBack.f k l0 l1 = some true
theorem tontinelaw2_WireBack.walk (P : tontinelaw2_WireBack.Pure) (a0 : Option Addr) (len0 cap0 : Nat) (z0 : List Int) (a1 : Option Addr) (len1 cap1 : Nat) (z1 : List Int) (w : World) (w0 : (a0 = none ∧ len0 = 0 ∧ cap0 = 0 ∧ z0 = []) ∨ ∃ x, a0 = some x ∧ len0 ≤ cap0 ∧ cap0 ≤ maxLen ∧ z0.length = cap0 ∧ (∀ i, i < z0.length → w.cell? (x.add i) = some (.int .i64 (z0.getD i 0))) ∧ ∀ n ∈ z0, (Lit.int .i64 n).wf = true) (y0 : len0 * 8 ≤ 140737488351232) (w1 : (a1 = none ∧ len1 = 0 ∧ cap1 = 0 ∧ z1 = []) ∨ ∃ x, a1 = some x ∧ len1 ≤ cap1 ∧ cap1 ≤ maxLen ∧ z1.length = cap1 ∧ (∀ i, i < z1.length → w.cell? (x.add i) = some (.int .u64 (z1.getD i 0))) ∧ ∀ n ∈ z1, (Lit.int .u64 n).wf = true) (y1 : len1 * 8 ≤ 140737488351232) :
    Calls Try.prog 3 #[.slice a0 len0 cap0, .slice a1 len1 cap1] w fun e w' => e = .returned (.bool true) ∧ Below w.heap.size w w' := by
 obtain ⟨l0, rfl, hr0, hm0, hw0, hc0⟩ := ReadsInt.ofRowC w0
 obtain ⟨l1, rfl, hr1, hm1, hw1, hc1⟩ := ReadsInt.ofRowC w1
 obtain ⟨k, h⟩ := P l0 l1 hm0 y0 hw0 hm1 y1 hw1
 refine (tontinelaw2_WireBack.calls k _ _ l0 _ _ l1 true rfl w (Kd.C_of_reads (d := (0 : Int)) (h1 := fun _ => rfl) hr0) hc0 (Kd.C_of_reads (d := (0 : Int)) (h1 := fun _ => rfl) hr1) hc1 h).mono ?_
 rintro e w' ⟨rfl, hd⟩
 exact ⟨rfl, hd⟩

end Go.Proofs.Ytiejhnijfgdapaa.P
