/- Printed by a program of this workplace (a turned copy of the kit's optional print), out of the translation; not trusted: Lean checks it. -/
import Derived.Test.YtlmllmbbdlkknaaDoorPx0
import Derived.Test.YtlmllmbbdlkknaaDoorPx3
import Derived.Test.YtlmllmbbdlkknaaDoorPx5
import Derived.Test.YtlmllmbbdlkknaaDoorPx6
import Derived.Test.YtlmllmbbdlkknaaDoorJnt
import Derived.Test.YtlmllmbbdlkknaaDoorSam
import Derived.Test.YtlmllmbbdlkknaaDoorTxt
namespace Go.Proofs.YtlmllmbbdlkknaaDoor.P
open Go.RowKit Go.Proofs.YtlmllmbbdlkknaaDoorW.PrintWords Go.Proofs.YtlmllmbbdlkknaaDoorW.PrintLast Go.Proofs.YtlmllmbbdlkknaaDoorW.PrintMore
attribute [local go_sem] max2_int min2_int max_two min_two max_three min_three max_four min_four   -- for this text's walks alone
set_option linter.unusedVariables false
set_option linter.unusedSimpArgs false

/-! ### tontinelaw24_known: function 7 -/
def tontinelaw24_known.f (k : Nat)  : Option (Bool) := (tontinehelp_Base.f).bind fun bt184 => ((some (([(⟨3, 1, 1, 0, 0, 0⟩ : S35), (⟨3, 2, 1, 13, (-1), 0⟩ : S35)] : List (S35)) : List (S35))).bind fun y193 => (if 0 < (y193.length : Int) then ((trace_Line.f k ((rd_T35 y193 0).f0) ((rd_T35 y193 0).f1) ((rd_T35 y193 0).f2) ((rd_T35 y193 0).f3) ((rd_T35 y193 0).f4) ((rd_T35 y193 0).f5)).bind fun t197 => (if t197.toList = ([51, 32, 114, 117, 110, 32, 49] : List UInt8) then (if 1 < (y193.length : Int) then ((trace_Line.f k ((rd_T35 y193 1).f0) ((rd_T35 y193 1).f1) ((rd_T35 y193 1).f2) ((rd_T35 y193 1).f3) ((rd_T35 y193 1).f4) ((rd_T35 y193 1).f5)).bind fun t199 => (if t199.toList = ([51, 32, 114, 101, 112, 108, 121, 32, 49, 32, 49, 51, 32, 45, 49, 32, 48] : List UInt8) then ((trace_Line.f k 0 0 0 0 0 0).bind fun t200 => (if t200.toList = ([] : List UInt8) then ((ext_13.f y193).bind fun t201 => (if t201.toList = ([51, 32, 114, 117, 110, 32, 49, 10, 51, 32, 114, 101, 112, 108, 121, 32, 49, 32, 49, 51, 32, 45, 49, 32, 48, 10] : List UInt8) then ((ext_11.f y193 y193).bind fun t202 => (if t202 = true then ((ext_11.f y193 ([] : List (S35))).bind fun t203 => (if t203 = true then (some false) else (if 4 ≤ 11728124029610 then (if 1 < (bt184.2.2.2.length : Int) then ((trace_Below.f k bt184.1 bt184.2.1 bt184.2.2.1 bt184.2.2.2 (List.replicate 4 []) ((rd_T46 bt184.2.2.2 1).f0.f0) ((rd_T46 bt184.2.2.2 1).f0.f1)).bind fun t208 => ((tontineref1_SameInts.f k t208 (([0, 1] : List Int))).bind fun t214 => (if t214 = true then (if 0 < (bt184.2.2.2.length : Int) then ((ext_18.f bt184.1 bt184.2.1 bt184.2.2.1 bt184.2.2.2 (([y193] : List (List (S35)))) ((rd_T46 bt184.2.2.2 0).f0.f0) ((rd_T46 bt184.2.2.2 0).f0.f1)).bind fun t219 => (some (t219.toList == ([100, 111, 109, 97, 105, 110, 32, 48, 10, 51, 32, 114, 117, 110, 32, 49, 10, 51, 32, 114, 101, 112, 108, 121, 32, 49, 32, 49, 51, 32, 45, 49, 32, 48, 10] : List UInt8)))) else (none)) else (some false)))) else (none)) else (none)))) else (some false))) else (some false))) else (some false))) else (some false))) else (none)) else (some false))) else (none)))
theorem tontinelaw24_known.mono : ∀ k, LeO (tontinelaw24_known.f k ) (tontinelaw24_known.f (k + 1) ) := by
 intro  k
 unfold tontinelaw24_known.f
 repeat' first
   | (with_reducible exact tontineref1_SameInts.mono _ _ _)
   | (with_reducible exact trace_Below.mono _ _ _ _ _ _ _ _)
   | (with_reducible exact trace_Line.mono _ _ _ _ _ _ _)
   | (with_reducible exact LeO.refl _)
   | (with_reducible exact LeO.none _)
   | (with_reducible refine LeO.ite ?_ ?_)
   | (with_reducible refine LeO.bind ?_ (fun _ => ?_))
   | exact tontineref1_SameInts.mono _ _ _
   | exact trace_Below.mono _ _ _ _ _ _ _ _
   | exact trace_Line.mono _ _ _ _ _ _ _
   | exact LeO.none _
   | refine LeO.ite ?_ ?_
   | refine LeO.bind ?_ (fun _ => ?_)
def tontinelaw24_known.T3 : Bool × List (List Nat × List Nat) := (true, [([], []), ([0], [0]), ([1], [1]), ([2], [2]), ([3], [3]), ([4, 3], [4]), ([5], [5]), ([6, 5], [5, 6]), ([7, 5], [5, 7]), ([8, 5, 5], [5, 8]), ([9, 5], [5, 9]), ([5, 10], [5, 10]), ([11, 9], [11]), ([12], [12]), ([13, 12, 12], [12, 13]), ([14, 12], [12, 14]), ([12, 15], [12, 15]), ([16, 14], [16]), ([17], [17]), ([18, 17, 17], [17, 18]), ([19, 17], [17, 19]), ([17, 20], [17, 20]), ([21, 19], [21]), ([22], [22]), ([22], [22]), ([23, 24, 22, 22], [22, 23, 24]), ([22, 25], [22, 25]), ([26, 25], [26]), ([27], [27]), ([28, 27, 27], [27, 28]), ([29, 27], [27, 29]), ([27, 30], [27, 30]), ([31, 29], [31]), ([32], [32]), ([32], [32]), ([32], [32]), ([35, 32], [32, 35]), ([36, 32], [32, 36]), ([37, 32], [32, 37]), ([38, 32], [32, 38]), ([33, 34, 39, 32, 32], [32, 33, 34, 39]), ([32], [32]), ([40, 41, 40, 32], [32, 40, 41]), ([32, 42], [32, 42]), ([43, 42], [43]), ([44], [44]), ([44], [44]), ([46, 44], [44, 46]), ([44], [44]), ([48, 44], [44, 48]), ([49, 44], [44, 49]), ([50, 44], [44, 50]), ([51, 44], [44, 51]), ([45, 47, 52, 44, 44], [44, 45, 47, 52]), ([53, 44], [44, 53]), ([44, 54], [44, 54]), ([55, 53, 0, 1, 2, 3, 4, 5, 6, 7, 8, 9, 10, 11, 12, 13, 14, 15, 16, 17, 18, 19, 20, 21, 22, 23, 24, 25, 26, 27, 28, 29, 30, 31, 32, 33, 34, 35, 36, 37, 38, 39, 40, 41, 42, 43, 44, 45, 46, 47, 48, 49, 50, 51, 52, 53, 54, 55], [55])])
def tontinelaw24_known.B3 : List Nat := [0, 1, 3, 7, 15, 31, 63, 127, 255, 511, 1023, 2047, 4095, 8191, 16383, 32767, 65535, 131071, 262143, 524287, 1048575, 2097151, 4194303, 8388607, 8388607, 33554431, 67108863, 134217727, 268435455, 536870911, 1073741823, 2147483647, 4294967295, 8589934591, 8589934591, 8589934591, 42949672959, 111669149695, 249108103167, 523986010111, 1099511627775, 8589934591, 4398046511103, 8796093022207, 17592186044415, 35184372088831, 35184372088831, 105553116266495, 35184372088831, 316659348799487, 879609302220799, 2005509209063423, 4257309022748671, 9007199254740991, 18014398509481983, 36028797018963967, 72057594037927935]
theorem tontinelaw24_known.tab3 : rtab .any (opsOf Tryd.f7 3) = tontinelaw24_known.T3 := by kernel_rfl
theorem tontinelaw24_known.bits3 : waitsOk tontinelaw24_known.T3.2 tontinelaw24_known.B3 = true := by kernel_rfl
set_option maxHeartbeats 8000000 in
set_option maxRecDepth 100000 in
theorem tontinelaw24_known.calls (k : Nat)  (r : Bool) (hrt : r = true) (w : World) (hld : Lib.TabIs Tryd.prog w "internal/strconv.uint64pow10" .u64 Lib.pow10Tab) (h : tontinelaw24_known.f k  = some r) :
    Calls Tryd.prog 7 #[] w fun e w' => e = .returned (.bool r) ∧ Below w.heap.size w w' := by
 have hu25 := Tryd.underlying25; have hu35 := Tryd.underlying35; have hu30 := Tryd.underlying30
 have HB := Goto.m0 (Below.refl w.heap.size w)
 have HRT := Goto.m0 hrt
 clear hrt
 have HLD := Goto.m0 hld
 clear hld
 have H : ((tontinehelp_Base.f).bind fun bt184 => ((some (([(⟨3, 1, 1, 0, 0, 0⟩ : S35), (⟨3, 2, 1, 13, (-1), 0⟩ : S35)] : List (S35)) : List (S35))).bind fun y193 => (if 0 < (y193.length : Int) then ((trace_Line.f k ((rd_T35 y193 0).f0) ((rd_T35 y193 0).f1) ((rd_T35 y193 0).f2) ((rd_T35 y193 0).f3) ((rd_T35 y193 0).f4) ((rd_T35 y193 0).f5)).bind fun t197 => (if t197.toList = ([51, 32, 114, 117, 110, 32, 49] : List UInt8) then (if 1 < (y193.length : Int) then ((trace_Line.f k ((rd_T35 y193 1).f0) ((rd_T35 y193 1).f1) ((rd_T35 y193 1).f2) ((rd_T35 y193 1).f3) ((rd_T35 y193 1).f4) ((rd_T35 y193 1).f5)).bind fun t199 => (if t199.toList = ([51, 32, 114, 101, 112, 108, 121, 32, 49, 32, 49, 51, 32, 45, 49, 32, 48] : List UInt8) then ((trace_Line.f k 0 0 0 0 0 0).bind fun t200 => (if t200.toList = ([] : List UInt8) then ((ext_13.f y193).bind fun t201 => (if t201.toList = ([51, 32, 114, 117, 110, 32, 49, 10, 51, 32, 114, 101, 112, 108, 121, 32, 49, 32, 49, 51, 32, 45, 49, 32, 48, 10] : List UInt8) then ((ext_11.f y193 y193).bind fun t202 => (if t202 = true then ((ext_11.f y193 ([] : List (S35))).bind fun t203 => (if t203 = true then (some false) else (if 4 ≤ 11728124029610 then (if 1 < (bt184.2.2.2.length : Int) then ((trace_Below.f k bt184.1 bt184.2.1 bt184.2.2.1 bt184.2.2.2 (List.replicate 4 []) ((rd_T46 bt184.2.2.2 1).f0.f0) ((rd_T46 bt184.2.2.2 1).f0.f1)).bind fun t208 => ((tontineref1_SameInts.f k t208 (([0, 1] : List Int))).bind fun t214 => (if t214 = true then (if 0 < (bt184.2.2.2.length : Int) then ((ext_18.f bt184.1 bt184.2.1 bt184.2.2.1 bt184.2.2.2 (([y193] : List (List (S35)))) ((rd_T46 bt184.2.2.2 0).f0.f0) ((rd_T46 bt184.2.2.2 0).f0.f1)).bind fun t219 => (some (t219.toList == ([100, 111, 109, 97, 105, 110, 32, 48, 10, 51, 32, 114, 117, 110, 32, 49, 10, 51, 32, 114, 101, 112, 108, 121, 32, 49, 32, 49, 51, 32, 45, 49, 32, 48, 10] : List UInt8)))) else (none)) else (some false)))) else (none)) else (none)))) else (some false))) else (some false))) else (some false))) else (some false))) else (none)) else (some false))) else (none)))) = some r := h
 clear h
 replace H := Option.bind_eq_some_iff.mp H
 obtain ⟨⟨t184, t185, t186, t189⟩, A10, H⟩ := H
 replace H : ((some (([(⟨3, 1, 1, 0, 0, 0⟩ : S35), (⟨3, 2, 1, 13, (-1), 0⟩ : S35)] : List (S35)) : List (S35))).bind fun y193 => (if 0 < (y193.length : Int) then ((trace_Line.f k ((rd_T35 y193 0).f0) ((rd_T35 y193 0).f1) ((rd_T35 y193 0).f2) ((rd_T35 y193 0).f3) ((rd_T35 y193 0).f4) ((rd_T35 y193 0).f5)).bind fun t197 => (if t197.toList = ([51, 32, 114, 117, 110, 32, 49] : List UInt8) then (if 1 < (y193.length : Int) then ((trace_Line.f k ((rd_T35 y193 1).f0) ((rd_T35 y193 1).f1) ((rd_T35 y193 1).f2) ((rd_T35 y193 1).f3) ((rd_T35 y193 1).f4) ((rd_T35 y193 1).f5)).bind fun t199 => (if t199.toList = ([51, 32, 114, 101, 112, 108, 121, 32, 49, 32, 49, 51, 32, 45, 49, 32, 48] : List UInt8) then ((trace_Line.f k 0 0 0 0 0 0).bind fun t200 => (if t200.toList = ([] : List UInt8) then ((ext_13.f y193).bind fun t201 => (if t201.toList = ([51, 32, 114, 117, 110, 32, 49, 10, 51, 32, 114, 101, 112, 108, 121, 32, 49, 32, 49, 51, 32, 45, 49, 32, 48, 10] : List UInt8) then ((ext_11.f y193 y193).bind fun t202 => (if t202 = true then ((ext_11.f y193 ([] : List (S35))).bind fun t203 => (if t203 = true then (some false) else (if 4 ≤ 11728124029610 then (if 1 < (t189.length : Int) then ((trace_Below.f k t184 t185 t186 t189 (List.replicate 4 []) ((rd_T46 t189 1).f0.f0) ((rd_T46 t189 1).f0.f1)).bind fun t208 => ((tontineref1_SameInts.f k t208 (([0, 1] : List Int))).bind fun t214 => (if t214 = true then (if 0 < (t189.length : Int) then ((ext_18.f t184 t185 t186 t189 (([y193] : List (List (S35)))) ((rd_T46 t189 0).f0.f0) ((rd_T46 t189 0).f0.f1)).bind fun t219 => (some (t219.toList == ([100, 111, 109, 97, 105, 110, 32, 48, 10, 51, 32, 114, 117, 110, 32, 49, 10, 51, 32, 114, 101, 112, 108, 121, 32, 49, 32, 49, 51, 32, 45, 49, 32, 48, 10] : List UInt8)))) else (none)) else (some false)))) else (none)) else (none)))) else (some false))) else (some false))) else (some false))) else (some false))) else (none)) else (some false))) else (none))) = some r := H
 have A1 := Goto.m0 A10
 clear A10
 obtain ⟨y193, hy193⟩ : ∃ y_ : List (S35), y_ = (([(⟨3, 1, 1, 0, 0, 0⟩ : S35), (⟨3, 2, 1, 13, (-1), 0⟩ : S35)] : List (S35))) := ⟨_, rfl⟩
 replace H : (if 0 < (y193.length : Int) then ((trace_Line.f k ((rd_T35 y193 0).f0) ((rd_T35 y193 0).f1) ((rd_T35 y193 0).f2) ((rd_T35 y193 0).f3) ((rd_T35 y193 0).f4) ((rd_T35 y193 0).f5)).bind fun t197 => (if t197.toList = ([51, 32, 114, 117, 110, 32, 49] : List UInt8) then (if 1 < (y193.length : Int) then ((trace_Line.f k ((rd_T35 y193 1).f0) ((rd_T35 y193 1).f1) ((rd_T35 y193 1).f2) ((rd_T35 y193 1).f3) ((rd_T35 y193 1).f4) ((rd_T35 y193 1).f5)).bind fun t199 => (if t199.toList = ([51, 32, 114, 101, 112, 108, 121, 32, 49, 32, 49, 51, 32, 45, 49, 32, 48] : List UInt8) then ((trace_Line.f k 0 0 0 0 0 0).bind fun t200 => (if t200.toList = ([] : List UInt8) then ((ext_13.f y193).bind fun t201 => (if t201.toList = ([51, 32, 114, 117, 110, 32, 49, 10, 51, 32, 114, 101, 112, 108, 121, 32, 49, 32, 49, 51, 32, 45, 49, 32, 48, 10] : List UInt8) then ((ext_11.f y193 y193).bind fun t202 => (if t202 = true then ((ext_11.f y193 ([] : List (S35))).bind fun t203 => (if t203 = true then (some false) else (if 4 ≤ 11728124029610 then (if 1 < (t189.length : Int) then ((trace_Below.f k t184 t185 t186 t189 (List.replicate 4 []) ((rd_T46 t189 1).f0.f0) ((rd_T46 t189 1).f0.f1)).bind fun t208 => ((tontineref1_SameInts.f k t208 (([0, 1] : List Int))).bind fun t214 => (if t214 = true then (if 0 < (t189.length : Int) then ((ext_18.f t184 t185 t186 t189 (([y193] : List (List (S35)))) ((rd_T46 t189 0).f0.f0) ((rd_T46 t189 0).f0.f1)).bind fun t219 => (some (t219.toList == ([100, 111, 109, 97, 105, 110, 32, 48, 10, 51, 32, 114, 117, 110, 32, 49, 10, 51, 32, 114, 101, 112, 108, 121, 32, 49, 32, 49, 51, 32, 45, 49, 32, 48, 10] : List UInt8)))) else (none)) else (some false)))) else (none)) else (none)))) else (some false))) else (some false))) else (some false))) else (some false))) else (none)) else (some false))) else (none)) = some r := by first | (rw [hy193]; with_reducible exact H) | (have H2_ := (Option.bind_some _ _).symm.trans H; rw [hy193]; with_reducible exact H2_) | (have H2_ := (Option.bind_some _ _).symm.trans H; with_reducible exact H2_) | with_reducible exact H | (rw [hy193]; exact H) | exact H
 have Ny193 := Goto.m0 hy193
 clear hy193
 by_cases c2 : 0 < (y193.length : Int)
 ·
  rw [if_pos c2] at H
  have c2b0 : decide (0 < (y193.length : Int)) = true := decide_eq_true c2
  have c2b1 : decide (0 < y193.length) = true := decide_eq_true (by omega)
  clear c2
  replace H := Option.bind_eq_some_iff.mp H
  obtain ⟨t197, A30, H⟩ := H
  have A3 := Goto.m0 A30
  clear A30
  by_cases c4 : t197.toList = ([51, 32, 114, 117, 110, 32, 49] : List UInt8)
  ·
   rw [if_pos c4] at H
   have c4b0 : (t197.toList == ([51, 32, 114, 117, 110, 32, 49] : List UInt8)) = true := beq_iff_eq.mpr c4
   have c4b1 : (t197.toList != ([51, 32, 114, 117, 110, 32, 49] : List UInt8)) = false := bne_eq_false_iff_eq.mpr c4
   clear c4
   by_cases c5 : 1 < (y193.length : Int)
   ·
    rw [if_pos c5] at H
    have c5b0 : decide (1 < (y193.length : Int)) = true := decide_eq_true c5
    have c5b1 : decide (1 < y193.length) = true := decide_eq_true (by omega)
    clear c5
    replace H := Option.bind_eq_some_iff.mp H
    obtain ⟨t199, A60, H⟩ := H
    have A6 := Goto.m0 A60
    clear A60
    by_cases c7 : t199.toList = ([51, 32, 114, 101, 112, 108, 121, 32, 49, 32, 49, 51, 32, 45, 49, 32, 48] : List UInt8)
    ·
     rw [if_pos c7] at H
     have c7b0 : (t199.toList == ([51, 32, 114, 101, 112, 108, 121, 32, 49, 32, 49, 51, 32, 45, 49, 32, 48] : List UInt8)) = true := beq_iff_eq.mpr c7
     have c7b1 : (t199.toList != ([51, 32, 114, 101, 112, 108, 121, 32, 49, 32, 49, 51, 32, 45, 49, 32, 48] : List UInt8)) = false := bne_eq_false_iff_eq.mpr c7
     clear c7
     replace H := Option.bind_eq_some_iff.mp H
     obtain ⟨t200, A80, H⟩ := H
     have A8 := Goto.m0 A80
     clear A80
     by_cases c9 : t200.toList = ([] : List UInt8)
     ·
      rw [if_pos c9] at H
      have c9b0 : (t200.toList == ([] : List UInt8)) = true := beq_iff_eq.mpr c9
      have c9b1 : (t200.toList != ([] : List UInt8)) = false := bne_eq_false_iff_eq.mpr c9
      clear c9
      replace H := Option.bind_eq_some_iff.mp H
      obtain ⟨t201, A100, H⟩ := H
      have A10 := Goto.m0 A100
      clear A100
      by_cases c11 : t201.toList = ([51, 32, 114, 117, 110, 32, 49, 10, 51, 32, 114, 101, 112, 108, 121, 32, 49, 32, 49, 51, 32, 45, 49, 32, 48, 10] : List UInt8)
      ·
       rw [if_pos c11] at H
       have c11b0 : (t201.toList == ([51, 32, 114, 117, 110, 32, 49, 10, 51, 32, 114, 101, 112, 108, 121, 32, 49, 32, 49, 51, 32, 45, 49, 32, 48, 10] : List UInt8)) = true := beq_iff_eq.mpr c11
       have c11b1 : (t201.toList != ([51, 32, 114, 117, 110, 32, 49, 10, 51, 32, 114, 101, 112, 108, 121, 32, 49, 32, 49, 51, 32, 45, 49, 32, 48, 10] : List UInt8)) = false := bne_eq_false_iff_eq.mpr c11
       clear c11
       replace H := Option.bind_eq_some_iff.mp H
       obtain ⟨t202, A120, H⟩ := H
       have A12 := Goto.m0 A120
       clear A120
       by_cases c13 : t202 = true
       ·
        subst c13
        rw [if_pos rfl] at H
        replace H := Option.bind_eq_some_iff.mp H
        obtain ⟨t203, A140, H⟩ := H
        have A14 := Goto.m0 A140
        clear A140
        by_cases c15 : t203 = true
        ·
         subst c15
         rw [if_pos rfl] at H
         exact absurd ((Option.some.inj H).trans HRT.out) (by decide)
        ·
         replace c15 := Bool.eq_false_iff.mpr c15
         subst c15
         rw [if_neg (show ¬ (false = true) by decide)] at H
         by_cases c16 : 4 ≤ 11728124029610
         ·
          rw [if_pos c16] at H
          have c16b0 := eq_true c16
          have c16b1 : decide (4 ≤ 11728124029610) = true := decide_eq_true c16
          clear c16
          obtain ⟨y204, hy204⟩ : ∃ y_ : List (List (S35)), y_ = (List.replicate 4 []) := ⟨_, rfl⟩
          replace H : (if 1 < (t189.length : Int) then ((trace_Below.f k t184 t185 t186 t189 y204 ((rd_T46 t189 1).f0.f0) ((rd_T46 t189 1).f0.f1)).bind fun t208 => ((tontineref1_SameInts.f k t208 (([0, 1] : List Int))).bind fun t214 => (if t214 = true then (if 0 < (t189.length : Int) then ((ext_18.f t184 t185 t186 t189 (([y193] : List (List (S35)))) ((rd_T46 t189 0).f0.f0) ((rd_T46 t189 0).f0.f1)).bind fun t219 => (some (t219.toList == ([100, 111, 109, 97, 105, 110, 32, 48, 10, 51, 32, 114, 117, 110, 32, 49, 10, 51, 32, 114, 101, 112, 108, 121, 32, 49, 32, 49, 51, 32, 45, 49, 32, 48, 10] : List UInt8)))) else (none)) else (some false)))) else (none)) = some r := by first | (rw [hy204]; with_reducible exact H) | (have H2_ := (Option.bind_some _ _).symm.trans H; rw [hy204]; with_reducible exact H2_) | (have H2_ := (Option.bind_some _ _).symm.trans H; with_reducible exact H2_) | with_reducible exact H | (rw [hy204]; exact H) | exact H
          have Ny204 := Goto.m0 hy204
          clear hy204
          by_cases c17 : 1 < (t189.length : Int)
          ·
           rw [if_pos c17] at H
           have c17b0 : decide (1 < (t189.length : Int)) = true := decide_eq_true c17
           have c17b1 : decide (1 < t189.length) = true := decide_eq_true (by omega)
           clear c17
           replace H := Option.bind_eq_some_iff.mp H
           obtain ⟨t208, A180, H⟩ := H
           have A18 := Goto.m0 A180
           clear A180
           obtain ⟨y211, hy211⟩ : ∃ y_ : List Int, y_ = (([0, 1] : List Int)) := ⟨_, rfl⟩
           replace H : ((tontineref1_SameInts.f k t208 y211).bind fun t214 => (if t214 = true then (if 0 < (t189.length : Int) then ((ext_18.f t184 t185 t186 t189 (([y193] : List (List (S35)))) ((rd_T46 t189 0).f0.f0) ((rd_T46 t189 0).f0.f1)).bind fun t219 => (some (t219.toList == ([100, 111, 109, 97, 105, 110, 32, 48, 10, 51, 32, 114, 117, 110, 32, 49, 10, 51, 32, 114, 101, 112, 108, 121, 32, 49, 32, 49, 51, 32, 45, 49, 32, 48, 10] : List UInt8)))) else (none)) else (some false))) = some r := by first | (rw [hy211]; with_reducible exact H) | (have H2_ := (Option.bind_some _ _).symm.trans H; rw [hy211]; with_reducible exact H2_) | (have H2_ := (Option.bind_some _ _).symm.trans H; with_reducible exact H2_) | with_reducible exact H | (rw [hy211]; exact H) | exact H
           have Ny211 := Goto.m0 hy211
           clear hy211
           replace H := Option.bind_eq_some_iff.mp H
           obtain ⟨t214, A190, H⟩ := H
           have A19 := Goto.m0 A190
           clear A190
           by_cases c20 : t214 = true
           ·
            subst c20
            rw [if_pos rfl] at H
            obtain ⟨y215, hy215⟩ : ∃ y_ : List (List (S35)), y_ = (([y193] : List (List (S35)))) := ⟨_, rfl⟩
            replace H : (if 0 < (t189.length : Int) then ((ext_18.f t184 t185 t186 t189 y215 ((rd_T46 t189 0).f0.f0) ((rd_T46 t189 0).f0.f1)).bind fun t219 => (some (t219.toList == ([100, 111, 109, 97, 105, 110, 32, 48, 10, 51, 32, 114, 117, 110, 32, 49, 10, 51, 32, 114, 101, 112, 108, 121, 32, 49, 32, 49, 51, 32, 45, 49, 32, 48, 10] : List UInt8)))) else (none)) = some r := by first | (rw [hy215]; with_reducible exact H) | (have H2_ := (Option.bind_some _ _).symm.trans H; rw [hy215]; with_reducible exact H2_) | (have H2_ := (Option.bind_some _ _).symm.trans H; with_reducible exact H2_) | with_reducible exact H | (rw [hy215]; exact H) | exact H
            have Ny215 := Goto.m0 hy215
            clear hy215
            by_cases c21 : 0 < (t189.length : Int)
            ·
             rw [if_pos c21] at H
             have c21b0 : decide (0 < (t189.length : Int)) = true := decide_eq_true c21
             have c21b1 : decide (0 < t189.length) = true := decide_eq_true (by omega)
             clear c21
             replace H := Option.bind_eq_some_iff.mp H
             obtain ⟨t219, A220, H⟩ := H
             have A22 := Goto.m0 A220
             clear A220
             obtain rfl := Option.some.inj H
             go_enter Tryd.func7, Tryd.ntmps7
             try go_wp2_with (first | ((with_reducible refine gate_callee (f := 25) rfl ?_); refine goesL_ (some 3) rfl rfl Tryd.func25 (by kernel_rfl) rfl #[] rfl (by (try simp only [List.map_toArray, List.map_cons, List.map_nil]); first | done | rfl | (simp only [List.length_drop, List.length_take]; rfl)) ?_; (with_reducible refine (tontinehelp_Base.calls  t184 t185 t186 t189 _ A1.out).mono ?_); rintro e w23 ⟨v187, v190, rfl, ho0, ho1, hb⟩; refine ⟨_, rfl, ?_⟩; have HO188 := Goto.m0 (Kd.N_lower (Kd.N_mono (ok' := fun k_ => some k_ ≠ (v190 : Value).ownBlock) ho0 (fun k_ hk_ => hk_.2)) (below_size (Goto.hx HB))); have HO191 := Goto.m0 (Kd.N_lower (Kd.N_mono (ok' := fun k_ => some k_ ≠ (v187 : Value).ownBlock) ho1 (fun k_ hk_ => hk_.2)) (below_size (Goto.hx HB))); replace HB := Goto.hs HB hb; (try clear hb); (try clear hb2); (try clear hk); (try clear hi); (try clear ho0); (try clear ho1)) | ((with_reducible refine gate_dst (N := 1) rfl ?_); (try (refine gate_guard (by rfl) ?_; dsimp only)); refine box_event ?hg (N := 1) ?hd (cs := #[.int .i64 0, .int .i64 0, .slice none 0 0, .slice none 0 0]) (t := 25) ?hr ?_; (case hd => rfl); (case hg => rfl); (case hr => first | (go_simp; done) | (go_simp; rfl)); intro gb192 hg w24 hbox hb; have BK192 := Goto.m0 (hbox); have GW192 := Goto.gs HB hg; have GE192 := Goto.gs HB hg; replace HO188 := Goto.ngN HO188 hg hb; replace HO191 := Goto.ngN HO191 hg hb; replace HB := Goto.hs HB hb; clear hb hbox hg; have hcz25_0 := Goto.bc0 BK192; have hcz25_1 := Goto.bc1 BK192; have hcz25_2 := Goto.bc2 BK192; have hcz25_3 := Goto.bc3 BK192; have hfz25_0 := Goto.bf BK192 0; have hfz25_1 := Goto.bf BK192 1; have hfz25_2 := Goto.bf BK192 2; have hfz25_3 := Goto.bf BK192 3; obtain ⟨Ao26, co26, eo26⟩ := Kd.N_slice HO188.out; subst eo26; obtain ⟨Ao27, co27, eo27⟩ := Kd.N_slice HO191.out; subst eo27) | ((with_reducible refine gate_dst (N := 6) rfl ?_); (try (refine gate_guard (by rfl) ?_; dsimp only)); refine Kd.R_lit k35 _ 35 ?hg (N := 6) ?hd (xs := ([(⟨3, 1, 1, 0, 0, 0⟩ : S35), (⟨3, 2, 1, 13, (-1), 0⟩ : S35)] : List (S35))) (inner := [.int .i64 3, .int .i64 1, .int .i64 1, .int .i64 0, .int .i64 0, .int .i64 0, .int .i64 3, .int .i64 2, .int .i64 1, .int .i64 13, .int .i64 (-1), .int .i64 0]) (ok := fun _ => True) (okp := fun _ => True) ?hr ?hp (fun _ hk => hk) trivial (Below.refl _ _) (Nat.le_refl _) (by simp) ?_; (case hd => rfl); (case hg => rfl); (case hr => first | (go_simp; done) | (go_simp; rfl)); (case hp => exact (Reps.c6 (show Kd.M k35 _ _ _ (⟨3, 1, 1, 0, 0, 0⟩ : S35) [.int .i64 3, .int .i64 1, .int .i64 1, .int .i64 0, .int .i64 0, .int .i64 0] from (k35_mkM _ _ _ (⟨3, 1, 1, 0, 0, 0⟩ : S35) )) (Reps.c6 (show Kd.M k35 _ _ _ (⟨3, 2, 1, 13, (-1), 0⟩ : S35) [.int .i64 3, .int .i64 2, .int .i64 1, .int .i64 13, .int .i64 (-1), .int .i64 0] from (k35_mkM _ _ _ (⟨3, 2, 1, 13, (-1), 0⟩ : S35) )) (Reps.none _ _)))); intro v194 w28 ho29 hb hg_ hnew_; clear hg_ hnew_; (first | rw [← Ny193.out] at ho29 | (simp only [Int.reduceToNat] at ho29; rw [← Ny193.out] at ho29)); have HO195 := Goto.m0 (Kd.R_lower ho29 (below_size (Goto.hx HB))); replace HO188 := Goto.m0 (Kd.N_elder' (Goto.frN HO188) (Kd.R_base ho29) hb); replace HO191 := Goto.m0 (Kd.N_elder' (Goto.frN HO191) (Kd.R_base ho29) hb); replace BK192 := Goto.bp (.cells #[.int .i64 t184, .int .i64 t185, .slice Ao26 t186.length co26, .slice Ao27 t189.length co27] 25 (0, 0)) BK192 hb; replace HB := Goto.hs HB hb; clear hb ho29; obtain ⟨Ao30, co30, eo30⟩ := Kd.R_slice HO195.out; subst eo30))
             replace HO188 := Goto.m0 (Kd.N_drew HO188.out); replace HO191 := Goto.m0 (Kd.N_drew HO191.out); replace HO195 := Goto.m0 (Kd.R_drew HO195.out); replace BK192 := Goto.m0 (blk_drew BK192.out); replace HB := Goto.m0 (below_drew1 HB.out)
             have p196 : 0 ≤ (0 : Int) := (by omega)
             have q196 : 0 < (y193.length : Int) := Goto.od
             obtain ⟨ad196, e196, hx196_0, hx196_1, hx196_2, hx196_3, hx196_4, hx196_5⟩ := at_T35 (Kd.R_reads' HO195.out).2.2 0 p196 q196
             cases e196
             have qi196 : (0 < y193.length) = True := eq_true (by omega)
             (try rw [show ((0 : Int)).toNat = 0 from rfl] at hx196_0)
             (try rw [show 0 * 6 = 0 from rfl] at hx196_0)
             (try rw [Addr.add_zero'] at hx196_0)
             (try rw [show ((0 : Int)).toNat = 0 from rfl] at hx196_1)
             (try rw [show 0 * 6 = 0 from rfl] at hx196_1)
             (try rw [Addr.add_zero'] at hx196_1)
             (try rw [show ((0 : Int)).toNat = 0 from rfl] at hx196_2)
             (try rw [show 0 * 6 = 0 from rfl] at hx196_2)
             (try rw [Addr.add_zero'] at hx196_2)
             (try rw [show ((0 : Int)).toNat = 0 from rfl] at hx196_3)
             (try rw [show 0 * 6 = 0 from rfl] at hx196_3)
             (try rw [Addr.add_zero'] at hx196_3)
             (try rw [show ((0 : Int)).toNat = 0 from rfl] at hx196_4)
             (try rw [show 0 * 6 = 0 from rfl] at hx196_4)
             (try rw [Addr.add_zero'] at hx196_4)
             (try rw [show ((0 : Int)).toNat = 0 from rfl] at hx196_5)
             (try rw [show 0 * 6 = 0 from rfl] at hx196_5)
             (try rw [Addr.add_zero'] at hx196_5)
             replace p196 := eq_true p196; replace q196 := eq_true q196
             have p198 : 0 ≤ (1 : Int) := (by omega)
             have q198 : 1 < (y193.length : Int) := Goto.od
             obtain ⟨ad198, e198, hx198_0, hx198_1, hx198_2, hx198_3, hx198_4, hx198_5⟩ := at_T35 (Kd.R_reads' HO195.out).2.2 1 p198 q198
             obtain rfl : ad196 = ad198 := (by injection e198)
             (try simp only [show (1 : Int).toNat = 1 from rfl, Nat.reduceMul, Nat.reduceEqDiff, Go.Addr.add, ↓reduceIte] at hx198_0)
             (try simp only [show (1 : Int).toNat = 1 from rfl, Nat.reduceMul, Nat.reduceEqDiff, Go.Addr.add, ↓reduceIte] at hx198_1)
             (try simp only [show (1 : Int).toNat = 1 from rfl, Nat.reduceMul, Nat.reduceEqDiff, Go.Addr.add, ↓reduceIte] at hx198_2)
             (try simp only [show (1 : Int).toNat = 1 from rfl, Nat.reduceMul, Nat.reduceEqDiff, Go.Addr.add, ↓reduceIte] at hx198_3)
             (try simp only [show (1 : Int).toNat = 1 from rfl, Nat.reduceMul, Nat.reduceEqDiff, Go.Addr.add, ↓reduceIte] at hx198_4)
             (try simp only [show (1 : Int).toNat = 1 from rfl, Nat.reduceMul, Nat.reduceEqDiff, Go.Addr.add, ↓reduceIte] at hx198_5)
             have qi198 : (1 < y193.length) = True := eq_true (by omega)
             (try rw [show ((1 : Int)).toNat = 1 from rfl] at hx198_0)
             (try rw [show 1 * 6 = 6 from rfl] at hx198_0)
             (try rw [show ((1 : Int)).toNat = 1 from rfl] at hx198_1)
             (try rw [show 1 * 6 = 6 from rfl] at hx198_1)
             (try rw [show ((1 : Int)).toNat = 1 from rfl] at hx198_2)
             (try rw [show 1 * 6 = 6 from rfl] at hx198_2)
             (try rw [show ((1 : Int)).toNat = 1 from rfl] at hx198_3)
             (try rw [show 1 * 6 = 6 from rfl] at hx198_3)
             (try rw [show ((1 : Int)).toNat = 1 from rfl] at hx198_4)
             (try rw [show 1 * 6 = 6 from rfl] at hx198_4)
             (try rw [show ((1 : Int)).toNat = 1 from rfl] at hx198_5)
             (try rw [show 1 * 6 = 6 from rfl] at hx198_5)
             replace p198 := eq_true p198; replace q198 := eq_true q198
             have p207 : 0 ≤ (1 : Int) := (by omega)
             have q207 : 1 < (t189.length : Int) := Goto.od
             obtain ⟨ad207, A207_2, c207_2, A207_3, c207_3, e207, hx207_0, hx207_1, hx207_2, hx207_3, hx207_4, hx207_5, hx207_6, hx207_7, hx207_8, hx207_9, hl207_2, hi207_2, hl207_3, hi207_3⟩ := at_T46 (Kd.N_reads' HO191.out).2.2 1 p207 q207
             cases e207
             obtain ⟨ce207, hce207, hMe207, hcc207⟩ := Kd.N_get HO191.out z46 1 p207 (by first | exact q207 | exact of_decide_eq_true (by first | (with_reducible assumption) | assumption) | (have e_ := (Kd.N_reads' HO191.out).1; omega))
             obtain ⟨ua207_2, uc207_2, ua207_3, uc207_3, rfl, ul207_2, ge207_2, ul207_3, ge207_3⟩ := k46_openF hMe207
             have hv207_2 := hcc207 2 _ rfl
             rw [add_field _ _ 2 (by omega)] at hv207_2
             replace hv207_2 := Option.some.inj (hv207_2.symm.trans hx207_2)
             injection hv207_2 with hva_ hvn_ hvc_
             rw [hva_] at ge207_2
             rw [hvc_] at ul207_2
             have HL207_2 := Goto.m0 (show Kd.V (Kd.slice 3 (Kd.int .i64)) 39 _ w.heap.size _ _ ((rd_T46 t189 1).f1) from Kd.V_mk ul207_2 ge207_2)
             clear hva_ hvn_ hvc_ ge207_2 ul207_2
             have hv207_3 := hcc207 3 _ rfl
             rw [add_field _ _ 3 (by omega)] at hv207_3
             replace hv207_3 := Option.some.inj (hv207_3.symm.trans hx207_3)
             injection hv207_3 with hva_ hvn_ hvc_
             rw [hva_] at ge207_3
             rw [hvc_] at ul207_3
             have HL207_3 := Goto.m0 (show Kd.V (Kd.int .i64) 3 _ w.heap.size _ _ ((rd_T46 t189 1).f2) from Kd.V_mk ul207_3 ge207_3)
             clear hva_ hvn_ hvc_ ge207_3 ul207_3; clear hcc207 hce207
             (try simp only [show (1 : Int).toNat = 1 from rfl, Nat.reduceMul, Nat.reduceEqDiff, Go.Addr.add, ↓reduceIte] at hx207_0)
             (try simp only [show (1 : Int).toNat = 1 from rfl, Nat.reduceMul, Nat.reduceEqDiff, Go.Addr.add, ↓reduceIte] at hx207_1)
             (try simp only [show (1 : Int).toNat = 1 from rfl, Nat.reduceMul, Nat.reduceEqDiff, Go.Addr.add, ↓reduceIte] at hx207_2)
             (try simp only [show (1 : Int).toNat = 1 from rfl, Nat.reduceMul, Nat.reduceEqDiff, Go.Addr.add, ↓reduceIte] at hx207_3)
             (try simp only [show (1 : Int).toNat = 1 from rfl, Nat.reduceMul, Nat.reduceEqDiff, Go.Addr.add, ↓reduceIte] at hx207_4)
             (try simp only [show (1 : Int).toNat = 1 from rfl, Nat.reduceMul, Nat.reduceEqDiff, Go.Addr.add, ↓reduceIte] at hx207_5)
             (try simp only [show (1 : Int).toNat = 1 from rfl, Nat.reduceMul, Nat.reduceEqDiff, Go.Addr.add, ↓reduceIte] at hx207_6)
             (try simp only [show (1 : Int).toNat = 1 from rfl, Nat.reduceMul, Nat.reduceEqDiff, Go.Addr.add, ↓reduceIte] at hx207_7)
             (try simp only [show (1 : Int).toNat = 1 from rfl, Nat.reduceMul, Nat.reduceEqDiff, Go.Addr.add, ↓reduceIte] at hx207_8)
             (try simp only [show (1 : Int).toNat = 1 from rfl, Nat.reduceMul, Nat.reduceEqDiff, Go.Addr.add, ↓reduceIte] at hx207_9)
             have qi207 : (1 < t189.length) = True := eq_true (by omega)
             (try rw [show ((1 : Int)).toNat = 1 from rfl] at hx207_0)
             (try rw [show 1 * 10 = 10 from rfl] at hx207_0)
             (try rw [show ((1 : Int)).toNat = 1 from rfl] at hx207_1)
             (try rw [show 1 * 10 = 10 from rfl] at hx207_1)
             (try rw [show ((1 : Int)).toNat = 1 from rfl] at hx207_2)
             (try rw [show 1 * 10 = 10 from rfl] at hx207_2)
             (try rw [show ((1 : Int)).toNat = 1 from rfl] at hx207_3)
             (try rw [show 1 * 10 = 10 from rfl] at hx207_3)
             (try rw [show ((1 : Int)).toNat = 1 from rfl] at hx207_4)
             (try rw [show 1 * 10 = 10 from rfl] at hx207_4)
             (try rw [show ((1 : Int)).toNat = 1 from rfl] at hx207_5)
             (try rw [show 1 * 10 = 10 from rfl] at hx207_5)
             (try rw [show ((1 : Int)).toNat = 1 from rfl] at hx207_6)
             (try rw [show 1 * 10 = 10 from rfl] at hx207_6)
             (try rw [show ((1 : Int)).toNat = 1 from rfl] at hx207_7)
             (try rw [show 1 * 10 = 10 from rfl] at hx207_7)
             (try rw [show ((1 : Int)).toNat = 1 from rfl] at hx207_8)
             (try rw [show 1 * 10 = 10 from rfl] at hx207_8)
             (try rw [show ((1 : Int)).toNat = 1 from rfl] at hx207_9)
             (try rw [show 1 * 10 = 10 from rfl] at hx207_9)
             have HR207_2 := Goto.m0 hi207_2
             have HC207_2 := Goto.m0 hl207_2
             clear hi207_2 hl207_2
             have HR207_3 := Goto.m0 hi207_3
             have HC207_3 := Goto.m0 hl207_3
             clear hi207_3 hl207_3; replace p207 := eq_true p207; replace q207 := eq_true q207
             have p218 : 0 ≤ (0 : Int) := (by omega)
             have q218 : 0 < (t189.length : Int) := Goto.od
             obtain ⟨ad218, A218_2, c218_2, A218_3, c218_3, e218, hx218_0, hx218_1, hx218_2, hx218_3, hx218_4, hx218_5, hx218_6, hx218_7, hx218_8, hx218_9, hl218_2, hi218_2, hl218_3, hi218_3⟩ := at_T46 (Kd.N_reads' HO191.out).2.2 0 p218 q218
             obtain rfl : ad207 = ad218 := (by injection e218)
             obtain ⟨ce218, hce218, hMe218, hcc218⟩ := Kd.N_get HO191.out z46 0 p218 (by first | exact q218 | exact of_decide_eq_true (by first | (with_reducible assumption) | assumption) | (have e_ := (Kd.N_reads' HO191.out).1; omega))
             obtain ⟨ua218_2, uc218_2, ua218_3, uc218_3, rfl, ul218_2, ge218_2, ul218_3, ge218_3⟩ := k46_openF hMe218
             have hv218_2 := hcc218 2 _ rfl
             rw [add_field _ _ 2 (by omega)] at hv218_2
             replace hv218_2 := Option.some.inj (hv218_2.symm.trans hx218_2)
             injection hv218_2 with hva_ hvn_ hvc_
             rw [hva_] at ge218_2
             rw [hvc_] at ul218_2
             have HL218_2 := Goto.m0 (show Kd.V (Kd.slice 3 (Kd.int .i64)) 39 _ w.heap.size _ _ ((rd_T46 t189 0).f1) from Kd.V_mk ul218_2 ge218_2)
             clear hva_ hvn_ hvc_ ge218_2 ul218_2
             have hv218_3 := hcc218 3 _ rfl
             rw [add_field _ _ 3 (by omega)] at hv218_3
             replace hv218_3 := Option.some.inj (hv218_3.symm.trans hx218_3)
             injection hv218_3 with hva_ hvn_ hvc_
             rw [hva_] at ge218_3
             rw [hvc_] at ul218_3
             have HL218_3 := Goto.m0 (show Kd.V (Kd.int .i64) 3 _ w.heap.size _ _ ((rd_T46 t189 0).f2) from Kd.V_mk ul218_3 ge218_3)
             clear hva_ hvn_ hvc_ ge218_3 ul218_3; clear hcc218 hce218
             have qi218 : (0 < t189.length) = True := eq_true (by omega)
             (try rw [show ((0 : Int)).toNat = 0 from rfl] at hx218_0)
             (try rw [show 0 * 10 = 0 from rfl] at hx218_0)
             (try rw [Addr.add_zero'] at hx218_0)
             (try rw [show ((0 : Int)).toNat = 0 from rfl] at hx218_1)
             (try rw [show 0 * 10 = 0 from rfl] at hx218_1)
             (try rw [Addr.add_zero'] at hx218_1)
             (try rw [show ((0 : Int)).toNat = 0 from rfl] at hx218_2)
             (try rw [show 0 * 10 = 0 from rfl] at hx218_2)
             (try rw [Addr.add_zero'] at hx218_2)
             (try rw [show ((0 : Int)).toNat = 0 from rfl] at hx218_3)
             (try rw [show 0 * 10 = 0 from rfl] at hx218_3)
             (try rw [Addr.add_zero'] at hx218_3)
             (try rw [show ((0 : Int)).toNat = 0 from rfl] at hx218_4)
             (try rw [show 0 * 10 = 0 from rfl] at hx218_4)
             (try rw [Addr.add_zero'] at hx218_4)
             (try rw [show ((0 : Int)).toNat = 0 from rfl] at hx218_5)
             (try rw [show 0 * 10 = 0 from rfl] at hx218_5)
             (try rw [Addr.add_zero'] at hx218_5)
             (try rw [show ((0 : Int)).toNat = 0 from rfl] at hx218_6)
             (try rw [show 0 * 10 = 0 from rfl] at hx218_6)
             (try rw [Addr.add_zero'] at hx218_6)
             (try rw [show ((0 : Int)).toNat = 0 from rfl] at hx218_7)
             (try rw [show 0 * 10 = 0 from rfl] at hx218_7)
             (try rw [Addr.add_zero'] at hx218_7)
             (try rw [show ((0 : Int)).toNat = 0 from rfl] at hx218_8)
             (try rw [show 0 * 10 = 0 from rfl] at hx218_8)
             (try rw [Addr.add_zero'] at hx218_8)
             (try rw [show ((0 : Int)).toNat = 0 from rfl] at hx218_9)
             (try rw [show 0 * 10 = 0 from rfl] at hx218_9)
             (try rw [Addr.add_zero'] at hx218_9)
             have HR218_2 := Goto.m0 hi218_2
             have HC218_2 := Goto.m0 hl218_2
             clear hi218_2 hl218_2
             have HR218_3 := Goto.m0 hi218_3
             have HC218_3 := Goto.m0 hl218_3
             clear hi218_3 hl218_3; replace p218 := eq_true p218; replace q218 := eq_true q218
             refine start_ (n := 57) (S := fun w' => w'.cell? ⟨gb192, 0, none⟩ = some (.int .i64 t184) ∧ w'.cell? ⟨gb192, 1, none⟩ = some (.int .i64 t185) ∧ w'.cell? ⟨gb192, 2, none⟩ = some (.slice Ao26 t186.length co26) ∧ w'.cell? ⟨gb192, 3, none⟩ = some (.slice (some ad207) t189.length co27) ∧ w'.cell? ad196 = some (.int .i64 ((rd_T35 y193 0).f0)) ∧ w'.cell? ⟨ad196.block, ad196.off + 1, none⟩ = some (.int .i64 ((rd_T35 y193 0).f1)) ∧ w'.cell? ⟨ad196.block, ad196.off + 2, none⟩ = some (.int .i64 ((rd_T35 y193 0).f2)) ∧ w'.cell? ⟨ad196.block, ad196.off + 3, none⟩ = some (.int .i64 ((rd_T35 y193 0).f3)) ∧ w'.cell? ⟨ad196.block, ad196.off + 4, none⟩ = some (.int .i64 ((rd_T35 y193 0).f4)) ∧ w'.cell? ⟨ad196.block, ad196.off + 5, none⟩ = some (.int .i64 ((rd_T35 y193 0).f5)) ∧ w'.cell? ⟨ad196.block, ad196.off + 6, none⟩ = some (.int .i64 ((rd_T35 y193 1).f0)) ∧ w'.cell? ⟨ad196.block, ad196.off + 6 + 1, none⟩ = some (.int .i64 ((rd_T35 y193 1).f1)) ∧ w'.cell? ⟨ad196.block, ad196.off + 6 + 2, none⟩ = some (.int .i64 ((rd_T35 y193 1).f2)) ∧ w'.cell? ⟨ad196.block, ad196.off + 6 + 3, none⟩ = some (.int .i64 ((rd_T35 y193 1).f3)) ∧ w'.cell? ⟨ad196.block, ad196.off + 6 + 4, none⟩ = some (.int .i64 ((rd_T35 y193 1).f4)) ∧ w'.cell? ⟨ad196.block, ad196.off + 6 + 5, none⟩ = some (.int .i64 ((rd_T35 y193 1).f5)) ∧ w'.cell? ⟨ad207.block, ad207.off + 10, none⟩ = some (.int .i64 ((rd_T46 t189 1).f0.f0)) ∧ w'.cell? ⟨ad207.block, ad207.off + 10 + 1, none⟩ = some (.int .u64 ((rd_T46 t189 1).f0.f1)) ∧ w'.cell? ⟨ad207.block, ad207.off + 10 + 2, none⟩ = some (.slice A207_2 ((rd_T46 t189 1).f1).length c207_2) ∧ w'.cell? ⟨ad207.block, ad207.off + 10 + 3, none⟩ = some (.slice A207_3 ((rd_T46 t189 1).f2).length c207_3) ∧ w'.cell? ⟨ad207.block, ad207.off + 10 + 4, none⟩ = some (.int .i64 ((rd_T46 t189 1).f3)) ∧ w'.cell? ⟨ad207.block, ad207.off + 10 + 5, none⟩ = some (.int .i64 ((rd_T46 t189 1).f4)) ∧ w'.cell? ⟨ad207.block, ad207.off + 10 + 6, none⟩ = some (.int .i64 ((rd_T46 t189 1).f5)) ∧ w'.cell? ⟨ad207.block, ad207.off + 10 + 7, none⟩ = some (.int .i64 ((rd_T46 t189 1).f6)) ∧ w'.cell? ⟨ad207.block, ad207.off + 10 + 8, none⟩ = some (.int .i64 ((rd_T46 t189 1).f7)) ∧ w'.cell? ⟨ad207.block, ad207.off + 10 + 9, none⟩ = some (.int .i64 ((rd_T46 t189 1).f8)) ∧ w'.cell? ad207 = some (.int .i64 ((rd_T46 t189 0).f0.f0)) ∧ w'.cell? ⟨ad207.block, ad207.off + 1, none⟩ = some (.int .u64 ((rd_T46 t189 0).f0.f1)) ∧ w'.cell? ⟨ad207.block, ad207.off + 2, none⟩ = some (.slice A218_2 ((rd_T46 t189 0).f1).length c218_2) ∧ w'.cell? ⟨ad207.block, ad207.off + 3, none⟩ = some (.slice A218_3 ((rd_T46 t189 0).f2).length c218_3) ∧ w'.cell? ⟨ad207.block, ad207.off + 4, none⟩ = some (.int .i64 ((rd_T46 t189 0).f3)) ∧ w'.cell? ⟨ad207.block, ad207.off + 5, none⟩ = some (.int .i64 ((rd_T46 t189 0).f4)) ∧ w'.cell? ⟨ad207.block, ad207.off + 6, none⟩ = some (.int .i64 ((rd_T46 t189 0).f5)) ∧ w'.cell? ⟨ad207.block, ad207.off + 7, none⟩ = some (.int .i64 ((rd_T46 t189 0).f6)) ∧ w'.cell? ⟨ad207.block, ad207.off + 8, none⟩ = some (.int .i64 ((rd_T46 t189 0).f7)) ∧ w'.cell? ⟨ad207.block, ad207.off + 9, none⟩ = some (.int .i64 ((rd_T46 t189 0).f8))) (ds := []) (.replicate 57 false) (by kernel_rfl) rfl rfl ⟨(blk_cell BK192.out 0).trans rfl, (blk_cell BK192.out 1).trans rfl, (blk_cell BK192.out 2).trans rfl, (blk_cell BK192.out 3).trans rfl, hx196_0, hx196_1, hx196_2, hx196_3, hx196_4, hx196_5, hx198_0, hx198_1, hx198_2, hx198_3, hx198_4, hx198_5, hx207_0, hx207_1, hx207_2, hx207_3, hx207_4, hx207_5, hx207_6, hx207_7, hx207_8, hx207_9, hx218_0, hx218_1, hx218_2, hx218_3, hx218_4, hx218_5, hx218_6, hx218_7, hx218_8, hx218_9⟩ (fun hHeld => ?_); refine with_tabW tontinelaw24_known.tab3 tontinelaw24_known.bits3 (fun HT_ HW_ => ?_)
             generalize w28.drew = w31 at HO188 HO191 HO195 BK192 HB HL207_2 HL207_3 HL218_2 HL218_3 HR207_2 HR207_3 HR218_2 HR218_3 hx196_0 hx196_1 hx196_2 hx196_3 hx196_4 hx196_5 hx198_0 hx198_1 hx198_2 hx198_3 hx198_4 hx198_5 hx207_0 hx207_1 hx207_2 hx207_3 hx207_4 hx207_5 hx207_6 hx207_7 hx207_8 hx207_9 hx218_0 hx218_1 hx218_2 hx218_3 hx218_4 hx218_5 hx218_6 hx218_7 hx218_8 hx218_9 hHeld ⊢
             refine Goto.pu 0 7 57 1 ?_
             refine Goto.pu 1 8 57 3 ?_
             refine take_ (i := 2) (N := some 9) (v := ?_) (a' := ?_) (Goto.bs 57 7) rfl rfl (take_ofW HT_.out HW_.out (by kernel_rfl)) (fun _ _ _ h => h) (Or.inl ⟨by rfl, ?_⟩) hHeld ?_ ?_
             rotate_left
             ·
              rintro w' ⟨s0, s1, s2, s3, s4, s5, s6, s7, s8, s9, s10, s11, s12, s13, s14, s15, s16, s17, s18, s19, s20, s21, s22, s23, s24, s25, s26, s27, s28, s29, s30, s31, s32, s33, s34, s35⟩
              go_simp
              with_reducible rfl
             rotate_left
             ·
              exact Goto.ap
             refine one_ (i := 3) (N := some 10) (Goto.bs 57 15) rfl rfl (one_of HT_.out (by kernel_rfl)) (by decide) (fun K hK => ?_)
             refine goes_ Tryd.func9 (by kernel_rfl) rfl #[.agg #[.int .i64 ((rd_T35 y193 0).f0), .int .i64 ((rd_T35 y193 0).f1), .int .i64 ((rd_T35 y193 0).f2), .int .i64 ((rd_T35 y193 0).f3), .int .i64 ((rd_T35 y193 0).f4), .int .i64 ((rd_T35 y193 0).f5)]] (by rfl) rfl rfl (by (try simp only [List.map_toArray, List.map_cons, List.map_nil]); first | done | rfl | (simp only [List.length_drop, List.length_take]; rfl)) ?_
             with_reducible refine (trace_Line.calls k ((rd_T35 y193 0).f0) ((rd_T35 y193 0).f1) ((rd_T35 y193 0).f2) ((rd_T35 y193 0).f3) ((rd_T35 y193 0).f4) ((rd_T35 y193 0).f5) t197 _ (Goto.kt (Goto.hx HB) HLD.out) A3.out).mono ?_
             rintro e w32 ⟨rfl, hb⟩
             have HS4_ := (hb.cell (World.block_lt_of_cell? _ _ (hHeld.2.2.2.2.1))).trans (hHeld.2.2.2.2.1)
             have HS5_ := (hb.cell (World.block_lt_of_cell? _ _ (hHeld.2.2.2.2.2.1))).trans (hHeld.2.2.2.2.2.1)
             have HS6_ := (hb.cell (World.block_lt_of_cell? _ _ (hHeld.2.2.2.2.2.2.1))).trans (hHeld.2.2.2.2.2.2.1)
             have HS7_ := (hb.cell (World.block_lt_of_cell? _ _ (hHeld.2.2.2.2.2.2.2.1))).trans (hHeld.2.2.2.2.2.2.2.1)
             have HS8_ := (hb.cell (World.block_lt_of_cell? _ _ (hHeld.2.2.2.2.2.2.2.2.1))).trans (hHeld.2.2.2.2.2.2.2.2.1)
             have HS9_ := (hb.cell (World.block_lt_of_cell? _ _ (hHeld.2.2.2.2.2.2.2.2.2.1))).trans (hHeld.2.2.2.2.2.2.2.2.2.1)
             have HS10_ := (hb.cell (World.block_lt_of_cell? _ _ (hHeld.2.2.2.2.2.2.2.2.2.2.1))).trans (hHeld.2.2.2.2.2.2.2.2.2.2.1)
             have HS11_ := (hb.cell (World.block_lt_of_cell? _ _ (hHeld.2.2.2.2.2.2.2.2.2.2.2.1))).trans (hHeld.2.2.2.2.2.2.2.2.2.2.2.1)
             have HS12_ := (hb.cell (World.block_lt_of_cell? _ _ (hHeld.2.2.2.2.2.2.2.2.2.2.2.2.1))).trans (hHeld.2.2.2.2.2.2.2.2.2.2.2.2.1)
             have HS13_ := (hb.cell (World.block_lt_of_cell? _ _ (hHeld.2.2.2.2.2.2.2.2.2.2.2.2.2.1))).trans (hHeld.2.2.2.2.2.2.2.2.2.2.2.2.2.1)
             have HS14_ := (hb.cell (World.block_lt_of_cell? _ _ (hHeld.2.2.2.2.2.2.2.2.2.2.2.2.2.2.1))).trans (hHeld.2.2.2.2.2.2.2.2.2.2.2.2.2.2.1)
             have HS15_ := (hb.cell (World.block_lt_of_cell? _ _ (hHeld.2.2.2.2.2.2.2.2.2.2.2.2.2.2.2.1))).trans (hHeld.2.2.2.2.2.2.2.2.2.2.2.2.2.2.2.1)
             have HS16_ := (hb.cell (World.block_lt_of_cell? _ _ (hHeld.2.2.2.2.2.2.2.2.2.2.2.2.2.2.2.2.1))).trans (hHeld.2.2.2.2.2.2.2.2.2.2.2.2.2.2.2.2.1)
             have HS17_ := (hb.cell (World.block_lt_of_cell? _ _ (hHeld.2.2.2.2.2.2.2.2.2.2.2.2.2.2.2.2.2.1))).trans (hHeld.2.2.2.2.2.2.2.2.2.2.2.2.2.2.2.2.2.1)
             have HS18_ := (hb.cell (World.block_lt_of_cell? _ _ (hHeld.2.2.2.2.2.2.2.2.2.2.2.2.2.2.2.2.2.2.1))).trans (hHeld.2.2.2.2.2.2.2.2.2.2.2.2.2.2.2.2.2.2.1)
             have HS19_ := (hb.cell (World.block_lt_of_cell? _ _ (hHeld.2.2.2.2.2.2.2.2.2.2.2.2.2.2.2.2.2.2.2.1))).trans (hHeld.2.2.2.2.2.2.2.2.2.2.2.2.2.2.2.2.2.2.2.1)
             have HS20_ := (hb.cell (World.block_lt_of_cell? _ _ (hHeld.2.2.2.2.2.2.2.2.2.2.2.2.2.2.2.2.2.2.2.2.1))).trans (hHeld.2.2.2.2.2.2.2.2.2.2.2.2.2.2.2.2.2.2.2.2.1)
             have HS21_ := (hb.cell (World.block_lt_of_cell? _ _ (hHeld.2.2.2.2.2.2.2.2.2.2.2.2.2.2.2.2.2.2.2.2.2.1))).trans (hHeld.2.2.2.2.2.2.2.2.2.2.2.2.2.2.2.2.2.2.2.2.2.1)
             have HS22_ := (hb.cell (World.block_lt_of_cell? _ _ (hHeld.2.2.2.2.2.2.2.2.2.2.2.2.2.2.2.2.2.2.2.2.2.2.1))).trans (hHeld.2.2.2.2.2.2.2.2.2.2.2.2.2.2.2.2.2.2.2.2.2.2.1)
             have HS23_ := (hb.cell (World.block_lt_of_cell? _ _ (hHeld.2.2.2.2.2.2.2.2.2.2.2.2.2.2.2.2.2.2.2.2.2.2.2.1))).trans (hHeld.2.2.2.2.2.2.2.2.2.2.2.2.2.2.2.2.2.2.2.2.2.2.2.1)
             have HS24_ := (hb.cell (World.block_lt_of_cell? _ _ (hHeld.2.2.2.2.2.2.2.2.2.2.2.2.2.2.2.2.2.2.2.2.2.2.2.2.1))).trans (hHeld.2.2.2.2.2.2.2.2.2.2.2.2.2.2.2.2.2.2.2.2.2.2.2.2.1)
             have HS25_ := (hb.cell (World.block_lt_of_cell? _ _ (hHeld.2.2.2.2.2.2.2.2.2.2.2.2.2.2.2.2.2.2.2.2.2.2.2.2.2.1))).trans (hHeld.2.2.2.2.2.2.2.2.2.2.2.2.2.2.2.2.2.2.2.2.2.2.2.2.2.1)
             have HS26_ := (hb.cell (World.block_lt_of_cell? _ _ (hHeld.2.2.2.2.2.2.2.2.2.2.2.2.2.2.2.2.2.2.2.2.2.2.2.2.2.2.1))).trans (hHeld.2.2.2.2.2.2.2.2.2.2.2.2.2.2.2.2.2.2.2.2.2.2.2.2.2.2.1)
             have HS27_ := (hb.cell (World.block_lt_of_cell? _ _ (hHeld.2.2.2.2.2.2.2.2.2.2.2.2.2.2.2.2.2.2.2.2.2.2.2.2.2.2.2.1))).trans (hHeld.2.2.2.2.2.2.2.2.2.2.2.2.2.2.2.2.2.2.2.2.2.2.2.2.2.2.2.1)
             have HS28_ := (hb.cell (World.block_lt_of_cell? _ _ (hHeld.2.2.2.2.2.2.2.2.2.2.2.2.2.2.2.2.2.2.2.2.2.2.2.2.2.2.2.2.1))).trans (hHeld.2.2.2.2.2.2.2.2.2.2.2.2.2.2.2.2.2.2.2.2.2.2.2.2.2.2.2.2.1)
             have HS29_ := (hb.cell (World.block_lt_of_cell? _ _ (hHeld.2.2.2.2.2.2.2.2.2.2.2.2.2.2.2.2.2.2.2.2.2.2.2.2.2.2.2.2.2.1))).trans (hHeld.2.2.2.2.2.2.2.2.2.2.2.2.2.2.2.2.2.2.2.2.2.2.2.2.2.2.2.2.2.1)
             have HS30_ := (hb.cell (World.block_lt_of_cell? _ _ (hHeld.2.2.2.2.2.2.2.2.2.2.2.2.2.2.2.2.2.2.2.2.2.2.2.2.2.2.2.2.2.2.1))).trans (hHeld.2.2.2.2.2.2.2.2.2.2.2.2.2.2.2.2.2.2.2.2.2.2.2.2.2.2.2.2.2.2.1)
             have HS31_ := (hb.cell (World.block_lt_of_cell? _ _ (hHeld.2.2.2.2.2.2.2.2.2.2.2.2.2.2.2.2.2.2.2.2.2.2.2.2.2.2.2.2.2.2.2.1))).trans (hHeld.2.2.2.2.2.2.2.2.2.2.2.2.2.2.2.2.2.2.2.2.2.2.2.2.2.2.2.2.2.2.2.1)
             have HS32_ := (hb.cell (World.block_lt_of_cell? _ _ (hHeld.2.2.2.2.2.2.2.2.2.2.2.2.2.2.2.2.2.2.2.2.2.2.2.2.2.2.2.2.2.2.2.2.1))).trans (hHeld.2.2.2.2.2.2.2.2.2.2.2.2.2.2.2.2.2.2.2.2.2.2.2.2.2.2.2.2.2.2.2.2.1)
             have HS33_ := (hb.cell (World.block_lt_of_cell? _ _ (hHeld.2.2.2.2.2.2.2.2.2.2.2.2.2.2.2.2.2.2.2.2.2.2.2.2.2.2.2.2.2.2.2.2.2.1))).trans (hHeld.2.2.2.2.2.2.2.2.2.2.2.2.2.2.2.2.2.2.2.2.2.2.2.2.2.2.2.2.2.2.2.2.2.1)
             have HS34_ := (hb.cell (World.block_lt_of_cell? _ _ (hHeld.2.2.2.2.2.2.2.2.2.2.2.2.2.2.2.2.2.2.2.2.2.2.2.2.2.2.2.2.2.2.2.2.2.2.1))).trans (hHeld.2.2.2.2.2.2.2.2.2.2.2.2.2.2.2.2.2.2.2.2.2.2.2.2.2.2.2.2.2.2.2.2.2.2.1)
             have HS35_ := (hb.cell (World.block_lt_of_cell? _ _ (hHeld.2.2.2.2.2.2.2.2.2.2.2.2.2.2.2.2.2.2.2.2.2.2.2.2.2.2.2.2.2.2.2.2.2.2.2))).trans (hHeld.2.2.2.2.2.2.2.2.2.2.2.2.2.2.2.2.2.2.2.2.2.2.2.2.2.2.2.2.2.2.2.2.2.2.2)
             refine ⟨_, rfl, ?_⟩
             replace HO188 := Goto.nbN HO188 hb; replace HO191 := Goto.nbN HO191 hb; replace HO195 := Goto.m0 (Kd.R_below (Goto.rk HO195) hb); replace BK192 := Goto.bb BK192 hb; replace HL207_2 := Goto.nbV HL207_2 hb; replace HL207_3 := Goto.nbV HL207_3 hb; replace HL218_2 := Goto.nbV HL218_2 hb; replace HL218_3 := Goto.nbV HL218_3 hb; replace HR207_2 := Goto.cb HR207_2 hb; replace HR207_3 := Goto.cb HR207_3 hb; replace HR218_2 := Goto.cb HR218_2 hb; replace HR218_3 := Goto.cb HR218_3 hb; replace HB := Goto.hs HB hb
             (try clear hb)
             (try clear hb2)
             (try clear hk)
             (try clear hi)
             refine hK.out _ _ ⟨(blk_cell BK192.out 0).trans rfl, (blk_cell BK192.out 1).trans rfl, (blk_cell BK192.out 2).trans rfl, (blk_cell BK192.out 3).trans rfl, HS4_, HS5_, HS6_, HS7_, HS8_, HS9_, HS10_, HS11_, HS12_, HS13_, HS14_, HS15_, HS16_, HS17_, HS18_, HS19_, HS20_, HS21_, HS22_, HS23_, HS24_, HS25_, HS26_, HS27_, HS28_, HS29_, HS30_, HS31_, HS32_, HS33_, HS34_, HS35_⟩ (fun hHeld => ?_)
             clear hK K
             refine norm_ (a' := ?_) ?_ ?_
             rotate_left
             ·
              show Act.put _ (some 10) _ = _
              exact Goto.ap
             refine Goto.pu 4 11 57 31 ?_
             refine Goto.pu 5 12 57 63 ?_
             refine Goto.pu 6 13 57 127 ?_
             refine Goto.pu 7 14 57 255 ?_
             refine take_ (i := 8) (N := some 15) (v := ?_) (a' := ?_) (Goto.bs 57 511) rfl rfl (take_ofW HT_.out HW_.out (by kernel_rfl)) (fun _ _ _ h => h) (Or.inl ⟨by rfl, ?_⟩) hHeld ?_ ?_
             rotate_left
             ·
              rintro w' ⟨s0, s1, s2, s3, s4, s5, s6, s7, s8, s9, s10, s11, s12, s13, s14, s15, s16, s17, s18, s19, s20, s21, s22, s23, s24, s25, s26, s27, s28, s29, s30, s31, s32, s33, s34, s35⟩
              go_simp
              with_reducible rfl
             rotate_left
             ·
              exact Goto.ap
             refine one_ (i := 9) (N := some 16) (Goto.bs 57 1023) rfl rfl (one_of HT_.out (by kernel_rfl)) (by decide) (fun K hK => ?_)
             refine goes_ Tryd.func9 (by kernel_rfl) rfl #[.agg #[.int .i64 ((rd_T35 y193 1).f0), .int .i64 ((rd_T35 y193 1).f1), .int .i64 ((rd_T35 y193 1).f2), .int .i64 ((rd_T35 y193 1).f3), .int .i64 ((rd_T35 y193 1).f4), .int .i64 ((rd_T35 y193 1).f5)]] (by rfl) rfl rfl (by (try simp only [List.map_toArray, List.map_cons, List.map_nil]); first | done | rfl | (simp only [List.length_drop, List.length_take]; rfl)) ?_
             with_reducible refine (trace_Line.calls k ((rd_T35 y193 1).f0) ((rd_T35 y193 1).f1) ((rd_T35 y193 1).f2) ((rd_T35 y193 1).f3) ((rd_T35 y193 1).f4) ((rd_T35 y193 1).f5) t199 _ (Goto.kt (Goto.hx HB) HLD.out) A6.out).mono ?_
             rintro e w33 ⟨rfl, hb⟩
             have HS4_ := (hb.cell (World.block_lt_of_cell? _ _ (hHeld.2.2.2.2.1))).trans (hHeld.2.2.2.2.1)
             have HS5_ := (hb.cell (World.block_lt_of_cell? _ _ (hHeld.2.2.2.2.2.1))).trans (hHeld.2.2.2.2.2.1)
             have HS6_ := (hb.cell (World.block_lt_of_cell? _ _ (hHeld.2.2.2.2.2.2.1))).trans (hHeld.2.2.2.2.2.2.1)
             have HS7_ := (hb.cell (World.block_lt_of_cell? _ _ (hHeld.2.2.2.2.2.2.2.1))).trans (hHeld.2.2.2.2.2.2.2.1)
             have HS8_ := (hb.cell (World.block_lt_of_cell? _ _ (hHeld.2.2.2.2.2.2.2.2.1))).trans (hHeld.2.2.2.2.2.2.2.2.1)
             have HS9_ := (hb.cell (World.block_lt_of_cell? _ _ (hHeld.2.2.2.2.2.2.2.2.2.1))).trans (hHeld.2.2.2.2.2.2.2.2.2.1)
             have HS10_ := (hb.cell (World.block_lt_of_cell? _ _ (hHeld.2.2.2.2.2.2.2.2.2.2.1))).trans (hHeld.2.2.2.2.2.2.2.2.2.2.1)
             have HS11_ := (hb.cell (World.block_lt_of_cell? _ _ (hHeld.2.2.2.2.2.2.2.2.2.2.2.1))).trans (hHeld.2.2.2.2.2.2.2.2.2.2.2.1)
             have HS12_ := (hb.cell (World.block_lt_of_cell? _ _ (hHeld.2.2.2.2.2.2.2.2.2.2.2.2.1))).trans (hHeld.2.2.2.2.2.2.2.2.2.2.2.2.1)
             have HS13_ := (hb.cell (World.block_lt_of_cell? _ _ (hHeld.2.2.2.2.2.2.2.2.2.2.2.2.2.1))).trans (hHeld.2.2.2.2.2.2.2.2.2.2.2.2.2.1)
             have HS14_ := (hb.cell (World.block_lt_of_cell? _ _ (hHeld.2.2.2.2.2.2.2.2.2.2.2.2.2.2.1))).trans (hHeld.2.2.2.2.2.2.2.2.2.2.2.2.2.2.1)
             have HS15_ := (hb.cell (World.block_lt_of_cell? _ _ (hHeld.2.2.2.2.2.2.2.2.2.2.2.2.2.2.2.1))).trans (hHeld.2.2.2.2.2.2.2.2.2.2.2.2.2.2.2.1)
             have HS16_ := (hb.cell (World.block_lt_of_cell? _ _ (hHeld.2.2.2.2.2.2.2.2.2.2.2.2.2.2.2.2.1))).trans (hHeld.2.2.2.2.2.2.2.2.2.2.2.2.2.2.2.2.1)
             have HS17_ := (hb.cell (World.block_lt_of_cell? _ _ (hHeld.2.2.2.2.2.2.2.2.2.2.2.2.2.2.2.2.2.1))).trans (hHeld.2.2.2.2.2.2.2.2.2.2.2.2.2.2.2.2.2.1)
             have HS18_ := (hb.cell (World.block_lt_of_cell? _ _ (hHeld.2.2.2.2.2.2.2.2.2.2.2.2.2.2.2.2.2.2.1))).trans (hHeld.2.2.2.2.2.2.2.2.2.2.2.2.2.2.2.2.2.2.1)
             have HS19_ := (hb.cell (World.block_lt_of_cell? _ _ (hHeld.2.2.2.2.2.2.2.2.2.2.2.2.2.2.2.2.2.2.2.1))).trans (hHeld.2.2.2.2.2.2.2.2.2.2.2.2.2.2.2.2.2.2.2.1)
             have HS20_ := (hb.cell (World.block_lt_of_cell? _ _ (hHeld.2.2.2.2.2.2.2.2.2.2.2.2.2.2.2.2.2.2.2.2.1))).trans (hHeld.2.2.2.2.2.2.2.2.2.2.2.2.2.2.2.2.2.2.2.2.1)
             have HS21_ := (hb.cell (World.block_lt_of_cell? _ _ (hHeld.2.2.2.2.2.2.2.2.2.2.2.2.2.2.2.2.2.2.2.2.2.1))).trans (hHeld.2.2.2.2.2.2.2.2.2.2.2.2.2.2.2.2.2.2.2.2.2.1)
             have HS22_ := (hb.cell (World.block_lt_of_cell? _ _ (hHeld.2.2.2.2.2.2.2.2.2.2.2.2.2.2.2.2.2.2.2.2.2.2.1))).trans (hHeld.2.2.2.2.2.2.2.2.2.2.2.2.2.2.2.2.2.2.2.2.2.2.1)
             have HS23_ := (hb.cell (World.block_lt_of_cell? _ _ (hHeld.2.2.2.2.2.2.2.2.2.2.2.2.2.2.2.2.2.2.2.2.2.2.2.1))).trans (hHeld.2.2.2.2.2.2.2.2.2.2.2.2.2.2.2.2.2.2.2.2.2.2.2.1)
             have HS24_ := (hb.cell (World.block_lt_of_cell? _ _ (hHeld.2.2.2.2.2.2.2.2.2.2.2.2.2.2.2.2.2.2.2.2.2.2.2.2.1))).trans (hHeld.2.2.2.2.2.2.2.2.2.2.2.2.2.2.2.2.2.2.2.2.2.2.2.2.1)
             have HS25_ := (hb.cell (World.block_lt_of_cell? _ _ (hHeld.2.2.2.2.2.2.2.2.2.2.2.2.2.2.2.2.2.2.2.2.2.2.2.2.2.1))).trans (hHeld.2.2.2.2.2.2.2.2.2.2.2.2.2.2.2.2.2.2.2.2.2.2.2.2.2.1)
             have HS26_ := (hb.cell (World.block_lt_of_cell? _ _ (hHeld.2.2.2.2.2.2.2.2.2.2.2.2.2.2.2.2.2.2.2.2.2.2.2.2.2.2.1))).trans (hHeld.2.2.2.2.2.2.2.2.2.2.2.2.2.2.2.2.2.2.2.2.2.2.2.2.2.2.1)
             have HS27_ := (hb.cell (World.block_lt_of_cell? _ _ (hHeld.2.2.2.2.2.2.2.2.2.2.2.2.2.2.2.2.2.2.2.2.2.2.2.2.2.2.2.1))).trans (hHeld.2.2.2.2.2.2.2.2.2.2.2.2.2.2.2.2.2.2.2.2.2.2.2.2.2.2.2.1)
             have HS28_ := (hb.cell (World.block_lt_of_cell? _ _ (hHeld.2.2.2.2.2.2.2.2.2.2.2.2.2.2.2.2.2.2.2.2.2.2.2.2.2.2.2.2.1))).trans (hHeld.2.2.2.2.2.2.2.2.2.2.2.2.2.2.2.2.2.2.2.2.2.2.2.2.2.2.2.2.1)
             have HS29_ := (hb.cell (World.block_lt_of_cell? _ _ (hHeld.2.2.2.2.2.2.2.2.2.2.2.2.2.2.2.2.2.2.2.2.2.2.2.2.2.2.2.2.2.1))).trans (hHeld.2.2.2.2.2.2.2.2.2.2.2.2.2.2.2.2.2.2.2.2.2.2.2.2.2.2.2.2.2.1)
             have HS30_ := (hb.cell (World.block_lt_of_cell? _ _ (hHeld.2.2.2.2.2.2.2.2.2.2.2.2.2.2.2.2.2.2.2.2.2.2.2.2.2.2.2.2.2.2.1))).trans (hHeld.2.2.2.2.2.2.2.2.2.2.2.2.2.2.2.2.2.2.2.2.2.2.2.2.2.2.2.2.2.2.1)
             have HS31_ := (hb.cell (World.block_lt_of_cell? _ _ (hHeld.2.2.2.2.2.2.2.2.2.2.2.2.2.2.2.2.2.2.2.2.2.2.2.2.2.2.2.2.2.2.2.1))).trans (hHeld.2.2.2.2.2.2.2.2.2.2.2.2.2.2.2.2.2.2.2.2.2.2.2.2.2.2.2.2.2.2.2.1)
             have HS32_ := (hb.cell (World.block_lt_of_cell? _ _ (hHeld.2.2.2.2.2.2.2.2.2.2.2.2.2.2.2.2.2.2.2.2.2.2.2.2.2.2.2.2.2.2.2.2.1))).trans (hHeld.2.2.2.2.2.2.2.2.2.2.2.2.2.2.2.2.2.2.2.2.2.2.2.2.2.2.2.2.2.2.2.2.1)
             have HS33_ := (hb.cell (World.block_lt_of_cell? _ _ (hHeld.2.2.2.2.2.2.2.2.2.2.2.2.2.2.2.2.2.2.2.2.2.2.2.2.2.2.2.2.2.2.2.2.2.1))).trans (hHeld.2.2.2.2.2.2.2.2.2.2.2.2.2.2.2.2.2.2.2.2.2.2.2.2.2.2.2.2.2.2.2.2.2.1)
             have HS34_ := (hb.cell (World.block_lt_of_cell? _ _ (hHeld.2.2.2.2.2.2.2.2.2.2.2.2.2.2.2.2.2.2.2.2.2.2.2.2.2.2.2.2.2.2.2.2.2.2.1))).trans (hHeld.2.2.2.2.2.2.2.2.2.2.2.2.2.2.2.2.2.2.2.2.2.2.2.2.2.2.2.2.2.2.2.2.2.2.1)
             have HS35_ := (hb.cell (World.block_lt_of_cell? _ _ (hHeld.2.2.2.2.2.2.2.2.2.2.2.2.2.2.2.2.2.2.2.2.2.2.2.2.2.2.2.2.2.2.2.2.2.2.2))).trans (hHeld.2.2.2.2.2.2.2.2.2.2.2.2.2.2.2.2.2.2.2.2.2.2.2.2.2.2.2.2.2.2.2.2.2.2.2)
             refine ⟨_, rfl, ?_⟩
             replace HO188 := Goto.nbN HO188 hb; replace HO191 := Goto.nbN HO191 hb; replace HO195 := Goto.m0 (Kd.R_below (Goto.rk HO195) hb); replace BK192 := Goto.bb BK192 hb; replace HL207_2 := Goto.nbV HL207_2 hb; replace HL207_3 := Goto.nbV HL207_3 hb; replace HL218_2 := Goto.nbV HL218_2 hb; replace HL218_3 := Goto.nbV HL218_3 hb; replace HR207_2 := Goto.cb HR207_2 hb; replace HR207_3 := Goto.cb HR207_3 hb; replace HR218_2 := Goto.cb HR218_2 hb; replace HR218_3 := Goto.cb HR218_3 hb; replace HB := Goto.hs HB hb
             (try clear hb)
             (try clear hb2)
             (try clear hk)
             (try clear hi)
             refine hK.out _ _ ⟨(blk_cell BK192.out 0).trans rfl, (blk_cell BK192.out 1).trans rfl, (blk_cell BK192.out 2).trans rfl, (blk_cell BK192.out 3).trans rfl, HS4_, HS5_, HS6_, HS7_, HS8_, HS9_, HS10_, HS11_, HS12_, HS13_, HS14_, HS15_, HS16_, HS17_, HS18_, HS19_, HS20_, HS21_, HS22_, HS23_, HS24_, HS25_, HS26_, HS27_, HS28_, HS29_, HS30_, HS31_, HS32_, HS33_, HS34_, HS35_⟩ (fun hHeld => ?_)
             clear hK K
             refine norm_ (a' := ?_) ?_ ?_
             rotate_left
             ·
              show Act.put _ (some 16) _ = _
              exact Goto.ap
             refine Goto.pu 10 17 57 2047 ?_
             refine Goto.pu 11 18 57 4095 ?_
             refine Goto.pu 12 19 57 8191 ?_
             refine Goto.pu 13 20 57 16383 ?_
             refine one_ (i := 14) (N := some 21) (Goto.bs 57 32767) rfl rfl (one_of HT_.out (by kernel_rfl)) (by decide) (fun K hK => ?_)
             refine goes_ Tryd.func9 (by kernel_rfl) rfl #[.agg #[.int .i64 0, .int .i64 0, .int .i64 0, .int .i64 0, .int .i64 0, .int .i64 0]] (by rfl) rfl rfl (by (try simp only [List.map_toArray, List.map_cons, List.map_nil]); first | done | rfl | (simp only [List.length_drop, List.length_take]; rfl)) ?_
             with_reducible refine (trace_Line.calls k 0 0 0 0 0 0 t200 _ (Goto.kt (Goto.hx HB) HLD.out) A8.out).mono ?_
             rintro e w34 ⟨rfl, hb⟩
             have HS4_ := (hb.cell (World.block_lt_of_cell? _ _ (hHeld.2.2.2.2.1))).trans (hHeld.2.2.2.2.1)
             have HS5_ := (hb.cell (World.block_lt_of_cell? _ _ (hHeld.2.2.2.2.2.1))).trans (hHeld.2.2.2.2.2.1)
             have HS6_ := (hb.cell (World.block_lt_of_cell? _ _ (hHeld.2.2.2.2.2.2.1))).trans (hHeld.2.2.2.2.2.2.1)
             have HS7_ := (hb.cell (World.block_lt_of_cell? _ _ (hHeld.2.2.2.2.2.2.2.1))).trans (hHeld.2.2.2.2.2.2.2.1)
             have HS8_ := (hb.cell (World.block_lt_of_cell? _ _ (hHeld.2.2.2.2.2.2.2.2.1))).trans (hHeld.2.2.2.2.2.2.2.2.1)
             have HS9_ := (hb.cell (World.block_lt_of_cell? _ _ (hHeld.2.2.2.2.2.2.2.2.2.1))).trans (hHeld.2.2.2.2.2.2.2.2.2.1)
             have HS10_ := (hb.cell (World.block_lt_of_cell? _ _ (hHeld.2.2.2.2.2.2.2.2.2.2.1))).trans (hHeld.2.2.2.2.2.2.2.2.2.2.1)
             have HS11_ := (hb.cell (World.block_lt_of_cell? _ _ (hHeld.2.2.2.2.2.2.2.2.2.2.2.1))).trans (hHeld.2.2.2.2.2.2.2.2.2.2.2.1)
             have HS12_ := (hb.cell (World.block_lt_of_cell? _ _ (hHeld.2.2.2.2.2.2.2.2.2.2.2.2.1))).trans (hHeld.2.2.2.2.2.2.2.2.2.2.2.2.1)
             have HS13_ := (hb.cell (World.block_lt_of_cell? _ _ (hHeld.2.2.2.2.2.2.2.2.2.2.2.2.2.1))).trans (hHeld.2.2.2.2.2.2.2.2.2.2.2.2.2.1)
             have HS14_ := (hb.cell (World.block_lt_of_cell? _ _ (hHeld.2.2.2.2.2.2.2.2.2.2.2.2.2.2.1))).trans (hHeld.2.2.2.2.2.2.2.2.2.2.2.2.2.2.1)
             have HS15_ := (hb.cell (World.block_lt_of_cell? _ _ (hHeld.2.2.2.2.2.2.2.2.2.2.2.2.2.2.2.1))).trans (hHeld.2.2.2.2.2.2.2.2.2.2.2.2.2.2.2.1)
             have HS16_ := (hb.cell (World.block_lt_of_cell? _ _ (hHeld.2.2.2.2.2.2.2.2.2.2.2.2.2.2.2.2.1))).trans (hHeld.2.2.2.2.2.2.2.2.2.2.2.2.2.2.2.2.1)
             have HS17_ := (hb.cell (World.block_lt_of_cell? _ _ (hHeld.2.2.2.2.2.2.2.2.2.2.2.2.2.2.2.2.2.1))).trans (hHeld.2.2.2.2.2.2.2.2.2.2.2.2.2.2.2.2.2.1)
             have HS18_ := (hb.cell (World.block_lt_of_cell? _ _ (hHeld.2.2.2.2.2.2.2.2.2.2.2.2.2.2.2.2.2.2.1))).trans (hHeld.2.2.2.2.2.2.2.2.2.2.2.2.2.2.2.2.2.2.1)
             have HS19_ := (hb.cell (World.block_lt_of_cell? _ _ (hHeld.2.2.2.2.2.2.2.2.2.2.2.2.2.2.2.2.2.2.2.1))).trans (hHeld.2.2.2.2.2.2.2.2.2.2.2.2.2.2.2.2.2.2.2.1)
             have HS20_ := (hb.cell (World.block_lt_of_cell? _ _ (hHeld.2.2.2.2.2.2.2.2.2.2.2.2.2.2.2.2.2.2.2.2.1))).trans (hHeld.2.2.2.2.2.2.2.2.2.2.2.2.2.2.2.2.2.2.2.2.1)
             have HS21_ := (hb.cell (World.block_lt_of_cell? _ _ (hHeld.2.2.2.2.2.2.2.2.2.2.2.2.2.2.2.2.2.2.2.2.2.1))).trans (hHeld.2.2.2.2.2.2.2.2.2.2.2.2.2.2.2.2.2.2.2.2.2.1)
             have HS22_ := (hb.cell (World.block_lt_of_cell? _ _ (hHeld.2.2.2.2.2.2.2.2.2.2.2.2.2.2.2.2.2.2.2.2.2.2.1))).trans (hHeld.2.2.2.2.2.2.2.2.2.2.2.2.2.2.2.2.2.2.2.2.2.2.1)
             have HS23_ := (hb.cell (World.block_lt_of_cell? _ _ (hHeld.2.2.2.2.2.2.2.2.2.2.2.2.2.2.2.2.2.2.2.2.2.2.2.1))).trans (hHeld.2.2.2.2.2.2.2.2.2.2.2.2.2.2.2.2.2.2.2.2.2.2.2.1)
             have HS24_ := (hb.cell (World.block_lt_of_cell? _ _ (hHeld.2.2.2.2.2.2.2.2.2.2.2.2.2.2.2.2.2.2.2.2.2.2.2.2.1))).trans (hHeld.2.2.2.2.2.2.2.2.2.2.2.2.2.2.2.2.2.2.2.2.2.2.2.2.1)
             have HS25_ := (hb.cell (World.block_lt_of_cell? _ _ (hHeld.2.2.2.2.2.2.2.2.2.2.2.2.2.2.2.2.2.2.2.2.2.2.2.2.2.1))).trans (hHeld.2.2.2.2.2.2.2.2.2.2.2.2.2.2.2.2.2.2.2.2.2.2.2.2.2.1)
             have HS26_ := (hb.cell (World.block_lt_of_cell? _ _ (hHeld.2.2.2.2.2.2.2.2.2.2.2.2.2.2.2.2.2.2.2.2.2.2.2.2.2.2.1))).trans (hHeld.2.2.2.2.2.2.2.2.2.2.2.2.2.2.2.2.2.2.2.2.2.2.2.2.2.2.1)
             have HS27_ := (hb.cell (World.block_lt_of_cell? _ _ (hHeld.2.2.2.2.2.2.2.2.2.2.2.2.2.2.2.2.2.2.2.2.2.2.2.2.2.2.2.1))).trans (hHeld.2.2.2.2.2.2.2.2.2.2.2.2.2.2.2.2.2.2.2.2.2.2.2.2.2.2.2.1)
             have HS28_ := (hb.cell (World.block_lt_of_cell? _ _ (hHeld.2.2.2.2.2.2.2.2.2.2.2.2.2.2.2.2.2.2.2.2.2.2.2.2.2.2.2.2.1))).trans (hHeld.2.2.2.2.2.2.2.2.2.2.2.2.2.2.2.2.2.2.2.2.2.2.2.2.2.2.2.2.1)
             have HS29_ := (hb.cell (World.block_lt_of_cell? _ _ (hHeld.2.2.2.2.2.2.2.2.2.2.2.2.2.2.2.2.2.2.2.2.2.2.2.2.2.2.2.2.2.1))).trans (hHeld.2.2.2.2.2.2.2.2.2.2.2.2.2.2.2.2.2.2.2.2.2.2.2.2.2.2.2.2.2.1)
             have HS30_ := (hb.cell (World.block_lt_of_cell? _ _ (hHeld.2.2.2.2.2.2.2.2.2.2.2.2.2.2.2.2.2.2.2.2.2.2.2.2.2.2.2.2.2.2.1))).trans (hHeld.2.2.2.2.2.2.2.2.2.2.2.2.2.2.2.2.2.2.2.2.2.2.2.2.2.2.2.2.2.2.1)
             have HS31_ := (hb.cell (World.block_lt_of_cell? _ _ (hHeld.2.2.2.2.2.2.2.2.2.2.2.2.2.2.2.2.2.2.2.2.2.2.2.2.2.2.2.2.2.2.2.1))).trans (hHeld.2.2.2.2.2.2.2.2.2.2.2.2.2.2.2.2.2.2.2.2.2.2.2.2.2.2.2.2.2.2.2.1)
             have HS32_ := (hb.cell (World.block_lt_of_cell? _ _ (hHeld.2.2.2.2.2.2.2.2.2.2.2.2.2.2.2.2.2.2.2.2.2.2.2.2.2.2.2.2.2.2.2.2.1))).trans (hHeld.2.2.2.2.2.2.2.2.2.2.2.2.2.2.2.2.2.2.2.2.2.2.2.2.2.2.2.2.2.2.2.2.1)
             have HS33_ := (hb.cell (World.block_lt_of_cell? _ _ (hHeld.2.2.2.2.2.2.2.2.2.2.2.2.2.2.2.2.2.2.2.2.2.2.2.2.2.2.2.2.2.2.2.2.2.1))).trans (hHeld.2.2.2.2.2.2.2.2.2.2.2.2.2.2.2.2.2.2.2.2.2.2.2.2.2.2.2.2.2.2.2.2.2.1)
             have HS34_ := (hb.cell (World.block_lt_of_cell? _ _ (hHeld.2.2.2.2.2.2.2.2.2.2.2.2.2.2.2.2.2.2.2.2.2.2.2.2.2.2.2.2.2.2.2.2.2.2.1))).trans (hHeld.2.2.2.2.2.2.2.2.2.2.2.2.2.2.2.2.2.2.2.2.2.2.2.2.2.2.2.2.2.2.2.2.2.2.1)
             have HS35_ := (hb.cell (World.block_lt_of_cell? _ _ (hHeld.2.2.2.2.2.2.2.2.2.2.2.2.2.2.2.2.2.2.2.2.2.2.2.2.2.2.2.2.2.2.2.2.2.2.2))).trans (hHeld.2.2.2.2.2.2.2.2.2.2.2.2.2.2.2.2.2.2.2.2.2.2.2.2.2.2.2.2.2.2.2.2.2.2.2)
             refine ⟨_, rfl, ?_⟩
             replace HO188 := Goto.nbN HO188 hb; replace HO191 := Goto.nbN HO191 hb; replace HO195 := Goto.m0 (Kd.R_below (Goto.rk HO195) hb); replace BK192 := Goto.bb BK192 hb; replace HL207_2 := Goto.nbV HL207_2 hb; replace HL207_3 := Goto.nbV HL207_3 hb; replace HL218_2 := Goto.nbV HL218_2 hb; replace HL218_3 := Goto.nbV HL218_3 hb; replace HR207_2 := Goto.cb HR207_2 hb; replace HR207_3 := Goto.cb HR207_3 hb; replace HR218_2 := Goto.cb HR218_2 hb; replace HR218_3 := Goto.cb HR218_3 hb; replace HB := Goto.hs HB hb
             (try clear hb)
             (try clear hb2)
             (try clear hk)
             (try clear hi)
             refine hK.out _ _ ⟨(blk_cell BK192.out 0).trans rfl, (blk_cell BK192.out 1).trans rfl, (blk_cell BK192.out 2).trans rfl, (blk_cell BK192.out 3).trans rfl, HS4_, HS5_, HS6_, HS7_, HS8_, HS9_, HS10_, HS11_, HS12_, HS13_, HS14_, HS15_, HS16_, HS17_, HS18_, HS19_, HS20_, HS21_, HS22_, HS23_, HS24_, HS25_, HS26_, HS27_, HS28_, HS29_, HS30_, HS31_, HS32_, HS33_, HS34_, HS35_⟩ (fun hHeld => ?_)
             clear hK K
             refine norm_ (a' := ?_) ?_ ?_
             rotate_left
             ·
              show Act.put _ (some 21) _ = _
              exact Goto.ap
             refine Goto.pu 15 22 57 65535 ?_
             refine Goto.pu 16 23 57 131071 ?_
             refine Goto.pu 17 24 57 262143 ?_
             refine Goto.pu 18 25 57 524287 ?_
             refine one_ (i := 19) (N := some 26) (Goto.bs 57 1048575) rfl rfl (one_of HT_.out (by kernel_rfl)) (by decide) (fun K hK => ?_)
             refine goes_ Tryd.func13 (by kernel_rfl) rfl #[.slice (some ad196) y193.length co30] (by rfl) rfl rfl (by (try simp only [List.map_toArray, List.map_cons, List.map_nil]); first | done | rfl | (simp only [List.length_drop, List.length_take]; rfl)) ?_
             with_reducible refine (ext_13.calls _ _ y193 t201 _ (Goto.kt (Goto.hx HB) HLD.out) ?side1 ?side2 A10.out).mono ?_
             (case side1 => repeat (first | exact (Kd.R_reads' HO195.out).2.2 | (with_reducible refine Kd.C_alloc ?_ _) | (with_reducible refine Kd.C_drewN ?_ _) | (with_reducible refine Kd.C_drew ?_)))
             (case side2 => exact (Kd.R_reads' HO195.out).2.1)
             rintro e w35 ⟨rfl, hb⟩
             have HS4_ := (hb.cell (World.block_lt_of_cell? _ _ (hHeld.2.2.2.2.1))).trans (hHeld.2.2.2.2.1)
             have HS5_ := (hb.cell (World.block_lt_of_cell? _ _ (hHeld.2.2.2.2.2.1))).trans (hHeld.2.2.2.2.2.1)
             have HS6_ := (hb.cell (World.block_lt_of_cell? _ _ (hHeld.2.2.2.2.2.2.1))).trans (hHeld.2.2.2.2.2.2.1)
             have HS7_ := (hb.cell (World.block_lt_of_cell? _ _ (hHeld.2.2.2.2.2.2.2.1))).trans (hHeld.2.2.2.2.2.2.2.1)
             have HS8_ := (hb.cell (World.block_lt_of_cell? _ _ (hHeld.2.2.2.2.2.2.2.2.1))).trans (hHeld.2.2.2.2.2.2.2.2.1)
             have HS9_ := (hb.cell (World.block_lt_of_cell? _ _ (hHeld.2.2.2.2.2.2.2.2.2.1))).trans (hHeld.2.2.2.2.2.2.2.2.2.1)
             have HS10_ := (hb.cell (World.block_lt_of_cell? _ _ (hHeld.2.2.2.2.2.2.2.2.2.2.1))).trans (hHeld.2.2.2.2.2.2.2.2.2.2.1)
             have HS11_ := (hb.cell (World.block_lt_of_cell? _ _ (hHeld.2.2.2.2.2.2.2.2.2.2.2.1))).trans (hHeld.2.2.2.2.2.2.2.2.2.2.2.1)
             have HS12_ := (hb.cell (World.block_lt_of_cell? _ _ (hHeld.2.2.2.2.2.2.2.2.2.2.2.2.1))).trans (hHeld.2.2.2.2.2.2.2.2.2.2.2.2.1)
             have HS13_ := (hb.cell (World.block_lt_of_cell? _ _ (hHeld.2.2.2.2.2.2.2.2.2.2.2.2.2.1))).trans (hHeld.2.2.2.2.2.2.2.2.2.2.2.2.2.1)
             have HS14_ := (hb.cell (World.block_lt_of_cell? _ _ (hHeld.2.2.2.2.2.2.2.2.2.2.2.2.2.2.1))).trans (hHeld.2.2.2.2.2.2.2.2.2.2.2.2.2.2.1)
             have HS15_ := (hb.cell (World.block_lt_of_cell? _ _ (hHeld.2.2.2.2.2.2.2.2.2.2.2.2.2.2.2.1))).trans (hHeld.2.2.2.2.2.2.2.2.2.2.2.2.2.2.2.1)
             have HS16_ := (hb.cell (World.block_lt_of_cell? _ _ (hHeld.2.2.2.2.2.2.2.2.2.2.2.2.2.2.2.2.1))).trans (hHeld.2.2.2.2.2.2.2.2.2.2.2.2.2.2.2.2.1)
             have HS17_ := (hb.cell (World.block_lt_of_cell? _ _ (hHeld.2.2.2.2.2.2.2.2.2.2.2.2.2.2.2.2.2.1))).trans (hHeld.2.2.2.2.2.2.2.2.2.2.2.2.2.2.2.2.2.1)
             have HS18_ := (hb.cell (World.block_lt_of_cell? _ _ (hHeld.2.2.2.2.2.2.2.2.2.2.2.2.2.2.2.2.2.2.1))).trans (hHeld.2.2.2.2.2.2.2.2.2.2.2.2.2.2.2.2.2.2.1)
             have HS19_ := (hb.cell (World.block_lt_of_cell? _ _ (hHeld.2.2.2.2.2.2.2.2.2.2.2.2.2.2.2.2.2.2.2.1))).trans (hHeld.2.2.2.2.2.2.2.2.2.2.2.2.2.2.2.2.2.2.2.1)
             have HS20_ := (hb.cell (World.block_lt_of_cell? _ _ (hHeld.2.2.2.2.2.2.2.2.2.2.2.2.2.2.2.2.2.2.2.2.1))).trans (hHeld.2.2.2.2.2.2.2.2.2.2.2.2.2.2.2.2.2.2.2.2.1)
             have HS21_ := (hb.cell (World.block_lt_of_cell? _ _ (hHeld.2.2.2.2.2.2.2.2.2.2.2.2.2.2.2.2.2.2.2.2.2.1))).trans (hHeld.2.2.2.2.2.2.2.2.2.2.2.2.2.2.2.2.2.2.2.2.2.1)
             have HS22_ := (hb.cell (World.block_lt_of_cell? _ _ (hHeld.2.2.2.2.2.2.2.2.2.2.2.2.2.2.2.2.2.2.2.2.2.2.1))).trans (hHeld.2.2.2.2.2.2.2.2.2.2.2.2.2.2.2.2.2.2.2.2.2.2.1)
             have HS23_ := (hb.cell (World.block_lt_of_cell? _ _ (hHeld.2.2.2.2.2.2.2.2.2.2.2.2.2.2.2.2.2.2.2.2.2.2.2.1))).trans (hHeld.2.2.2.2.2.2.2.2.2.2.2.2.2.2.2.2.2.2.2.2.2.2.2.1)
             have HS24_ := (hb.cell (World.block_lt_of_cell? _ _ (hHeld.2.2.2.2.2.2.2.2.2.2.2.2.2.2.2.2.2.2.2.2.2.2.2.2.1))).trans (hHeld.2.2.2.2.2.2.2.2.2.2.2.2.2.2.2.2.2.2.2.2.2.2.2.2.1)
             have HS25_ := (hb.cell (World.block_lt_of_cell? _ _ (hHeld.2.2.2.2.2.2.2.2.2.2.2.2.2.2.2.2.2.2.2.2.2.2.2.2.2.1))).trans (hHeld.2.2.2.2.2.2.2.2.2.2.2.2.2.2.2.2.2.2.2.2.2.2.2.2.2.1)
             have HS26_ := (hb.cell (World.block_lt_of_cell? _ _ (hHeld.2.2.2.2.2.2.2.2.2.2.2.2.2.2.2.2.2.2.2.2.2.2.2.2.2.2.1))).trans (hHeld.2.2.2.2.2.2.2.2.2.2.2.2.2.2.2.2.2.2.2.2.2.2.2.2.2.2.1)
             have HS27_ := (hb.cell (World.block_lt_of_cell? _ _ (hHeld.2.2.2.2.2.2.2.2.2.2.2.2.2.2.2.2.2.2.2.2.2.2.2.2.2.2.2.1))).trans (hHeld.2.2.2.2.2.2.2.2.2.2.2.2.2.2.2.2.2.2.2.2.2.2.2.2.2.2.2.1)
             have HS28_ := (hb.cell (World.block_lt_of_cell? _ _ (hHeld.2.2.2.2.2.2.2.2.2.2.2.2.2.2.2.2.2.2.2.2.2.2.2.2.2.2.2.2.1))).trans (hHeld.2.2.2.2.2.2.2.2.2.2.2.2.2.2.2.2.2.2.2.2.2.2.2.2.2.2.2.2.1)
             have HS29_ := (hb.cell (World.block_lt_of_cell? _ _ (hHeld.2.2.2.2.2.2.2.2.2.2.2.2.2.2.2.2.2.2.2.2.2.2.2.2.2.2.2.2.2.1))).trans (hHeld.2.2.2.2.2.2.2.2.2.2.2.2.2.2.2.2.2.2.2.2.2.2.2.2.2.2.2.2.2.1)
             have HS30_ := (hb.cell (World.block_lt_of_cell? _ _ (hHeld.2.2.2.2.2.2.2.2.2.2.2.2.2.2.2.2.2.2.2.2.2.2.2.2.2.2.2.2.2.2.1))).trans (hHeld.2.2.2.2.2.2.2.2.2.2.2.2.2.2.2.2.2.2.2.2.2.2.2.2.2.2.2.2.2.2.1)
             have HS31_ := (hb.cell (World.block_lt_of_cell? _ _ (hHeld.2.2.2.2.2.2.2.2.2.2.2.2.2.2.2.2.2.2.2.2.2.2.2.2.2.2.2.2.2.2.2.1))).trans (hHeld.2.2.2.2.2.2.2.2.2.2.2.2.2.2.2.2.2.2.2.2.2.2.2.2.2.2.2.2.2.2.2.1)
             have HS32_ := (hb.cell (World.block_lt_of_cell? _ _ (hHeld.2.2.2.2.2.2.2.2.2.2.2.2.2.2.2.2.2.2.2.2.2.2.2.2.2.2.2.2.2.2.2.2.1))).trans (hHeld.2.2.2.2.2.2.2.2.2.2.2.2.2.2.2.2.2.2.2.2.2.2.2.2.2.2.2.2.2.2.2.2.1)
             have HS33_ := (hb.cell (World.block_lt_of_cell? _ _ (hHeld.2.2.2.2.2.2.2.2.2.2.2.2.2.2.2.2.2.2.2.2.2.2.2.2.2.2.2.2.2.2.2.2.2.1))).trans (hHeld.2.2.2.2.2.2.2.2.2.2.2.2.2.2.2.2.2.2.2.2.2.2.2.2.2.2.2.2.2.2.2.2.2.1)
             have HS34_ := (hb.cell (World.block_lt_of_cell? _ _ (hHeld.2.2.2.2.2.2.2.2.2.2.2.2.2.2.2.2.2.2.2.2.2.2.2.2.2.2.2.2.2.2.2.2.2.2.1))).trans (hHeld.2.2.2.2.2.2.2.2.2.2.2.2.2.2.2.2.2.2.2.2.2.2.2.2.2.2.2.2.2.2.2.2.2.2.1)
             have HS35_ := (hb.cell (World.block_lt_of_cell? _ _ (hHeld.2.2.2.2.2.2.2.2.2.2.2.2.2.2.2.2.2.2.2.2.2.2.2.2.2.2.2.2.2.2.2.2.2.2.2))).trans (hHeld.2.2.2.2.2.2.2.2.2.2.2.2.2.2.2.2.2.2.2.2.2.2.2.2.2.2.2.2.2.2.2.2.2.2.2)
             refine ⟨_, rfl, ?_⟩
             replace HO188 := Goto.nbN HO188 hb; replace HO191 := Goto.nbN HO191 hb; replace HO195 := Goto.m0 (Kd.R_below (Goto.rk HO195) hb); replace BK192 := Goto.bb BK192 hb; replace HL207_2 := Goto.nbV HL207_2 hb; replace HL207_3 := Goto.nbV HL207_3 hb; replace HL218_2 := Goto.nbV HL218_2 hb; replace HL218_3 := Goto.nbV HL218_3 hb; replace HR207_2 := Goto.cb HR207_2 hb; replace HR207_3 := Goto.cb HR207_3 hb; replace HR218_2 := Goto.cb HR218_2 hb; replace HR218_3 := Goto.cb HR218_3 hb; replace HB := Goto.hs HB hb
             (try clear hb)
             (try clear hb2)
             (try clear hk)
             (try clear hi)
             refine hK.out _ _ ⟨(blk_cell BK192.out 0).trans rfl, (blk_cell BK192.out 1).trans rfl, (blk_cell BK192.out 2).trans rfl, (blk_cell BK192.out 3).trans rfl, HS4_, HS5_, HS6_, HS7_, HS8_, HS9_, HS10_, HS11_, HS12_, HS13_, HS14_, HS15_, HS16_, HS17_, HS18_, HS19_, HS20_, HS21_, HS22_, HS23_, HS24_, HS25_, HS26_, HS27_, HS28_, HS29_, HS30_, HS31_, HS32_, HS33_, HS34_, HS35_⟩ (fun hHeld => ?_)
             clear hK K
             refine norm_ (a' := ?_) ?_ ?_
             rotate_left
             ·
              show Act.put _ (some 26) _ = _
              exact Goto.ap
             refine Goto.pu 20 27 57 2097151 ?_
             refine Goto.pu 21 28 57 4194303 ?_
             refine Goto.pu 22 29 57 8388607 ?_
             refine Goto.pu 23 30 57 16777215 ?_
             refine Goto.pu 24 31 57 33554431 ?_
             refine one_ (i := 25) (N := some 32) (Goto.bs 57 67108863) rfl rfl (one_of HT_.out (by kernel_rfl)) (by decide) (fun K hK => ?_)
             refine goes_ Tryd.func11 (by kernel_rfl) rfl #[.slice (some ad196) y193.length co30, .slice (some ad196) y193.length co30] (by rfl) rfl rfl (by (try simp only [List.map_toArray, List.map_cons, List.map_nil]); first | done | rfl | (simp only [List.length_drop, List.length_take]; rfl)) ?_
             with_reducible refine (ext_11.calls _ _ y193 _ _ y193 true _ ?side1 ?side2 ?side3 ?side4 A12.out).mono ?_
             (case side1 => repeat (first | exact (Kd.R_reads' HO195.out).2.2 | (with_reducible refine Kd.C_alloc ?_ _) | (with_reducible refine Kd.C_drewN ?_ _) | (with_reducible refine Kd.C_drew ?_)))
             (case side2 => exact (Kd.R_reads' HO195.out).2.1)
             (case side3 => repeat (first | exact (Kd.R_reads' HO195.out).2.2 | (with_reducible refine Kd.C_alloc ?_ _) | (with_reducible refine Kd.C_drewN ?_ _) | (with_reducible refine Kd.C_drew ?_)))
             (case side4 => exact (Kd.R_reads' HO195.out).2.1)
             rintro e w' ⟨rfl, ⟨nd, rfl⟩⟩
             refine ⟨_, rfl, ?_⟩
             refine hK.out _ _ ⟨(blk_cell BK192.out 0).trans rfl, (blk_cell BK192.out 1).trans rfl, (blk_cell BK192.out 2).trans rfl, (blk_cell BK192.out 3).trans rfl, hHeld.2.2.2.2.1, hHeld.2.2.2.2.2.1, hHeld.2.2.2.2.2.2.1, hHeld.2.2.2.2.2.2.2.1, hHeld.2.2.2.2.2.2.2.2.1, hHeld.2.2.2.2.2.2.2.2.2.1, hHeld.2.2.2.2.2.2.2.2.2.2.1, hHeld.2.2.2.2.2.2.2.2.2.2.2.1, hHeld.2.2.2.2.2.2.2.2.2.2.2.2.1, hHeld.2.2.2.2.2.2.2.2.2.2.2.2.2.1, hHeld.2.2.2.2.2.2.2.2.2.2.2.2.2.2.1, hHeld.2.2.2.2.2.2.2.2.2.2.2.2.2.2.2.1, hHeld.2.2.2.2.2.2.2.2.2.2.2.2.2.2.2.2.1, hHeld.2.2.2.2.2.2.2.2.2.2.2.2.2.2.2.2.2.1, hHeld.2.2.2.2.2.2.2.2.2.2.2.2.2.2.2.2.2.2.1, hHeld.2.2.2.2.2.2.2.2.2.2.2.2.2.2.2.2.2.2.2.1, hHeld.2.2.2.2.2.2.2.2.2.2.2.2.2.2.2.2.2.2.2.2.1, hHeld.2.2.2.2.2.2.2.2.2.2.2.2.2.2.2.2.2.2.2.2.2.1, hHeld.2.2.2.2.2.2.2.2.2.2.2.2.2.2.2.2.2.2.2.2.2.2.1, hHeld.2.2.2.2.2.2.2.2.2.2.2.2.2.2.2.2.2.2.2.2.2.2.2.1, hHeld.2.2.2.2.2.2.2.2.2.2.2.2.2.2.2.2.2.2.2.2.2.2.2.2.1, hHeld.2.2.2.2.2.2.2.2.2.2.2.2.2.2.2.2.2.2.2.2.2.2.2.2.2.1, hHeld.2.2.2.2.2.2.2.2.2.2.2.2.2.2.2.2.2.2.2.2.2.2.2.2.2.2.1, hHeld.2.2.2.2.2.2.2.2.2.2.2.2.2.2.2.2.2.2.2.2.2.2.2.2.2.2.2.1, hHeld.2.2.2.2.2.2.2.2.2.2.2.2.2.2.2.2.2.2.2.2.2.2.2.2.2.2.2.2.1, hHeld.2.2.2.2.2.2.2.2.2.2.2.2.2.2.2.2.2.2.2.2.2.2.2.2.2.2.2.2.2.1, hHeld.2.2.2.2.2.2.2.2.2.2.2.2.2.2.2.2.2.2.2.2.2.2.2.2.2.2.2.2.2.2.1, hHeld.2.2.2.2.2.2.2.2.2.2.2.2.2.2.2.2.2.2.2.2.2.2.2.2.2.2.2.2.2.2.2.1, hHeld.2.2.2.2.2.2.2.2.2.2.2.2.2.2.2.2.2.2.2.2.2.2.2.2.2.2.2.2.2.2.2.2.1, hHeld.2.2.2.2.2.2.2.2.2.2.2.2.2.2.2.2.2.2.2.2.2.2.2.2.2.2.2.2.2.2.2.2.2.1, hHeld.2.2.2.2.2.2.2.2.2.2.2.2.2.2.2.2.2.2.2.2.2.2.2.2.2.2.2.2.2.2.2.2.2.2.1, hHeld.2.2.2.2.2.2.2.2.2.2.2.2.2.2.2.2.2.2.2.2.2.2.2.2.2.2.2.2.2.2.2.2.2.2.2⟩ (fun hHeld => ?_)
             clear hK K
             refine norm_ (a' := ?_) ?_ ?_
             rotate_left
             ·
              show Act.put _ (some 32) _ = _
              exact Goto.ap
             refine Goto.pu 26 33 57 134217727 ?_
             refine Goto.pu 27 34 57 268435455 ?_
             refine Goto.pu 28 35 57 536870911 ?_
             refine one_ (i := 29) (N := some 36) (Goto.bs 57 1073741823) rfl rfl (one_of HT_.out (by kernel_rfl)) (by decide) (fun K hK => ?_)
             refine goes_ Tryd.func11 (by kernel_rfl) rfl #[.slice (some ad196) y193.length co30, .slice none 0 0] (by rfl) rfl rfl (by (try simp only [List.map_toArray, List.map_cons, List.map_nil]); first | done | rfl | (simp only [List.length_drop, List.length_take]; rfl)) ?_
             refine (ext_11.calls _ _ y193 _ _ ([] : List (S35)) false _ ?side1 ?side2 ?side3 ?side4 A14.out).mono ?_
             (case side1 => repeat (first | exact (Kd.R_reads' HO195.out).2.2 | (with_reducible refine Kd.C_alloc ?_ _) | (with_reducible refine Kd.C_drewN ?_ _) | (with_reducible refine Kd.C_drew ?_)))
             (case side2 => exact (Kd.R_reads' HO195.out).2.1)
             (case side3 => exact Kd.C_nil _ _)
             (case side4 => exact Nat.le_refl _)
             rintro e w' ⟨rfl, ⟨nd, rfl⟩⟩
             refine ⟨_, rfl, ?_⟩
             refine hK.out _ _ ⟨(blk_cell BK192.out 0).trans rfl, (blk_cell BK192.out 1).trans rfl, (blk_cell BK192.out 2).trans rfl, (blk_cell BK192.out 3).trans rfl, hHeld.2.2.2.2.1, hHeld.2.2.2.2.2.1, hHeld.2.2.2.2.2.2.1, hHeld.2.2.2.2.2.2.2.1, hHeld.2.2.2.2.2.2.2.2.1, hHeld.2.2.2.2.2.2.2.2.2.1, hHeld.2.2.2.2.2.2.2.2.2.2.1, hHeld.2.2.2.2.2.2.2.2.2.2.2.1, hHeld.2.2.2.2.2.2.2.2.2.2.2.2.1, hHeld.2.2.2.2.2.2.2.2.2.2.2.2.2.1, hHeld.2.2.2.2.2.2.2.2.2.2.2.2.2.2.1, hHeld.2.2.2.2.2.2.2.2.2.2.2.2.2.2.2.1, hHeld.2.2.2.2.2.2.2.2.2.2.2.2.2.2.2.2.1, hHeld.2.2.2.2.2.2.2.2.2.2.2.2.2.2.2.2.2.1, hHeld.2.2.2.2.2.2.2.2.2.2.2.2.2.2.2.2.2.2.1, hHeld.2.2.2.2.2.2.2.2.2.2.2.2.2.2.2.2.2.2.2.1, hHeld.2.2.2.2.2.2.2.2.2.2.2.2.2.2.2.2.2.2.2.2.1, hHeld.2.2.2.2.2.2.2.2.2.2.2.2.2.2.2.2.2.2.2.2.2.1, hHeld.2.2.2.2.2.2.2.2.2.2.2.2.2.2.2.2.2.2.2.2.2.2.1, hHeld.2.2.2.2.2.2.2.2.2.2.2.2.2.2.2.2.2.2.2.2.2.2.2.1, hHeld.2.2.2.2.2.2.2.2.2.2.2.2.2.2.2.2.2.2.2.2.2.2.2.2.1, hHeld.2.2.2.2.2.2.2.2.2.2.2.2.2.2.2.2.2.2.2.2.2.2.2.2.2.1, hHeld.2.2.2.2.2.2.2.2.2.2.2.2.2.2.2.2.2.2.2.2.2.2.2.2.2.2.1, hHeld.2.2.2.2.2.2.2.2.2.2.2.2.2.2.2.2.2.2.2.2.2.2.2.2.2.2.2.1, hHeld.2.2.2.2.2.2.2.2.2.2.2.2.2.2.2.2.2.2.2.2.2.2.2.2.2.2.2.2.1, hHeld.2.2.2.2.2.2.2.2.2.2.2.2.2.2.2.2.2.2.2.2.2.2.2.2.2.2.2.2.2.1, hHeld.2.2.2.2.2.2.2.2.2.2.2.2.2.2.2.2.2.2.2.2.2.2.2.2.2.2.2.2.2.2.1, hHeld.2.2.2.2.2.2.2.2.2.2.2.2.2.2.2.2.2.2.2.2.2.2.2.2.2.2.2.2.2.2.2.1, hHeld.2.2.2.2.2.2.2.2.2.2.2.2.2.2.2.2.2.2.2.2.2.2.2.2.2.2.2.2.2.2.2.2.1, hHeld.2.2.2.2.2.2.2.2.2.2.2.2.2.2.2.2.2.2.2.2.2.2.2.2.2.2.2.2.2.2.2.2.2.1, hHeld.2.2.2.2.2.2.2.2.2.2.2.2.2.2.2.2.2.2.2.2.2.2.2.2.2.2.2.2.2.2.2.2.2.2.1, hHeld.2.2.2.2.2.2.2.2.2.2.2.2.2.2.2.2.2.2.2.2.2.2.2.2.2.2.2.2.2.2.2.2.2.2.2⟩ (fun hHeld => ?_)
             clear hK K
             refine norm_ (a' := ?_) ?_ ?_
             rotate_left
             ·
              show Act.put _ (some 36) _ = _
              exact Goto.ap
             refine Goto.pu 30 37 57 2147483647 ?_
             refine Goto.pu 31 38 57 4294967295 ?_
             refine Goto.pu 32 39 57 8589934591 ?_
             refine Goto.pu 35 42 57 42949672959 ?_
             refine take_ (i := 33) (N := some 40) (v := ?_) (a' := ?_) (Goto.bs 57 51539607551) rfl rfl (take_ofW HT_.out HW_.out (by kernel_rfl)) (fun _ _ _ h => h) (Or.inl ⟨by rfl, ?_⟩) hHeld ?_ ?_
             rotate_left
             ·
              rintro w' ⟨s0, s1, s2, s3, s4, s5, s6, s7, s8, s9, s10, s11, s12, s13, s14, s15, s16, s17, s18, s19, s20, s21, s22, s23, s24, s25, s26, s27, s28, s29, s30, s31, s32, s33, s34, s35⟩
              go_simp
              with_reducible rfl
             rotate_left
             ·
              exact Goto.ap
             refine take_ (i := 36) (N := some 43) (v := ?_) (a' := ?_) (Goto.bs 57 120259084287) rfl rfl (take_ofW HT_.out HW_.out (by kernel_rfl)) (fun _ _ _ h => h) (Or.inl ⟨by rfl, ?_⟩) hHeld ?_ ?_
             rotate_left
             ·
              rintro w' ⟨s0, s1, s2, s3, s4, s5, s6, s7, s8, s9, s10, s11, s12, s13, s14, s15, s16, s17, s18, s19, s20, s21, s22, s23, s24, s25, s26, s27, s28, s29, s30, s31, s32, s33, s34, s35⟩
              go_simp
              with_reducible rfl
             rotate_left
             ·
              exact Goto.ap
             refine Goto.pu 37 44 57 257698037759 ?_
             refine Goto.pu 38 45 57 532575944703 ?_
             refine take_ (i := 39) (N := some 46) (v := ?_) (a' := ?_) (Goto.bs 57 1082331758591) rfl rfl (take_ofW HT_.out HW_.out (by kernel_rfl)) (fun _ _ _ h => h) (Or.inl ⟨by rfl, ?_⟩) hHeld ?_ ?_
             rotate_left
             ·
              rintro w' ⟨s0, s1, s2, s3, s4, s5, s6, s7, s8, s9, s10, s11, s12, s13, s14, s15, s16, s17, s18, s19, s20, s21, s22, s23, s24, s25, s26, s27, s28, s29, s30, s31, s32, s33, s34, s35⟩
              go_simp
              with_reducible rfl
             rotate_left
             ·
              exact Goto.ap
             refine join_ (σ := Value × Value × Value) 15 (Goto.bs 57 4398046511103) (fun s_ => [(41, s_.1), (47, s_.2.1), (48, s_.2.2)]) (fun s_ w' => (w'.cell? ⟨gb192, 0, none⟩ = some (.int .i64 t184) ∧ w'.cell? ⟨gb192, 1, none⟩ = some (.int .i64 t185) ∧ w'.cell? ⟨gb192, 2, none⟩ = some (.slice Ao26 t186.length co26) ∧ w'.cell? ⟨gb192, 3, none⟩ = some (.slice (some ad207) t189.length co27) ∧ w'.cell? ad196 = some (.int .i64 ((rd_T35 y193 0).f0)) ∧ w'.cell? ⟨ad196.block, ad196.off + 1, none⟩ = some (.int .i64 ((rd_T35 y193 0).f1)) ∧ w'.cell? ⟨ad196.block, ad196.off + 2, none⟩ = some (.int .i64 ((rd_T35 y193 0).f2)) ∧ w'.cell? ⟨ad196.block, ad196.off + 3, none⟩ = some (.int .i64 ((rd_T35 y193 0).f3)) ∧ w'.cell? ⟨ad196.block, ad196.off + 4, none⟩ = some (.int .i64 ((rd_T35 y193 0).f4)) ∧ w'.cell? ⟨ad196.block, ad196.off + 5, none⟩ = some (.int .i64 ((rd_T35 y193 0).f5)) ∧ w'.cell? ⟨ad196.block, ad196.off + 6, none⟩ = some (.int .i64 ((rd_T35 y193 1).f0)) ∧ w'.cell? ⟨ad196.block, ad196.off + 6 + 1, none⟩ = some (.int .i64 ((rd_T35 y193 1).f1)) ∧ w'.cell? ⟨ad196.block, ad196.off + 6 + 2, none⟩ = some (.int .i64 ((rd_T35 y193 1).f2)) ∧ w'.cell? ⟨ad196.block, ad196.off + 6 + 3, none⟩ = some (.int .i64 ((rd_T35 y193 1).f3)) ∧ w'.cell? ⟨ad196.block, ad196.off + 6 + 4, none⟩ = some (.int .i64 ((rd_T35 y193 1).f4)) ∧ w'.cell? ⟨ad196.block, ad196.off + 6 + 5, none⟩ = some (.int .i64 ((rd_T35 y193 1).f5)) ∧ w'.cell? ⟨ad207.block, ad207.off + 10, none⟩ = some (.int .i64 ((rd_T46 t189 1).f0.f0)) ∧ w'.cell? ⟨ad207.block, ad207.off + 10 + 1, none⟩ = some (.int .u64 ((rd_T46 t189 1).f0.f1)) ∧ w'.cell? ⟨ad207.block, ad207.off + 10 + 2, none⟩ = some (.slice A207_2 ((rd_T46 t189 1).f1).length c207_2) ∧ w'.cell? ⟨ad207.block, ad207.off + 10 + 3, none⟩ = some (.slice A207_3 ((rd_T46 t189 1).f2).length c207_3) ∧ w'.cell? ⟨ad207.block, ad207.off + 10 + 4, none⟩ = some (.int .i64 ((rd_T46 t189 1).f3)) ∧ w'.cell? ⟨ad207.block, ad207.off + 10 + 5, none⟩ = some (.int .i64 ((rd_T46 t189 1).f4)) ∧ w'.cell? ⟨ad207.block, ad207.off + 10 + 6, none⟩ = some (.int .i64 ((rd_T46 t189 1).f5)) ∧ w'.cell? ⟨ad207.block, ad207.off + 10 + 7, none⟩ = some (.int .i64 ((rd_T46 t189 1).f6)) ∧ w'.cell? ⟨ad207.block, ad207.off + 10 + 8, none⟩ = some (.int .i64 ((rd_T46 t189 1).f7)) ∧ w'.cell? ⟨ad207.block, ad207.off + 10 + 9, none⟩ = some (.int .i64 ((rd_T46 t189 1).f8)) ∧ w'.cell? ad207 = some (.int .i64 ((rd_T46 t189 0).f0.f0)) ∧ w'.cell? ⟨ad207.block, ad207.off + 1, none⟩ = some (.int .u64 ((rd_T46 t189 0).f0.f1)) ∧ w'.cell? ⟨ad207.block, ad207.off + 2, none⟩ = some (.slice A218_2 ((rd_T46 t189 0).f1).length c218_2) ∧ w'.cell? ⟨ad207.block, ad207.off + 3, none⟩ = some (.slice A218_3 ((rd_T46 t189 0).f2).length c218_3) ∧ w'.cell? ⟨ad207.block, ad207.off + 4, none⟩ = some (.int .i64 ((rd_T46 t189 0).f3)) ∧ w'.cell? ⟨ad207.block, ad207.off + 5, none⟩ = some (.int .i64 ((rd_T46 t189 0).f4)) ∧ w'.cell? ⟨ad207.block, ad207.off + 6, none⟩ = some (.int .i64 ((rd_T46 t189 0).f5)) ∧ w'.cell? ⟨ad207.block, ad207.off + 7, none⟩ = some (.int .i64 ((rd_T46 t189 0).f6)) ∧ w'.cell? ⟨ad207.block, ad207.off + 8, none⟩ = some (.int .i64 ((rd_T46 t189 0).f7)) ∧ w'.cell? ⟨ad207.block, ad207.off + 9, none⟩ = some (.int .i64 ((rd_T46 t189 0).f8))) ∧ (Kd.V (Kd.slice 3 (Kd.int .i64)) 39 w' w.heap.size (fun k_ => some k_ ≠ (.slice Ao26 t186.length co26 : Value).ownBlock ∧ some k_ ≠ (.slice (some ad207) t189.length co27 : Value).ownBlock ∧ some k_ ≠ (.slice (some ad196) y193.length co30 : Value).ownBlock ∧ some k_ ≠ (s_.1 : Value).ownBlock ∧ some k_ ≠ (s_.2.1 : Value).ownBlock ∧ some k_ ≠ (s_.2.2 : Value).ownBlock ∧ k_ ≠ gb192) (.slice A207_2 ((rd_T46 t189 1).f1).length c207_2) ((rd_T46 t189 1).f1)) ∧ (Kd.V (Kd.int .i64) 3 w' w.heap.size (fun k_ => some k_ ≠ (.slice Ao26 t186.length co26 : Value).ownBlock ∧ some k_ ≠ (.slice (some ad207) t189.length co27 : Value).ownBlock ∧ some k_ ≠ (.slice (some ad196) y193.length co30 : Value).ownBlock ∧ some k_ ≠ (s_.1 : Value).ownBlock ∧ some k_ ≠ (s_.2.1 : Value).ownBlock ∧ some k_ ≠ (s_.2.2 : Value).ownBlock ∧ k_ ≠ gb192) (.slice A207_3 ((rd_T46 t189 1).f2).length c207_3) ((rd_T46 t189 1).f2)) ∧ (Kd.N (Kd.slice 3 (Kd.int .i64)) 39 w' w.heap.size (fun k_ => some k_ ≠ (.slice (some ad207) t189.length co27 : Value).ownBlock ∧ some k_ ≠ (.slice (some ad196) y193.length co30 : Value).ownBlock ∧ some k_ ≠ (s_.1 : Value).ownBlock ∧ some k_ ≠ (s_.2.1 : Value).ownBlock ∧ some k_ ≠ (s_.2.2 : Value).ownBlock ∧ k_ ≠ gb192) (.slice Ao26 t186.length co26) t186) ∧ (Kd.N k46 46 w' w.heap.size (fun k_ => some k_ ≠ (.slice Ao26 t186.length co26 : Value).ownBlock ∧ some k_ ≠ (.slice (some ad196) y193.length co30 : Value).ownBlock ∧ some k_ ≠ (s_.1 : Value).ownBlock ∧ some k_ ≠ (s_.2.1 : Value).ownBlock ∧ some k_ ≠ (s_.2.2 : Value).ownBlock ∧ k_ ≠ gb192) (.slice (some ad207) t189.length co27) t189) ∧ (Kd.R k35 35 w' w.heap.size (fun _ => True) (.slice (some ad196) y193.length co30) y193) ∧ (Kd.N (Kd.slice 35 k35) 26 w' w.heap.size (fun k_ => some k_ ≠ (.slice Ao26 t186.length co26 : Value).ownBlock ∧ some k_ ≠ (.slice (some ad207) t189.length co27 : Value).ownBlock ∧ some k_ ≠ (.slice (some ad196) y193.length co30 : Value).ownBlock ∧ some k_ ≠ (s_.2.1 : Value).ownBlock ∧ some k_ ≠ (s_.2.2 : Value).ownBlock ∧ k_ ≠ gb192) s_.1 y204) ∧ (Kd.R (Kd.int .i64) 3 w' w.heap.size (fun k_ => some k_ ≠ (s_.2.2 : Value).ownBlock) s_.2.1 t208) ∧ (Kd.R (Kd.int .i64) 3 w' w.heap.size (fun k_ => some k_ ≠ (s_.2.1 : Value).ownBlock) s_.2.2 y211) ∧ (w'.heap[gb192]? = some (.cells #[.int .i64 t184, .int .i64 t185, .slice Ao26 t186.length co26, .slice (some ad207) t189.length co27] 25 (0, 0))) ∧ (Below w.heap.size w w')) ?_ ?_
             rotate_left
             ·
              intro hCont
              refine two_ (i := 34) (j := 41) (Ni := some 41) (Nj := some 48) (Goto.bs 57 1099511627775) (Goto.bs 57 3281355014143) rfl rfl rfl rfl (two_of HT_.out (by kernel_rfl)) (by decide) (by decide) (fun K hK => ?_) (fun K hK => ?_)
              ·
               skip
               refine Kd.N_make_step (Kd.slice 35 k35) _ 26 (by rfl) (N' := 41) rfl 27 _ _ rfl 4 rfl rfl Tryd.underlying27 (.slice none 0 0) 24 info26 rfl (by decide) (by omega) [] (ok := fun k_ => w35.heap.size ≤ k_) (okp := fun _ => False) (Kd.FK_slice_mk (Nat.le_refl _) (Kd.F_nil _ _ _)) (fun _ hk => hk.elim) (Nat.le_refl _) (by omega) (by omega) (Below.refl _ _) (Nat.le_refl _) ?_
               intro v205 w36 ho37 hb hg_ hnew_
               have HS4_ := (hb.cell (World.block_lt_of_cell? _ _ (hHeld.2.2.2.2.1))).trans (hHeld.2.2.2.2.1)
               have HS5_ := (hb.cell (World.block_lt_of_cell? _ _ (hHeld.2.2.2.2.2.1))).trans (hHeld.2.2.2.2.2.1)
               have HS6_ := (hb.cell (World.block_lt_of_cell? _ _ (hHeld.2.2.2.2.2.2.1))).trans (hHeld.2.2.2.2.2.2.1)
               have HS7_ := (hb.cell (World.block_lt_of_cell? _ _ (hHeld.2.2.2.2.2.2.2.1))).trans (hHeld.2.2.2.2.2.2.2.1)
               have HS8_ := (hb.cell (World.block_lt_of_cell? _ _ (hHeld.2.2.2.2.2.2.2.2.1))).trans (hHeld.2.2.2.2.2.2.2.2.1)
               have HS9_ := (hb.cell (World.block_lt_of_cell? _ _ (hHeld.2.2.2.2.2.2.2.2.2.1))).trans (hHeld.2.2.2.2.2.2.2.2.2.1)
               have HS10_ := (hb.cell (World.block_lt_of_cell? _ _ (hHeld.2.2.2.2.2.2.2.2.2.2.1))).trans (hHeld.2.2.2.2.2.2.2.2.2.2.1)
               have HS11_ := (hb.cell (World.block_lt_of_cell? _ _ (hHeld.2.2.2.2.2.2.2.2.2.2.2.1))).trans (hHeld.2.2.2.2.2.2.2.2.2.2.2.1)
               have HS12_ := (hb.cell (World.block_lt_of_cell? _ _ (hHeld.2.2.2.2.2.2.2.2.2.2.2.2.1))).trans (hHeld.2.2.2.2.2.2.2.2.2.2.2.2.1)
               have HS13_ := (hb.cell (World.block_lt_of_cell? _ _ (hHeld.2.2.2.2.2.2.2.2.2.2.2.2.2.1))).trans (hHeld.2.2.2.2.2.2.2.2.2.2.2.2.2.1)
               have HS14_ := (hb.cell (World.block_lt_of_cell? _ _ (hHeld.2.2.2.2.2.2.2.2.2.2.2.2.2.2.1))).trans (hHeld.2.2.2.2.2.2.2.2.2.2.2.2.2.2.1)
               have HS15_ := (hb.cell (World.block_lt_of_cell? _ _ (hHeld.2.2.2.2.2.2.2.2.2.2.2.2.2.2.2.1))).trans (hHeld.2.2.2.2.2.2.2.2.2.2.2.2.2.2.2.1)
               have HS16_ := (hb.cell (World.block_lt_of_cell? _ _ (hHeld.2.2.2.2.2.2.2.2.2.2.2.2.2.2.2.2.1))).trans (hHeld.2.2.2.2.2.2.2.2.2.2.2.2.2.2.2.2.1)
               have HS17_ := (hb.cell (World.block_lt_of_cell? _ _ (hHeld.2.2.2.2.2.2.2.2.2.2.2.2.2.2.2.2.2.1))).trans (hHeld.2.2.2.2.2.2.2.2.2.2.2.2.2.2.2.2.2.1)
               have HS18_ := (hb.cell (World.block_lt_of_cell? _ _ (hHeld.2.2.2.2.2.2.2.2.2.2.2.2.2.2.2.2.2.2.1))).trans (hHeld.2.2.2.2.2.2.2.2.2.2.2.2.2.2.2.2.2.2.1)
               have HS19_ := (hb.cell (World.block_lt_of_cell? _ _ (hHeld.2.2.2.2.2.2.2.2.2.2.2.2.2.2.2.2.2.2.2.1))).trans (hHeld.2.2.2.2.2.2.2.2.2.2.2.2.2.2.2.2.2.2.2.1)
               have HS20_ := (hb.cell (World.block_lt_of_cell? _ _ (hHeld.2.2.2.2.2.2.2.2.2.2.2.2.2.2.2.2.2.2.2.2.1))).trans (hHeld.2.2.2.2.2.2.2.2.2.2.2.2.2.2.2.2.2.2.2.2.1)
               have HS21_ := (hb.cell (World.block_lt_of_cell? _ _ (hHeld.2.2.2.2.2.2.2.2.2.2.2.2.2.2.2.2.2.2.2.2.2.1))).trans (hHeld.2.2.2.2.2.2.2.2.2.2.2.2.2.2.2.2.2.2.2.2.2.1)
               have HS22_ := (hb.cell (World.block_lt_of_cell? _ _ (hHeld.2.2.2.2.2.2.2.2.2.2.2.2.2.2.2.2.2.2.2.2.2.2.1))).trans (hHeld.2.2.2.2.2.2.2.2.2.2.2.2.2.2.2.2.2.2.2.2.2.2.1)
               have HS23_ := (hb.cell (World.block_lt_of_cell? _ _ (hHeld.2.2.2.2.2.2.2.2.2.2.2.2.2.2.2.2.2.2.2.2.2.2.2.1))).trans (hHeld.2.2.2.2.2.2.2.2.2.2.2.2.2.2.2.2.2.2.2.2.2.2.2.1)
               have HS24_ := (hb.cell (World.block_lt_of_cell? _ _ (hHeld.2.2.2.2.2.2.2.2.2.2.2.2.2.2.2.2.2.2.2.2.2.2.2.2.1))).trans (hHeld.2.2.2.2.2.2.2.2.2.2.2.2.2.2.2.2.2.2.2.2.2.2.2.2.1)
               have HS25_ := (hb.cell (World.block_lt_of_cell? _ _ (hHeld.2.2.2.2.2.2.2.2.2.2.2.2.2.2.2.2.2.2.2.2.2.2.2.2.2.1))).trans (hHeld.2.2.2.2.2.2.2.2.2.2.2.2.2.2.2.2.2.2.2.2.2.2.2.2.2.1)
               have HS26_ := (hb.cell (World.block_lt_of_cell? _ _ (hHeld.2.2.2.2.2.2.2.2.2.2.2.2.2.2.2.2.2.2.2.2.2.2.2.2.2.2.1))).trans (hHeld.2.2.2.2.2.2.2.2.2.2.2.2.2.2.2.2.2.2.2.2.2.2.2.2.2.2.1)
               have HS27_ := (hb.cell (World.block_lt_of_cell? _ _ (hHeld.2.2.2.2.2.2.2.2.2.2.2.2.2.2.2.2.2.2.2.2.2.2.2.2.2.2.2.1))).trans (hHeld.2.2.2.2.2.2.2.2.2.2.2.2.2.2.2.2.2.2.2.2.2.2.2.2.2.2.2.1)
               have HS28_ := (hb.cell (World.block_lt_of_cell? _ _ (hHeld.2.2.2.2.2.2.2.2.2.2.2.2.2.2.2.2.2.2.2.2.2.2.2.2.2.2.2.2.1))).trans (hHeld.2.2.2.2.2.2.2.2.2.2.2.2.2.2.2.2.2.2.2.2.2.2.2.2.2.2.2.2.1)
               have HS29_ := (hb.cell (World.block_lt_of_cell? _ _ (hHeld.2.2.2.2.2.2.2.2.2.2.2.2.2.2.2.2.2.2.2.2.2.2.2.2.2.2.2.2.2.1))).trans (hHeld.2.2.2.2.2.2.2.2.2.2.2.2.2.2.2.2.2.2.2.2.2.2.2.2.2.2.2.2.2.1)
               have HS30_ := (hb.cell (World.block_lt_of_cell? _ _ (hHeld.2.2.2.2.2.2.2.2.2.2.2.2.2.2.2.2.2.2.2.2.2.2.2.2.2.2.2.2.2.2.1))).trans (hHeld.2.2.2.2.2.2.2.2.2.2.2.2.2.2.2.2.2.2.2.2.2.2.2.2.2.2.2.2.2.2.1)
               have HS31_ := (hb.cell (World.block_lt_of_cell? _ _ (hHeld.2.2.2.2.2.2.2.2.2.2.2.2.2.2.2.2.2.2.2.2.2.2.2.2.2.2.2.2.2.2.2.1))).trans (hHeld.2.2.2.2.2.2.2.2.2.2.2.2.2.2.2.2.2.2.2.2.2.2.2.2.2.2.2.2.2.2.2.1)
               have HS32_ := (hb.cell (World.block_lt_of_cell? _ _ (hHeld.2.2.2.2.2.2.2.2.2.2.2.2.2.2.2.2.2.2.2.2.2.2.2.2.2.2.2.2.2.2.2.2.1))).trans (hHeld.2.2.2.2.2.2.2.2.2.2.2.2.2.2.2.2.2.2.2.2.2.2.2.2.2.2.2.2.2.2.2.2.1)
               have HS33_ := (hb.cell (World.block_lt_of_cell? _ _ (hHeld.2.2.2.2.2.2.2.2.2.2.2.2.2.2.2.2.2.2.2.2.2.2.2.2.2.2.2.2.2.2.2.2.2.1))).trans (hHeld.2.2.2.2.2.2.2.2.2.2.2.2.2.2.2.2.2.2.2.2.2.2.2.2.2.2.2.2.2.2.2.2.2.1)
               have HS34_ := (hb.cell (World.block_lt_of_cell? _ _ (hHeld.2.2.2.2.2.2.2.2.2.2.2.2.2.2.2.2.2.2.2.2.2.2.2.2.2.2.2.2.2.2.2.2.2.2.1))).trans (hHeld.2.2.2.2.2.2.2.2.2.2.2.2.2.2.2.2.2.2.2.2.2.2.2.2.2.2.2.2.2.2.2.2.2.2.1)
               have HS35_ := (hb.cell (World.block_lt_of_cell? _ _ (hHeld.2.2.2.2.2.2.2.2.2.2.2.2.2.2.2.2.2.2.2.2.2.2.2.2.2.2.2.2.2.2.2.2.2.2.2))).trans (hHeld.2.2.2.2.2.2.2.2.2.2.2.2.2.2.2.2.2.2.2.2.2.2.2.2.2.2.2.2.2.2.2.2.2.2.2)
               clear hg_ hnew_
               (first | rw [← Ny204.out] at ho37 | (simp only [Int.reduceToNat] at ho37; rw [← Ny204.out] at ho37))
               have HO206 := Goto.m0 (Kd.N_lower (Kd.N_mono (ok' := fun k_ => some k_ ≠ (.slice Ao26 t186.length co26 : Value).ownBlock ∧ some k_ ≠ (.slice (some ad207) t189.length co27 : Value).ownBlock ∧ some k_ ≠ (.slice (some ad196) y193.length co30 : Value).ownBlock ∧ k_ ≠ gb192) ho37 (fun k_ hk_ => ⟨(Goto.nl2 HO188 k_ hk_), (Goto.nl2 HO191 k_ hk_), (Kd.fresh' (Kd.R_lt (Goto.rk HO195)) k_ hk_), (Kd.freshB (g := gb192) (o := .cells #[.int .i64 t184, .int .i64 t185, .slice Ao26 t186.length co26, .slice (some ad207) t189.length co27] 25 (0, 0)) (Goto.bx BK192) k_ hk_)⟩)) (below_size (Goto.hx HB))); replace HO188 := Goto.nqN HO188 (Kd.N_base ho37) hb; replace HO191 := Goto.nqN HO191 (Kd.N_base ho37) hb; replace HO195 := Goto.m0 (Kd.R_below (Goto.rk HO195) hb); replace HL207_2 := Goto.nqV HL207_2 (Kd.N_base ho37) hb; replace HL207_3 := Goto.nqV HL207_3 (Kd.N_base ho37) hb; replace BK192 := Goto.bb BK192 hb; replace HR207_2 := Goto.cb HR207_2 hb; replace HR207_3 := Goto.cb HR207_3 hb; replace HB := Goto.hs HB hb; clear hb ho37
               obtain ⟨Ao38, co38, eo38⟩ := Kd.N_slice HO206.out
               (first | subst eo38 | (injection eo38 with f1_ f2_ f3_; have f4_ := f1_.symm; have f5_ := f3_.symm; clear f1_ f2_ f3_; subst f4_; subst f5_))
               refine hK.out _ _ ⟨(blk_cell BK192.out 0).trans rfl, (blk_cell BK192.out 1).trans rfl, (blk_cell BK192.out 2).trans rfl, (blk_cell BK192.out 3).trans rfl, HS4_, HS5_, HS6_, HS7_, HS8_, HS9_, HS10_, HS11_, HS12_, HS13_, HS14_, HS15_, HS16_, HS17_, HS18_, HS19_, HS20_, HS21_, HS22_, HS23_, HS24_, HS25_, HS26_, HS27_, HS28_, HS29_, HS30_, HS31_, HS32_, HS33_, HS34_, HS35_⟩ (fun hHeld => ?_)
               clear hK K
               refine norm_ (a' := ?_) ?_ ?_
               rotate_left
               ·
                show Act.put _ (some 41) _ = _
                exact Goto.ap
               refine two_ (i := 40) (j := 41) (Ni := some 47) (Nj := some 48) (Goto.bs 57 2199023255551) (Goto.bs 57 3298534883327) rfl rfl rfl rfl (two_of HT_.out (by kernel_rfl)) (by decide) (by decide) (fun K hK => ?_) (fun K hK => ?_)
               ·
                skip
                refine goes_ Tryd.func16 (by kernel_rfl) rfl #[.agg #[.int .i64 t184, .int .i64 t185, .slice Ao26 t186.length co26, .slice (some ad207) t189.length co27], .slice Ao38 y204.length co38, .agg #[.int .i64 ((rd_T46 t189 1).f0.f0), .int .u64 ((rd_T46 t189 1).f0.f1)]] (by rfl) rfl rfl (by (try simp only [List.map_toArray, List.map_cons, List.map_nil]); first | done | rfl | (simp only [List.length_drop, List.length_take]; rfl)) ?_
                with_reducible refine (trace_Below.calls k t184 t185 _ _ t186 _ _ t189 _ _ y204 ((rd_T46 t189 1).f0.f0) ((rd_T46 t189 1).f0.f1) t208 _ ?side1 ?side2 ?side3 ?side4 ?side5 ?side6 A18.out).mono ?_
                (case side1 => repeat (first | exact (Kd.N_reads' HO188.out).2.2 | (with_reducible refine Kd.C_alloc ?_ _) | (with_reducible refine Kd.C_drewN ?_ _) | (with_reducible refine Kd.C_drew ?_)))
                (case side2 => exact (Kd.N_reads' HO188.out).2.1)
                (case side3 => repeat (first | exact (Kd.N_reads' HO191.out).2.2 | (with_reducible refine Kd.C_alloc ?_ _) | (with_reducible refine Kd.C_drewN ?_ _) | (with_reducible refine Kd.C_drew ?_)))
                (case side4 => exact (Kd.N_reads' HO191.out).2.1)
                (case side5 => repeat (first | exact (Kd.N_reads' HO206.out).2.2 | (with_reducible refine Kd.C_alloc ?_ _) | (with_reducible refine Kd.C_drewN ?_ _) | (with_reducible refine Kd.C_drew ?_)))
                (case side6 => exact (Kd.N_reads' HO206.out).2.1)
                rintro e w39 ⟨v209, rfl, ho0, hb⟩
                have HS4_ := (hb.cell (World.block_lt_of_cell? _ _ (hHeld.2.2.2.2.1))).trans (hHeld.2.2.2.2.1)
                have HS5_ := (hb.cell (World.block_lt_of_cell? _ _ (hHeld.2.2.2.2.2.1))).trans (hHeld.2.2.2.2.2.1)
                have HS6_ := (hb.cell (World.block_lt_of_cell? _ _ (hHeld.2.2.2.2.2.2.1))).trans (hHeld.2.2.2.2.2.2.1)
                have HS7_ := (hb.cell (World.block_lt_of_cell? _ _ (hHeld.2.2.2.2.2.2.2.1))).trans (hHeld.2.2.2.2.2.2.2.1)
                have HS8_ := (hb.cell (World.block_lt_of_cell? _ _ (hHeld.2.2.2.2.2.2.2.2.1))).trans (hHeld.2.2.2.2.2.2.2.2.1)
                have HS9_ := (hb.cell (World.block_lt_of_cell? _ _ (hHeld.2.2.2.2.2.2.2.2.2.1))).trans (hHeld.2.2.2.2.2.2.2.2.2.1)
                have HS10_ := (hb.cell (World.block_lt_of_cell? _ _ (hHeld.2.2.2.2.2.2.2.2.2.2.1))).trans (hHeld.2.2.2.2.2.2.2.2.2.2.1)
                have HS11_ := (hb.cell (World.block_lt_of_cell? _ _ (hHeld.2.2.2.2.2.2.2.2.2.2.2.1))).trans (hHeld.2.2.2.2.2.2.2.2.2.2.2.1)
                have HS12_ := (hb.cell (World.block_lt_of_cell? _ _ (hHeld.2.2.2.2.2.2.2.2.2.2.2.2.1))).trans (hHeld.2.2.2.2.2.2.2.2.2.2.2.2.1)
                have HS13_ := (hb.cell (World.block_lt_of_cell? _ _ (hHeld.2.2.2.2.2.2.2.2.2.2.2.2.2.1))).trans (hHeld.2.2.2.2.2.2.2.2.2.2.2.2.2.1)
                have HS14_ := (hb.cell (World.block_lt_of_cell? _ _ (hHeld.2.2.2.2.2.2.2.2.2.2.2.2.2.2.1))).trans (hHeld.2.2.2.2.2.2.2.2.2.2.2.2.2.2.1)
                have HS15_ := (hb.cell (World.block_lt_of_cell? _ _ (hHeld.2.2.2.2.2.2.2.2.2.2.2.2.2.2.2.1))).trans (hHeld.2.2.2.2.2.2.2.2.2.2.2.2.2.2.2.1)
                have HS16_ := (hb.cell (World.block_lt_of_cell? _ _ (hHeld.2.2.2.2.2.2.2.2.2.2.2.2.2.2.2.2.1))).trans (hHeld.2.2.2.2.2.2.2.2.2.2.2.2.2.2.2.2.1)
                have HS17_ := (hb.cell (World.block_lt_of_cell? _ _ (hHeld.2.2.2.2.2.2.2.2.2.2.2.2.2.2.2.2.2.1))).trans (hHeld.2.2.2.2.2.2.2.2.2.2.2.2.2.2.2.2.2.1)
                have HS18_ := (hb.cell (World.block_lt_of_cell? _ _ (hHeld.2.2.2.2.2.2.2.2.2.2.2.2.2.2.2.2.2.2.1))).trans (hHeld.2.2.2.2.2.2.2.2.2.2.2.2.2.2.2.2.2.2.1)
                have HS19_ := (hb.cell (World.block_lt_of_cell? _ _ (hHeld.2.2.2.2.2.2.2.2.2.2.2.2.2.2.2.2.2.2.2.1))).trans (hHeld.2.2.2.2.2.2.2.2.2.2.2.2.2.2.2.2.2.2.2.1)
                have HS20_ := (hb.cell (World.block_lt_of_cell? _ _ (hHeld.2.2.2.2.2.2.2.2.2.2.2.2.2.2.2.2.2.2.2.2.1))).trans (hHeld.2.2.2.2.2.2.2.2.2.2.2.2.2.2.2.2.2.2.2.2.1)
                have HS21_ := (hb.cell (World.block_lt_of_cell? _ _ (hHeld.2.2.2.2.2.2.2.2.2.2.2.2.2.2.2.2.2.2.2.2.2.1))).trans (hHeld.2.2.2.2.2.2.2.2.2.2.2.2.2.2.2.2.2.2.2.2.2.1)
                have HS22_ := (hb.cell (World.block_lt_of_cell? _ _ (hHeld.2.2.2.2.2.2.2.2.2.2.2.2.2.2.2.2.2.2.2.2.2.2.1))).trans (hHeld.2.2.2.2.2.2.2.2.2.2.2.2.2.2.2.2.2.2.2.2.2.2.1)
                have HS23_ := (hb.cell (World.block_lt_of_cell? _ _ (hHeld.2.2.2.2.2.2.2.2.2.2.2.2.2.2.2.2.2.2.2.2.2.2.2.1))).trans (hHeld.2.2.2.2.2.2.2.2.2.2.2.2.2.2.2.2.2.2.2.2.2.2.2.1)
                have HS24_ := (hb.cell (World.block_lt_of_cell? _ _ (hHeld.2.2.2.2.2.2.2.2.2.2.2.2.2.2.2.2.2.2.2.2.2.2.2.2.1))).trans (hHeld.2.2.2.2.2.2.2.2.2.2.2.2.2.2.2.2.2.2.2.2.2.2.2.2.1)
                have HS25_ := (hb.cell (World.block_lt_of_cell? _ _ (hHeld.2.2.2.2.2.2.2.2.2.2.2.2.2.2.2.2.2.2.2.2.2.2.2.2.2.1))).trans (hHeld.2.2.2.2.2.2.2.2.2.2.2.2.2.2.2.2.2.2.2.2.2.2.2.2.2.1)
                have HS26_ := (hb.cell (World.block_lt_of_cell? _ _ (hHeld.2.2.2.2.2.2.2.2.2.2.2.2.2.2.2.2.2.2.2.2.2.2.2.2.2.2.1))).trans (hHeld.2.2.2.2.2.2.2.2.2.2.2.2.2.2.2.2.2.2.2.2.2.2.2.2.2.2.1)
                have HS27_ := (hb.cell (World.block_lt_of_cell? _ _ (hHeld.2.2.2.2.2.2.2.2.2.2.2.2.2.2.2.2.2.2.2.2.2.2.2.2.2.2.2.1))).trans (hHeld.2.2.2.2.2.2.2.2.2.2.2.2.2.2.2.2.2.2.2.2.2.2.2.2.2.2.2.1)
                have HS28_ := (hb.cell (World.block_lt_of_cell? _ _ (hHeld.2.2.2.2.2.2.2.2.2.2.2.2.2.2.2.2.2.2.2.2.2.2.2.2.2.2.2.2.1))).trans (hHeld.2.2.2.2.2.2.2.2.2.2.2.2.2.2.2.2.2.2.2.2.2.2.2.2.2.2.2.2.1)
                have HS29_ := (hb.cell (World.block_lt_of_cell? _ _ (hHeld.2.2.2.2.2.2.2.2.2.2.2.2.2.2.2.2.2.2.2.2.2.2.2.2.2.2.2.2.2.1))).trans (hHeld.2.2.2.2.2.2.2.2.2.2.2.2.2.2.2.2.2.2.2.2.2.2.2.2.2.2.2.2.2.1)
                have HS30_ := (hb.cell (World.block_lt_of_cell? _ _ (hHeld.2.2.2.2.2.2.2.2.2.2.2.2.2.2.2.2.2.2.2.2.2.2.2.2.2.2.2.2.2.2.1))).trans (hHeld.2.2.2.2.2.2.2.2.2.2.2.2.2.2.2.2.2.2.2.2.2.2.2.2.2.2.2.2.2.2.1)
                have HS31_ := (hb.cell (World.block_lt_of_cell? _ _ (hHeld.2.2.2.2.2.2.2.2.2.2.2.2.2.2.2.2.2.2.2.2.2.2.2.2.2.2.2.2.2.2.2.1))).trans (hHeld.2.2.2.2.2.2.2.2.2.2.2.2.2.2.2.2.2.2.2.2.2.2.2.2.2.2.2.2.2.2.2.1)
                have HS32_ := (hb.cell (World.block_lt_of_cell? _ _ (hHeld.2.2.2.2.2.2.2.2.2.2.2.2.2.2.2.2.2.2.2.2.2.2.2.2.2.2.2.2.2.2.2.2.1))).trans (hHeld.2.2.2.2.2.2.2.2.2.2.2.2.2.2.2.2.2.2.2.2.2.2.2.2.2.2.2.2.2.2.2.2.1)
                have HS33_ := (hb.cell (World.block_lt_of_cell? _ _ (hHeld.2.2.2.2.2.2.2.2.2.2.2.2.2.2.2.2.2.2.2.2.2.2.2.2.2.2.2.2.2.2.2.2.2.1))).trans (hHeld.2.2.2.2.2.2.2.2.2.2.2.2.2.2.2.2.2.2.2.2.2.2.2.2.2.2.2.2.2.2.2.2.2.1)
                have HS34_ := (hb.cell (World.block_lt_of_cell? _ _ (hHeld.2.2.2.2.2.2.2.2.2.2.2.2.2.2.2.2.2.2.2.2.2.2.2.2.2.2.2.2.2.2.2.2.2.2.1))).trans (hHeld.2.2.2.2.2.2.2.2.2.2.2.2.2.2.2.2.2.2.2.2.2.2.2.2.2.2.2.2.2.2.2.2.2.2.1)
                have HS35_ := (hb.cell (World.block_lt_of_cell? _ _ (hHeld.2.2.2.2.2.2.2.2.2.2.2.2.2.2.2.2.2.2.2.2.2.2.2.2.2.2.2.2.2.2.2.2.2.2.2))).trans (hHeld.2.2.2.2.2.2.2.2.2.2.2.2.2.2.2.2.2.2.2.2.2.2.2.2.2.2.2.2.2.2.2.2.2.2.2)
                refine ⟨_, rfl, ?_⟩
                have HO210 := Goto.m0 (Kd.R_lower ho0 (below_size (Goto.hx HB))); replace HO188 := Goto.nqN HO188 (Kd.R_base ho0) hb; replace HO191 := Goto.nqN HO191 (Kd.R_base ho0) hb; replace HO195 := Goto.m0 (Kd.R_below (Goto.rk HO195) hb); replace HL207_2 := Goto.nqV HL207_2 (Kd.R_base ho0) hb; replace HL207_3 := Goto.nqV HL207_3 (Kd.R_base ho0) hb; replace HO206 := Goto.nqN HO206 (Kd.R_base ho0) hb; replace BK192 := Goto.bb BK192 hb; replace HR207_2 := Goto.cb HR207_2 hb; replace HR207_3 := Goto.cb HR207_3 hb; replace HB := Goto.hs HB hb
                (try clear hb)
                (try clear hb2)
                (try clear hk)
                (try clear hi)
                (try clear ho0)
                refine hK.out _ _ ⟨(blk_cell BK192.out 0).trans rfl, (blk_cell BK192.out 1).trans rfl, (blk_cell BK192.out 2).trans rfl, (blk_cell BK192.out 3).trans rfl, HS4_, HS5_, HS6_, HS7_, HS8_, HS9_, HS10_, HS11_, HS12_, HS13_, HS14_, HS15_, HS16_, HS17_, HS18_, HS19_, HS20_, HS21_, HS22_, HS23_, HS24_, HS25_, HS26_, HS27_, HS28_, HS29_, HS30_, HS31_, HS32_, HS33_, HS34_, HS35_⟩ (fun hHeld => ?_)
                clear hK K
                refine norm_ (a' := ?_) ?_ ?_
                rotate_left
                ·
                 show Act.put _ (some 47) _ = _
                 exact Goto.ap
                refine one_ (i := 41) (N := some 48) (Goto.bs 57 4398046511103) rfl rfl (one_of HT_.out (by kernel_rfl)) (by decide) (fun K hK => ?_)
                refine Kd.R_lit_step (Kd.int .i64) _ 3 ?hg (N := 48) ?hd (xs := ([0, 1] : List Int)) (inner := [.int .i64 0, .int .i64 1]) (ok := fun _ => True) (okp := fun _ => True) ?hr ?hp (fun _ hk => hk) trivial (Below.refl _ _) (Nat.le_refl _) (by simp) ?_; (case hd => rfl); (case hg => rfl); (case hr => first | (go_simp; done) | (go_simp; rfl)); (case hp => exact (Reps.one (show Kd.M (Kd.int .i64) _ _ _ 0 [.int .i64 0] from rfl) (Reps.one (show Kd.M (Kd.int .i64) _ _ _ 1 [.int .i64 1] from rfl) (Reps.none _ _))))
                intro v212 w40 ho41 hb hg_ hnew_
                have HS4_ := (hb.cell (World.block_lt_of_cell? _ _ (hHeld.2.2.2.2.1))).trans (hHeld.2.2.2.2.1)
                have HS5_ := (hb.cell (World.block_lt_of_cell? _ _ (hHeld.2.2.2.2.2.1))).trans (hHeld.2.2.2.2.2.1)
                have HS6_ := (hb.cell (World.block_lt_of_cell? _ _ (hHeld.2.2.2.2.2.2.1))).trans (hHeld.2.2.2.2.2.2.1)
                have HS7_ := (hb.cell (World.block_lt_of_cell? _ _ (hHeld.2.2.2.2.2.2.2.1))).trans (hHeld.2.2.2.2.2.2.2.1)
                have HS8_ := (hb.cell (World.block_lt_of_cell? _ _ (hHeld.2.2.2.2.2.2.2.2.1))).trans (hHeld.2.2.2.2.2.2.2.2.1)
                have HS9_ := (hb.cell (World.block_lt_of_cell? _ _ (hHeld.2.2.2.2.2.2.2.2.2.1))).trans (hHeld.2.2.2.2.2.2.2.2.2.1)
                have HS10_ := (hb.cell (World.block_lt_of_cell? _ _ (hHeld.2.2.2.2.2.2.2.2.2.2.1))).trans (hHeld.2.2.2.2.2.2.2.2.2.2.1)
                have HS11_ := (hb.cell (World.block_lt_of_cell? _ _ (hHeld.2.2.2.2.2.2.2.2.2.2.2.1))).trans (hHeld.2.2.2.2.2.2.2.2.2.2.2.1)
                have HS12_ := (hb.cell (World.block_lt_of_cell? _ _ (hHeld.2.2.2.2.2.2.2.2.2.2.2.2.1))).trans (hHeld.2.2.2.2.2.2.2.2.2.2.2.2.1)
                have HS13_ := (hb.cell (World.block_lt_of_cell? _ _ (hHeld.2.2.2.2.2.2.2.2.2.2.2.2.2.1))).trans (hHeld.2.2.2.2.2.2.2.2.2.2.2.2.2.1)
                have HS14_ := (hb.cell (World.block_lt_of_cell? _ _ (hHeld.2.2.2.2.2.2.2.2.2.2.2.2.2.2.1))).trans (hHeld.2.2.2.2.2.2.2.2.2.2.2.2.2.2.1)
                have HS15_ := (hb.cell (World.block_lt_of_cell? _ _ (hHeld.2.2.2.2.2.2.2.2.2.2.2.2.2.2.2.1))).trans (hHeld.2.2.2.2.2.2.2.2.2.2.2.2.2.2.2.1)
                have HS16_ := (hb.cell (World.block_lt_of_cell? _ _ (hHeld.2.2.2.2.2.2.2.2.2.2.2.2.2.2.2.2.1))).trans (hHeld.2.2.2.2.2.2.2.2.2.2.2.2.2.2.2.2.1)
                have HS17_ := (hb.cell (World.block_lt_of_cell? _ _ (hHeld.2.2.2.2.2.2.2.2.2.2.2.2.2.2.2.2.2.1))).trans (hHeld.2.2.2.2.2.2.2.2.2.2.2.2.2.2.2.2.2.1)
                have HS18_ := (hb.cell (World.block_lt_of_cell? _ _ (hHeld.2.2.2.2.2.2.2.2.2.2.2.2.2.2.2.2.2.2.1))).trans (hHeld.2.2.2.2.2.2.2.2.2.2.2.2.2.2.2.2.2.2.1)
                have HS19_ := (hb.cell (World.block_lt_of_cell? _ _ (hHeld.2.2.2.2.2.2.2.2.2.2.2.2.2.2.2.2.2.2.2.1))).trans (hHeld.2.2.2.2.2.2.2.2.2.2.2.2.2.2.2.2.2.2.2.1)
                have HS20_ := (hb.cell (World.block_lt_of_cell? _ _ (hHeld.2.2.2.2.2.2.2.2.2.2.2.2.2.2.2.2.2.2.2.2.1))).trans (hHeld.2.2.2.2.2.2.2.2.2.2.2.2.2.2.2.2.2.2.2.2.1)
                have HS21_ := (hb.cell (World.block_lt_of_cell? _ _ (hHeld.2.2.2.2.2.2.2.2.2.2.2.2.2.2.2.2.2.2.2.2.2.1))).trans (hHeld.2.2.2.2.2.2.2.2.2.2.2.2.2.2.2.2.2.2.2.2.2.1)
                have HS22_ := (hb.cell (World.block_lt_of_cell? _ _ (hHeld.2.2.2.2.2.2.2.2.2.2.2.2.2.2.2.2.2.2.2.2.2.2.1))).trans (hHeld.2.2.2.2.2.2.2.2.2.2.2.2.2.2.2.2.2.2.2.2.2.2.1)
                have HS23_ := (hb.cell (World.block_lt_of_cell? _ _ (hHeld.2.2.2.2.2.2.2.2.2.2.2.2.2.2.2.2.2.2.2.2.2.2.2.1))).trans (hHeld.2.2.2.2.2.2.2.2.2.2.2.2.2.2.2.2.2.2.2.2.2.2.2.1)
                have HS24_ := (hb.cell (World.block_lt_of_cell? _ _ (hHeld.2.2.2.2.2.2.2.2.2.2.2.2.2.2.2.2.2.2.2.2.2.2.2.2.1))).trans (hHeld.2.2.2.2.2.2.2.2.2.2.2.2.2.2.2.2.2.2.2.2.2.2.2.2.1)
                have HS25_ := (hb.cell (World.block_lt_of_cell? _ _ (hHeld.2.2.2.2.2.2.2.2.2.2.2.2.2.2.2.2.2.2.2.2.2.2.2.2.2.1))).trans (hHeld.2.2.2.2.2.2.2.2.2.2.2.2.2.2.2.2.2.2.2.2.2.2.2.2.2.1)
                have HS26_ := (hb.cell (World.block_lt_of_cell? _ _ (hHeld.2.2.2.2.2.2.2.2.2.2.2.2.2.2.2.2.2.2.2.2.2.2.2.2.2.2.1))).trans (hHeld.2.2.2.2.2.2.2.2.2.2.2.2.2.2.2.2.2.2.2.2.2.2.2.2.2.2.1)
                have HS27_ := (hb.cell (World.block_lt_of_cell? _ _ (hHeld.2.2.2.2.2.2.2.2.2.2.2.2.2.2.2.2.2.2.2.2.2.2.2.2.2.2.2.1))).trans (hHeld.2.2.2.2.2.2.2.2.2.2.2.2.2.2.2.2.2.2.2.2.2.2.2.2.2.2.2.1)
                have HS28_ := (hb.cell (World.block_lt_of_cell? _ _ (hHeld.2.2.2.2.2.2.2.2.2.2.2.2.2.2.2.2.2.2.2.2.2.2.2.2.2.2.2.2.1))).trans (hHeld.2.2.2.2.2.2.2.2.2.2.2.2.2.2.2.2.2.2.2.2.2.2.2.2.2.2.2.2.1)
                have HS29_ := (hb.cell (World.block_lt_of_cell? _ _ (hHeld.2.2.2.2.2.2.2.2.2.2.2.2.2.2.2.2.2.2.2.2.2.2.2.2.2.2.2.2.2.1))).trans (hHeld.2.2.2.2.2.2.2.2.2.2.2.2.2.2.2.2.2.2.2.2.2.2.2.2.2.2.2.2.2.1)
                have HS30_ := (hb.cell (World.block_lt_of_cell? _ _ (hHeld.2.2.2.2.2.2.2.2.2.2.2.2.2.2.2.2.2.2.2.2.2.2.2.2.2.2.2.2.2.2.1))).trans (hHeld.2.2.2.2.2.2.2.2.2.2.2.2.2.2.2.2.2.2.2.2.2.2.2.2.2.2.2.2.2.2.1)
                have HS31_ := (hb.cell (World.block_lt_of_cell? _ _ (hHeld.2.2.2.2.2.2.2.2.2.2.2.2.2.2.2.2.2.2.2.2.2.2.2.2.2.2.2.2.2.2.2.1))).trans (hHeld.2.2.2.2.2.2.2.2.2.2.2.2.2.2.2.2.2.2.2.2.2.2.2.2.2.2.2.2.2.2.2.1)
                have HS32_ := (hb.cell (World.block_lt_of_cell? _ _ (hHeld.2.2.2.2.2.2.2.2.2.2.2.2.2.2.2.2.2.2.2.2.2.2.2.2.2.2.2.2.2.2.2.2.1))).trans (hHeld.2.2.2.2.2.2.2.2.2.2.2.2.2.2.2.2.2.2.2.2.2.2.2.2.2.2.2.2.2.2.2.2.1)
                have HS33_ := (hb.cell (World.block_lt_of_cell? _ _ (hHeld.2.2.2.2.2.2.2.2.2.2.2.2.2.2.2.2.2.2.2.2.2.2.2.2.2.2.2.2.2.2.2.2.2.1))).trans (hHeld.2.2.2.2.2.2.2.2.2.2.2.2.2.2.2.2.2.2.2.2.2.2.2.2.2.2.2.2.2.2.2.2.2.1)
                have HS34_ := (hb.cell (World.block_lt_of_cell? _ _ (hHeld.2.2.2.2.2.2.2.2.2.2.2.2.2.2.2.2.2.2.2.2.2.2.2.2.2.2.2.2.2.2.2.2.2.2.1))).trans (hHeld.2.2.2.2.2.2.2.2.2.2.2.2.2.2.2.2.2.2.2.2.2.2.2.2.2.2.2.2.2.2.2.2.2.2.1)
                have HS35_ := (hb.cell (World.block_lt_of_cell? _ _ (hHeld.2.2.2.2.2.2.2.2.2.2.2.2.2.2.2.2.2.2.2.2.2.2.2.2.2.2.2.2.2.2.2.2.2.2.2))).trans (hHeld.2.2.2.2.2.2.2.2.2.2.2.2.2.2.2.2.2.2.2.2.2.2.2.2.2.2.2.2.2.2.2.2.2.2.2)
                clear hg_ hnew_
                (first | rw [← Ny211.out] at ho41 | (simp only [Int.reduceToNat] at ho41; rw [← Ny211.out] at ho41))
                have HO213 := Goto.m0 (Kd.R_lower (Kd.R_new' ho41 (Kd.R_lt (Goto.rk HO210))) (below_size (Goto.hx HB))); replace HO188 := Goto.nqN HO188 (Kd.R_base ho41) hb; replace HO191 := Goto.nqN HO191 (Kd.R_base ho41) hb; replace HO195 := Goto.m0 (Kd.R_below (Goto.rk HO195) hb); replace HL207_2 := Goto.nqV HL207_2 (Kd.R_base ho41) hb; replace HL207_3 := Goto.nqV HL207_3 (Kd.R_base ho41) hb; replace HO206 := Goto.nqN HO206 (Kd.R_base ho41) hb; replace HO210 := Goto.m0 (Kd.R_elder' (Goto.rk HO210) (Kd.R_base ho41) hb); replace BK192 := Goto.bb BK192 hb; replace HR207_2 := Goto.cb HR207_2 hb; replace HR207_3 := Goto.cb HR207_3 hb; replace HB := Goto.hs HB hb; clear hb ho41
                refine hK.out _ _ ⟨(blk_cell BK192.out 0).trans rfl, (blk_cell BK192.out 1).trans rfl, (blk_cell BK192.out 2).trans rfl, (blk_cell BK192.out 3).trans rfl, HS4_, HS5_, HS6_, HS7_, HS8_, HS9_, HS10_, HS11_, HS12_, HS13_, HS14_, HS15_, HS16_, HS17_, HS18_, HS19_, HS20_, HS21_, HS22_, HS23_, HS24_, HS25_, HS26_, HS27_, HS28_, HS29_, HS30_, HS31_, HS32_, HS33_, HS34_, HS35_⟩ (fun hHeld => ?_)
                clear hK K
                refine norm_ (a' := ?_) ?_ ?_
                rotate_left
                ·
                 show Act.put _ (some 48) _ = _
                 exact Goto.ap
                exact norm_ (by simp only [putAll, Act.put, List.setIfInBounds_toArray, List.set_cons_zero, List.set_cons_succ]) (hCont (.slice Ao38 y204.length co38, v209, v212) _ ⟨hHeld, (Goto.fmV HL207_2), (Goto.fmV HL207_3), (Goto.fmN HO188), (Goto.fmN HO191), (Goto.rk HO195), (Goto.fmN HO206), (by (with_reducible repeat (first | apply Kd.R_alloc | apply Kd.R_drewN | apply Kd.R_drew)); exact Kd.R_mono HO210.out (fun _ hk => hk.2)), (by (with_reducible repeat (first | apply Kd.R_alloc | apply Kd.R_drewN | apply Kd.R_drew)); exact Kd.R_mono HO213.out (fun _ hk => hk.2)), (Goto.bx BK192), (Goto.hx HB)⟩)
               ·
                skip
                refine Kd.R_lit_step (Kd.int .i64) _ 3 ?hg (N := 48) ?hd (xs := ([0, 1] : List Int)) (inner := [.int .i64 0, .int .i64 1]) (ok := fun _ => True) (okp := fun _ => True) ?hr ?hp (fun _ hk => hk) trivial (Below.refl _ _) (Nat.le_refl _) (by simp) ?_; (case hd => rfl); (case hg => rfl); (case hr => first | (go_simp; done) | (go_simp; rfl)); (case hp => exact (Reps.one (show Kd.M (Kd.int .i64) _ _ _ 0 [.int .i64 0] from rfl) (Reps.one (show Kd.M (Kd.int .i64) _ _ _ 1 [.int .i64 1] from rfl) (Reps.none _ _))))
                intro v212 w38 ho39 hb hg_ hnew_
                have HS4_ := (hb.cell (World.block_lt_of_cell? _ _ (hHeld.2.2.2.2.1))).trans (hHeld.2.2.2.2.1)
                have HS5_ := (hb.cell (World.block_lt_of_cell? _ _ (hHeld.2.2.2.2.2.1))).trans (hHeld.2.2.2.2.2.1)
                have HS6_ := (hb.cell (World.block_lt_of_cell? _ _ (hHeld.2.2.2.2.2.2.1))).trans (hHeld.2.2.2.2.2.2.1)
                have HS7_ := (hb.cell (World.block_lt_of_cell? _ _ (hHeld.2.2.2.2.2.2.2.1))).trans (hHeld.2.2.2.2.2.2.2.1)
                have HS8_ := (hb.cell (World.block_lt_of_cell? _ _ (hHeld.2.2.2.2.2.2.2.2.1))).trans (hHeld.2.2.2.2.2.2.2.2.1)
                have HS9_ := (hb.cell (World.block_lt_of_cell? _ _ (hHeld.2.2.2.2.2.2.2.2.2.1))).trans (hHeld.2.2.2.2.2.2.2.2.2.1)
                have HS10_ := (hb.cell (World.block_lt_of_cell? _ _ (hHeld.2.2.2.2.2.2.2.2.2.2.1))).trans (hHeld.2.2.2.2.2.2.2.2.2.2.1)
                have HS11_ := (hb.cell (World.block_lt_of_cell? _ _ (hHeld.2.2.2.2.2.2.2.2.2.2.2.1))).trans (hHeld.2.2.2.2.2.2.2.2.2.2.2.1)
                have HS12_ := (hb.cell (World.block_lt_of_cell? _ _ (hHeld.2.2.2.2.2.2.2.2.2.2.2.2.1))).trans (hHeld.2.2.2.2.2.2.2.2.2.2.2.2.1)
                have HS13_ := (hb.cell (World.block_lt_of_cell? _ _ (hHeld.2.2.2.2.2.2.2.2.2.2.2.2.2.1))).trans (hHeld.2.2.2.2.2.2.2.2.2.2.2.2.2.1)
                have HS14_ := (hb.cell (World.block_lt_of_cell? _ _ (hHeld.2.2.2.2.2.2.2.2.2.2.2.2.2.2.1))).trans (hHeld.2.2.2.2.2.2.2.2.2.2.2.2.2.2.1)
                have HS15_ := (hb.cell (World.block_lt_of_cell? _ _ (hHeld.2.2.2.2.2.2.2.2.2.2.2.2.2.2.2.1))).trans (hHeld.2.2.2.2.2.2.2.2.2.2.2.2.2.2.2.1)
                have HS16_ := (hb.cell (World.block_lt_of_cell? _ _ (hHeld.2.2.2.2.2.2.2.2.2.2.2.2.2.2.2.2.1))).trans (hHeld.2.2.2.2.2.2.2.2.2.2.2.2.2.2.2.2.1)
                have HS17_ := (hb.cell (World.block_lt_of_cell? _ _ (hHeld.2.2.2.2.2.2.2.2.2.2.2.2.2.2.2.2.2.1))).trans (hHeld.2.2.2.2.2.2.2.2.2.2.2.2.2.2.2.2.2.1)
                have HS18_ := (hb.cell (World.block_lt_of_cell? _ _ (hHeld.2.2.2.2.2.2.2.2.2.2.2.2.2.2.2.2.2.2.1))).trans (hHeld.2.2.2.2.2.2.2.2.2.2.2.2.2.2.2.2.2.2.1)
                have HS19_ := (hb.cell (World.block_lt_of_cell? _ _ (hHeld.2.2.2.2.2.2.2.2.2.2.2.2.2.2.2.2.2.2.2.1))).trans (hHeld.2.2.2.2.2.2.2.2.2.2.2.2.2.2.2.2.2.2.2.1)
                have HS20_ := (hb.cell (World.block_lt_of_cell? _ _ (hHeld.2.2.2.2.2.2.2.2.2.2.2.2.2.2.2.2.2.2.2.2.1))).trans (hHeld.2.2.2.2.2.2.2.2.2.2.2.2.2.2.2.2.2.2.2.2.1)
                have HS21_ := (hb.cell (World.block_lt_of_cell? _ _ (hHeld.2.2.2.2.2.2.2.2.2.2.2.2.2.2.2.2.2.2.2.2.2.1))).trans (hHeld.2.2.2.2.2.2.2.2.2.2.2.2.2.2.2.2.2.2.2.2.2.1)
                have HS22_ := (hb.cell (World.block_lt_of_cell? _ _ (hHeld.2.2.2.2.2.2.2.2.2.2.2.2.2.2.2.2.2.2.2.2.2.2.1))).trans (hHeld.2.2.2.2.2.2.2.2.2.2.2.2.2.2.2.2.2.2.2.2.2.2.1)
                have HS23_ := (hb.cell (World.block_lt_of_cell? _ _ (hHeld.2.2.2.2.2.2.2.2.2.2.2.2.2.2.2.2.2.2.2.2.2.2.2.1))).trans (hHeld.2.2.2.2.2.2.2.2.2.2.2.2.2.2.2.2.2.2.2.2.2.2.2.1)
                have HS24_ := (hb.cell (World.block_lt_of_cell? _ _ (hHeld.2.2.2.2.2.2.2.2.2.2.2.2.2.2.2.2.2.2.2.2.2.2.2.2.1))).trans (hHeld.2.2.2.2.2.2.2.2.2.2.2.2.2.2.2.2.2.2.2.2.2.2.2.2.1)
                have HS25_ := (hb.cell (World.block_lt_of_cell? _ _ (hHeld.2.2.2.2.2.2.2.2.2.2.2.2.2.2.2.2.2.2.2.2.2.2.2.2.2.1))).trans (hHeld.2.2.2.2.2.2.2.2.2.2.2.2.2.2.2.2.2.2.2.2.2.2.2.2.2.1)
                have HS26_ := (hb.cell (World.block_lt_of_cell? _ _ (hHeld.2.2.2.2.2.2.2.2.2.2.2.2.2.2.2.2.2.2.2.2.2.2.2.2.2.2.1))).trans (hHeld.2.2.2.2.2.2.2.2.2.2.2.2.2.2.2.2.2.2.2.2.2.2.2.2.2.2.1)
                have HS27_ := (hb.cell (World.block_lt_of_cell? _ _ (hHeld.2.2.2.2.2.2.2.2.2.2.2.2.2.2.2.2.2.2.2.2.2.2.2.2.2.2.2.1))).trans (hHeld.2.2.2.2.2.2.2.2.2.2.2.2.2.2.2.2.2.2.2.2.2.2.2.2.2.2.2.1)
                have HS28_ := (hb.cell (World.block_lt_of_cell? _ _ (hHeld.2.2.2.2.2.2.2.2.2.2.2.2.2.2.2.2.2.2.2.2.2.2.2.2.2.2.2.2.1))).trans (hHeld.2.2.2.2.2.2.2.2.2.2.2.2.2.2.2.2.2.2.2.2.2.2.2.2.2.2.2.2.1)
                have HS29_ := (hb.cell (World.block_lt_of_cell? _ _ (hHeld.2.2.2.2.2.2.2.2.2.2.2.2.2.2.2.2.2.2.2.2.2.2.2.2.2.2.2.2.2.1))).trans (hHeld.2.2.2.2.2.2.2.2.2.2.2.2.2.2.2.2.2.2.2.2.2.2.2.2.2.2.2.2.2.1)
                have HS30_ := (hb.cell (World.block_lt_of_cell? _ _ (hHeld.2.2.2.2.2.2.2.2.2.2.2.2.2.2.2.2.2.2.2.2.2.2.2.2.2.2.2.2.2.2.1))).trans (hHeld.2.2.2.2.2.2.2.2.2.2.2.2.2.2.2.2.2.2.2.2.2.2.2.2.2.2.2.2.2.2.1)
                have HS31_ := (hb.cell (World.block_lt_of_cell? _ _ (hHeld.2.2.2.2.2.2.2.2.2.2.2.2.2.2.2.2.2.2.2.2.2.2.2.2.2.2.2.2.2.2.2.1))).trans (hHeld.2.2.2.2.2.2.2.2.2.2.2.2.2.2.2.2.2.2.2.2.2.2.2.2.2.2.2.2.2.2.2.1)
                have HS32_ := (hb.cell (World.block_lt_of_cell? _ _ (hHeld.2.2.2.2.2.2.2.2.2.2.2.2.2.2.2.2.2.2.2.2.2.2.2.2.2.2.2.2.2.2.2.2.1))).trans (hHeld.2.2.2.2.2.2.2.2.2.2.2.2.2.2.2.2.2.2.2.2.2.2.2.2.2.2.2.2.2.2.2.2.1)
                have HS33_ := (hb.cell (World.block_lt_of_cell? _ _ (hHeld.2.2.2.2.2.2.2.2.2.2.2.2.2.2.2.2.2.2.2.2.2.2.2.2.2.2.2.2.2.2.2.2.2.1))).trans (hHeld.2.2.2.2.2.2.2.2.2.2.2.2.2.2.2.2.2.2.2.2.2.2.2.2.2.2.2.2.2.2.2.2.2.1)
                have HS34_ := (hb.cell (World.block_lt_of_cell? _ _ (hHeld.2.2.2.2.2.2.2.2.2.2.2.2.2.2.2.2.2.2.2.2.2.2.2.2.2.2.2.2.2.2.2.2.2.2.1))).trans (hHeld.2.2.2.2.2.2.2.2.2.2.2.2.2.2.2.2.2.2.2.2.2.2.2.2.2.2.2.2.2.2.2.2.2.2.1)
                have HS35_ := (hb.cell (World.block_lt_of_cell? _ _ (hHeld.2.2.2.2.2.2.2.2.2.2.2.2.2.2.2.2.2.2.2.2.2.2.2.2.2.2.2.2.2.2.2.2.2.2.2))).trans (hHeld.2.2.2.2.2.2.2.2.2.2.2.2.2.2.2.2.2.2.2.2.2.2.2.2.2.2.2.2.2.2.2.2.2.2.2)
                clear hg_ hnew_
                (first | rw [← Ny211.out] at ho39 | (simp only [Int.reduceToNat] at ho39; rw [← Ny211.out] at ho39))
                have HO213 := Goto.m0 (Kd.R_lower ho39 (below_size (Goto.hx HB))); replace HO188 := Goto.nqN HO188 (Kd.R_base ho39) hb; replace HO191 := Goto.nqN HO191 (Kd.R_base ho39) hb; replace HO195 := Goto.m0 (Kd.R_below (Goto.rk HO195) hb); replace HL207_2 := Goto.nqV HL207_2 (Kd.R_base ho39) hb; replace HL207_3 := Goto.nqV HL207_3 (Kd.R_base ho39) hb; replace HO206 := Goto.nqN HO206 (Kd.R_base ho39) hb; replace BK192 := Goto.bb BK192 hb; replace HR207_2 := Goto.cb HR207_2 hb; replace HR207_3 := Goto.cb HR207_3 hb; replace HB := Goto.hs HB hb; clear hb ho39
                obtain ⟨Ao40, co40, eo40⟩ := Kd.N_slice HO206.out
                (first | subst eo40 | (injection eo40 with f1_ f2_ f3_; have f4_ := f1_.symm; have f5_ := f3_.symm; clear f1_ f2_ f3_; subst f4_; subst f5_))
                refine hK.out _ _ ⟨(blk_cell BK192.out 0).trans rfl, (blk_cell BK192.out 1).trans rfl, (blk_cell BK192.out 2).trans rfl, (blk_cell BK192.out 3).trans rfl, HS4_, HS5_, HS6_, HS7_, HS8_, HS9_, HS10_, HS11_, HS12_, HS13_, HS14_, HS15_, HS16_, HS17_, HS18_, HS19_, HS20_, HS21_, HS22_, HS23_, HS24_, HS25_, HS26_, HS27_, HS28_, HS29_, HS30_, HS31_, HS32_, HS33_, HS34_, HS35_⟩ (fun hHeld => ?_)
                clear hK K
                refine norm_ (a' := ?_) ?_ ?_
                rotate_left
                ·
                 show Act.put _ (some 48) _ = _
                 exact Goto.ap
                refine one_ (i := 40) (N := some 47) (Goto.bs 57 4398046511103) rfl rfl (one_of HT_.out (by kernel_rfl)) (by decide) (fun K hK => ?_)
                refine goes_ Tryd.func16 (by kernel_rfl) rfl #[.agg #[.int .i64 t184, .int .i64 t185, .slice Ao26 t186.length co26, .slice (some ad207) t189.length co27], .slice Ao40 y204.length co40, .agg #[.int .i64 ((rd_T46 t189 1).f0.f0), .int .u64 ((rd_T46 t189 1).f0.f1)]] (by rfl) rfl rfl (by (try simp only [List.map_toArray, List.map_cons, List.map_nil]); first | done | rfl | (simp only [List.length_drop, List.length_take]; rfl)) ?_
                with_reducible refine (trace_Below.calls k t184 t185 _ _ t186 _ _ t189 _ _ y204 ((rd_T46 t189 1).f0.f0) ((rd_T46 t189 1).f0.f1) t208 _ ?side1 ?side2 ?side3 ?side4 ?side5 ?side6 A18.out).mono ?_
                (case side1 => repeat (first | exact (Kd.N_reads' HO188.out).2.2 | (with_reducible refine Kd.C_alloc ?_ _) | (with_reducible refine Kd.C_drewN ?_ _) | (with_reducible refine Kd.C_drew ?_)))
                (case side2 => exact (Kd.N_reads' HO188.out).2.1)
                (case side3 => repeat (first | exact (Kd.N_reads' HO191.out).2.2 | (with_reducible refine Kd.C_alloc ?_ _) | (with_reducible refine Kd.C_drewN ?_ _) | (with_reducible refine Kd.C_drew ?_)))
                (case side4 => exact (Kd.N_reads' HO191.out).2.1)
                (case side5 => repeat (first | exact (Kd.N_reads' HO206.out).2.2 | (with_reducible refine Kd.C_alloc ?_ _) | (with_reducible refine Kd.C_drewN ?_ _) | (with_reducible refine Kd.C_drew ?_)))
                (case side6 => exact (Kd.N_reads' HO206.out).2.1)
                rintro e w41 ⟨v209, rfl, ho0, hb⟩
                have HS4_ := (hb.cell (World.block_lt_of_cell? _ _ (hHeld.2.2.2.2.1))).trans (hHeld.2.2.2.2.1)
                have HS5_ := (hb.cell (World.block_lt_of_cell? _ _ (hHeld.2.2.2.2.2.1))).trans (hHeld.2.2.2.2.2.1)
                have HS6_ := (hb.cell (World.block_lt_of_cell? _ _ (hHeld.2.2.2.2.2.2.1))).trans (hHeld.2.2.2.2.2.2.1)
                have HS7_ := (hb.cell (World.block_lt_of_cell? _ _ (hHeld.2.2.2.2.2.2.2.1))).trans (hHeld.2.2.2.2.2.2.2.1)
                have HS8_ := (hb.cell (World.block_lt_of_cell? _ _ (hHeld.2.2.2.2.2.2.2.2.1))).trans (hHeld.2.2.2.2.2.2.2.2.1)
                have HS9_ := (hb.cell (World.block_lt_of_cell? _ _ (hHeld.2.2.2.2.2.2.2.2.2.1))).trans (hHeld.2.2.2.2.2.2.2.2.2.1)
                have HS10_ := (hb.cell (World.block_lt_of_cell? _ _ (hHeld.2.2.2.2.2.2.2.2.2.2.1))).trans (hHeld.2.2.2.2.2.2.2.2.2.2.1)
                have HS11_ := (hb.cell (World.block_lt_of_cell? _ _ (hHeld.2.2.2.2.2.2.2.2.2.2.2.1))).trans (hHeld.2.2.2.2.2.2.2.2.2.2.2.1)
                have HS12_ := (hb.cell (World.block_lt_of_cell? _ _ (hHeld.2.2.2.2.2.2.2.2.2.2.2.2.1))).trans (hHeld.2.2.2.2.2.2.2.2.2.2.2.2.1)
                have HS13_ := (hb.cell (World.block_lt_of_cell? _ _ (hHeld.2.2.2.2.2.2.2.2.2.2.2.2.2.1))).trans (hHeld.2.2.2.2.2.2.2.2.2.2.2.2.2.1)
                have HS14_ := (hb.cell (World.block_lt_of_cell? _ _ (hHeld.2.2.2.2.2.2.2.2.2.2.2.2.2.2.1))).trans (hHeld.2.2.2.2.2.2.2.2.2.2.2.2.2.2.1)
                have HS15_ := (hb.cell (World.block_lt_of_cell? _ _ (hHeld.2.2.2.2.2.2.2.2.2.2.2.2.2.2.2.1))).trans (hHeld.2.2.2.2.2.2.2.2.2.2.2.2.2.2.2.1)
                have HS16_ := (hb.cell (World.block_lt_of_cell? _ _ (hHeld.2.2.2.2.2.2.2.2.2.2.2.2.2.2.2.2.1))).trans (hHeld.2.2.2.2.2.2.2.2.2.2.2.2.2.2.2.2.1)
                have HS17_ := (hb.cell (World.block_lt_of_cell? _ _ (hHeld.2.2.2.2.2.2.2.2.2.2.2.2.2.2.2.2.2.1))).trans (hHeld.2.2.2.2.2.2.2.2.2.2.2.2.2.2.2.2.2.1)
                have HS18_ := (hb.cell (World.block_lt_of_cell? _ _ (hHeld.2.2.2.2.2.2.2.2.2.2.2.2.2.2.2.2.2.2.1))).trans (hHeld.2.2.2.2.2.2.2.2.2.2.2.2.2.2.2.2.2.2.1)
                have HS19_ := (hb.cell (World.block_lt_of_cell? _ _ (hHeld.2.2.2.2.2.2.2.2.2.2.2.2.2.2.2.2.2.2.2.1))).trans (hHeld.2.2.2.2.2.2.2.2.2.2.2.2.2.2.2.2.2.2.2.1)
                have HS20_ := (hb.cell (World.block_lt_of_cell? _ _ (hHeld.2.2.2.2.2.2.2.2.2.2.2.2.2.2.2.2.2.2.2.2.1))).trans (hHeld.2.2.2.2.2.2.2.2.2.2.2.2.2.2.2.2.2.2.2.2.1)
                have HS21_ := (hb.cell (World.block_lt_of_cell? _ _ (hHeld.2.2.2.2.2.2.2.2.2.2.2.2.2.2.2.2.2.2.2.2.2.1))).trans (hHeld.2.2.2.2.2.2.2.2.2.2.2.2.2.2.2.2.2.2.2.2.2.1)
                have HS22_ := (hb.cell (World.block_lt_of_cell? _ _ (hHeld.2.2.2.2.2.2.2.2.2.2.2.2.2.2.2.2.2.2.2.2.2.2.1))).trans (hHeld.2.2.2.2.2.2.2.2.2.2.2.2.2.2.2.2.2.2.2.2.2.2.1)
                have HS23_ := (hb.cell (World.block_lt_of_cell? _ _ (hHeld.2.2.2.2.2.2.2.2.2.2.2.2.2.2.2.2.2.2.2.2.2.2.2.1))).trans (hHeld.2.2.2.2.2.2.2.2.2.2.2.2.2.2.2.2.2.2.2.2.2.2.2.1)
                have HS24_ := (hb.cell (World.block_lt_of_cell? _ _ (hHeld.2.2.2.2.2.2.2.2.2.2.2.2.2.2.2.2.2.2.2.2.2.2.2.2.1))).trans (hHeld.2.2.2.2.2.2.2.2.2.2.2.2.2.2.2.2.2.2.2.2.2.2.2.2.1)
                have HS25_ := (hb.cell (World.block_lt_of_cell? _ _ (hHeld.2.2.2.2.2.2.2.2.2.2.2.2.2.2.2.2.2.2.2.2.2.2.2.2.2.1))).trans (hHeld.2.2.2.2.2.2.2.2.2.2.2.2.2.2.2.2.2.2.2.2.2.2.2.2.2.1)
                have HS26_ := (hb.cell (World.block_lt_of_cell? _ _ (hHeld.2.2.2.2.2.2.2.2.2.2.2.2.2.2.2.2.2.2.2.2.2.2.2.2.2.2.1))).trans (hHeld.2.2.2.2.2.2.2.2.2.2.2.2.2.2.2.2.2.2.2.2.2.2.2.2.2.2.1)
                have HS27_ := (hb.cell (World.block_lt_of_cell? _ _ (hHeld.2.2.2.2.2.2.2.2.2.2.2.2.2.2.2.2.2.2.2.2.2.2.2.2.2.2.2.1))).trans (hHeld.2.2.2.2.2.2.2.2.2.2.2.2.2.2.2.2.2.2.2.2.2.2.2.2.2.2.2.1)
                have HS28_ := (hb.cell (World.block_lt_of_cell? _ _ (hHeld.2.2.2.2.2.2.2.2.2.2.2.2.2.2.2.2.2.2.2.2.2.2.2.2.2.2.2.2.1))).trans (hHeld.2.2.2.2.2.2.2.2.2.2.2.2.2.2.2.2.2.2.2.2.2.2.2.2.2.2.2.2.1)
                have HS29_ := (hb.cell (World.block_lt_of_cell? _ _ (hHeld.2.2.2.2.2.2.2.2.2.2.2.2.2.2.2.2.2.2.2.2.2.2.2.2.2.2.2.2.2.1))).trans (hHeld.2.2.2.2.2.2.2.2.2.2.2.2.2.2.2.2.2.2.2.2.2.2.2.2.2.2.2.2.2.1)
                have HS30_ := (hb.cell (World.block_lt_of_cell? _ _ (hHeld.2.2.2.2.2.2.2.2.2.2.2.2.2.2.2.2.2.2.2.2.2.2.2.2.2.2.2.2.2.2.1))).trans (hHeld.2.2.2.2.2.2.2.2.2.2.2.2.2.2.2.2.2.2.2.2.2.2.2.2.2.2.2.2.2.2.1)
                have HS31_ := (hb.cell (World.block_lt_of_cell? _ _ (hHeld.2.2.2.2.2.2.2.2.2.2.2.2.2.2.2.2.2.2.2.2.2.2.2.2.2.2.2.2.2.2.2.1))).trans (hHeld.2.2.2.2.2.2.2.2.2.2.2.2.2.2.2.2.2.2.2.2.2.2.2.2.2.2.2.2.2.2.2.1)
                have HS32_ := (hb.cell (World.block_lt_of_cell? _ _ (hHeld.2.2.2.2.2.2.2.2.2.2.2.2.2.2.2.2.2.2.2.2.2.2.2.2.2.2.2.2.2.2.2.2.1))).trans (hHeld.2.2.2.2.2.2.2.2.2.2.2.2.2.2.2.2.2.2.2.2.2.2.2.2.2.2.2.2.2.2.2.2.1)
                have HS33_ := (hb.cell (World.block_lt_of_cell? _ _ (hHeld.2.2.2.2.2.2.2.2.2.2.2.2.2.2.2.2.2.2.2.2.2.2.2.2.2.2.2.2.2.2.2.2.2.1))).trans (hHeld.2.2.2.2.2.2.2.2.2.2.2.2.2.2.2.2.2.2.2.2.2.2.2.2.2.2.2.2.2.2.2.2.2.1)
                have HS34_ := (hb.cell (World.block_lt_of_cell? _ _ (hHeld.2.2.2.2.2.2.2.2.2.2.2.2.2.2.2.2.2.2.2.2.2.2.2.2.2.2.2.2.2.2.2.2.2.2.1))).trans (hHeld.2.2.2.2.2.2.2.2.2.2.2.2.2.2.2.2.2.2.2.2.2.2.2.2.2.2.2.2.2.2.2.2.2.2.1)
                have HS35_ := (hb.cell (World.block_lt_of_cell? _ _ (hHeld.2.2.2.2.2.2.2.2.2.2.2.2.2.2.2.2.2.2.2.2.2.2.2.2.2.2.2.2.2.2.2.2.2.2.2))).trans (hHeld.2.2.2.2.2.2.2.2.2.2.2.2.2.2.2.2.2.2.2.2.2.2.2.2.2.2.2.2.2.2.2.2.2.2.2)
                refine ⟨_, rfl, ?_⟩
                have HO210 := Goto.m0 (Kd.R_lower (Kd.R_new' ho0 (Kd.R_lt (Goto.rk HO213))) (below_size (Goto.hx HB))); replace HO188 := Goto.nqN HO188 (Kd.R_base ho0) hb; replace HO191 := Goto.nqN HO191 (Kd.R_base ho0) hb; replace HO195 := Goto.m0 (Kd.R_below (Goto.rk HO195) hb); replace HL207_2 := Goto.nqV HL207_2 (Kd.R_base ho0) hb; replace HL207_3 := Goto.nqV HL207_3 (Kd.R_base ho0) hb; replace HO206 := Goto.nqN HO206 (Kd.R_base ho0) hb; replace HO213 := Goto.m0 (Kd.R_elder' (Goto.rk HO213) (Kd.R_base ho0) hb); replace BK192 := Goto.bb BK192 hb; replace HR207_2 := Goto.cb HR207_2 hb; replace HR207_3 := Goto.cb HR207_3 hb; replace HB := Goto.hs HB hb
                (try clear hb)
                (try clear hb2)
                (try clear hk)
                (try clear hi)
                (try clear ho0)
                refine hK.out _ _ ⟨(blk_cell BK192.out 0).trans rfl, (blk_cell BK192.out 1).trans rfl, (blk_cell BK192.out 2).trans rfl, (blk_cell BK192.out 3).trans rfl, HS4_, HS5_, HS6_, HS7_, HS8_, HS9_, HS10_, HS11_, HS12_, HS13_, HS14_, HS15_, HS16_, HS17_, HS18_, HS19_, HS20_, HS21_, HS22_, HS23_, HS24_, HS25_, HS26_, HS27_, HS28_, HS29_, HS30_, HS31_, HS32_, HS33_, HS34_, HS35_⟩ (fun hHeld => ?_)
                clear hK K
                refine norm_ (a' := ?_) ?_ ?_
                rotate_left
                ·
                 show Act.put _ (some 47) _ = _
                 exact Goto.ap
                exact norm_ (by simp only [putAll, Act.put, List.setIfInBounds_toArray, List.set_cons_zero, List.set_cons_succ]) (hCont (.slice Ao40 y204.length co40, v209, v212) _ ⟨hHeld, (Goto.fmV HL207_2), (Goto.fmV HL207_3), (Goto.fmN HO188), (Goto.fmN HO191), (Goto.rk HO195), (Goto.fmN HO206), (by (with_reducible repeat (first | apply Kd.R_alloc | apply Kd.R_drewN | apply Kd.R_drew)); exact Kd.R_mono HO210.out (fun _ hk => hk.2)), (by (with_reducible repeat (first | apply Kd.R_alloc | apply Kd.R_drewN | apply Kd.R_drew)); exact Kd.R_mono HO213.out (fun _ hk => hk.2)), (Goto.bx BK192), (Goto.hx HB)⟩)
              ·
               skip
               refine Kd.R_lit_step (Kd.int .i64) _ 3 ?hg (N := 48) ?hd (xs := ([0, 1] : List Int)) (inner := [.int .i64 0, .int .i64 1]) (ok := fun _ => True) (okp := fun _ => True) ?hr ?hp (fun _ hk => hk) trivial (Below.refl _ _) (Nat.le_refl _) (by simp) ?_; (case hd => rfl); (case hg => rfl); (case hr => first | (go_simp; done) | (go_simp; rfl)); (case hp => exact (Reps.one (show Kd.M (Kd.int .i64) _ _ _ 0 [.int .i64 0] from rfl) (Reps.one (show Kd.M (Kd.int .i64) _ _ _ 1 [.int .i64 1] from rfl) (Reps.none _ _))))
               intro v212 w36 ho37 hb hg_ hnew_
               have HS4_ := (hb.cell (World.block_lt_of_cell? _ _ (hHeld.2.2.2.2.1))).trans (hHeld.2.2.2.2.1)
               have HS5_ := (hb.cell (World.block_lt_of_cell? _ _ (hHeld.2.2.2.2.2.1))).trans (hHeld.2.2.2.2.2.1)
               have HS6_ := (hb.cell (World.block_lt_of_cell? _ _ (hHeld.2.2.2.2.2.2.1))).trans (hHeld.2.2.2.2.2.2.1)
               have HS7_ := (hb.cell (World.block_lt_of_cell? _ _ (hHeld.2.2.2.2.2.2.2.1))).trans (hHeld.2.2.2.2.2.2.2.1)
               have HS8_ := (hb.cell (World.block_lt_of_cell? _ _ (hHeld.2.2.2.2.2.2.2.2.1))).trans (hHeld.2.2.2.2.2.2.2.2.1)
               have HS9_ := (hb.cell (World.block_lt_of_cell? _ _ (hHeld.2.2.2.2.2.2.2.2.2.1))).trans (hHeld.2.2.2.2.2.2.2.2.2.1)
               have HS10_ := (hb.cell (World.block_lt_of_cell? _ _ (hHeld.2.2.2.2.2.2.2.2.2.2.1))).trans (hHeld.2.2.2.2.2.2.2.2.2.2.1)
               have HS11_ := (hb.cell (World.block_lt_of_cell? _ _ (hHeld.2.2.2.2.2.2.2.2.2.2.2.1))).trans (hHeld.2.2.2.2.2.2.2.2.2.2.2.1)
               have HS12_ := (hb.cell (World.block_lt_of_cell? _ _ (hHeld.2.2.2.2.2.2.2.2.2.2.2.2.1))).trans (hHeld.2.2.2.2.2.2.2.2.2.2.2.2.1)
               have HS13_ := (hb.cell (World.block_lt_of_cell? _ _ (hHeld.2.2.2.2.2.2.2.2.2.2.2.2.2.1))).trans (hHeld.2.2.2.2.2.2.2.2.2.2.2.2.2.1)
               have HS14_ := (hb.cell (World.block_lt_of_cell? _ _ (hHeld.2.2.2.2.2.2.2.2.2.2.2.2.2.2.1))).trans (hHeld.2.2.2.2.2.2.2.2.2.2.2.2.2.2.1)
               have HS15_ := (hb.cell (World.block_lt_of_cell? _ _ (hHeld.2.2.2.2.2.2.2.2.2.2.2.2.2.2.2.1))).trans (hHeld.2.2.2.2.2.2.2.2.2.2.2.2.2.2.2.1)
               have HS16_ := (hb.cell (World.block_lt_of_cell? _ _ (hHeld.2.2.2.2.2.2.2.2.2.2.2.2.2.2.2.2.1))).trans (hHeld.2.2.2.2.2.2.2.2.2.2.2.2.2.2.2.2.1)
               have HS17_ := (hb.cell (World.block_lt_of_cell? _ _ (hHeld.2.2.2.2.2.2.2.2.2.2.2.2.2.2.2.2.2.1))).trans (hHeld.2.2.2.2.2.2.2.2.2.2.2.2.2.2.2.2.2.1)
               have HS18_ := (hb.cell (World.block_lt_of_cell? _ _ (hHeld.2.2.2.2.2.2.2.2.2.2.2.2.2.2.2.2.2.2.1))).trans (hHeld.2.2.2.2.2.2.2.2.2.2.2.2.2.2.2.2.2.2.1)
               have HS19_ := (hb.cell (World.block_lt_of_cell? _ _ (hHeld.2.2.2.2.2.2.2.2.2.2.2.2.2.2.2.2.2.2.2.1))).trans (hHeld.2.2.2.2.2.2.2.2.2.2.2.2.2.2.2.2.2.2.2.1)
               have HS20_ := (hb.cell (World.block_lt_of_cell? _ _ (hHeld.2.2.2.2.2.2.2.2.2.2.2.2.2.2.2.2.2.2.2.2.1))).trans (hHeld.2.2.2.2.2.2.2.2.2.2.2.2.2.2.2.2.2.2.2.2.1)
               have HS21_ := (hb.cell (World.block_lt_of_cell? _ _ (hHeld.2.2.2.2.2.2.2.2.2.2.2.2.2.2.2.2.2.2.2.2.2.1))).trans (hHeld.2.2.2.2.2.2.2.2.2.2.2.2.2.2.2.2.2.2.2.2.2.1)
               have HS22_ := (hb.cell (World.block_lt_of_cell? _ _ (hHeld.2.2.2.2.2.2.2.2.2.2.2.2.2.2.2.2.2.2.2.2.2.2.1))).trans (hHeld.2.2.2.2.2.2.2.2.2.2.2.2.2.2.2.2.2.2.2.2.2.2.1)
               have HS23_ := (hb.cell (World.block_lt_of_cell? _ _ (hHeld.2.2.2.2.2.2.2.2.2.2.2.2.2.2.2.2.2.2.2.2.2.2.2.1))).trans (hHeld.2.2.2.2.2.2.2.2.2.2.2.2.2.2.2.2.2.2.2.2.2.2.2.1)
               have HS24_ := (hb.cell (World.block_lt_of_cell? _ _ (hHeld.2.2.2.2.2.2.2.2.2.2.2.2.2.2.2.2.2.2.2.2.2.2.2.2.1))).trans (hHeld.2.2.2.2.2.2.2.2.2.2.2.2.2.2.2.2.2.2.2.2.2.2.2.2.1)
               have HS25_ := (hb.cell (World.block_lt_of_cell? _ _ (hHeld.2.2.2.2.2.2.2.2.2.2.2.2.2.2.2.2.2.2.2.2.2.2.2.2.2.1))).trans (hHeld.2.2.2.2.2.2.2.2.2.2.2.2.2.2.2.2.2.2.2.2.2.2.2.2.2.1)
               have HS26_ := (hb.cell (World.block_lt_of_cell? _ _ (hHeld.2.2.2.2.2.2.2.2.2.2.2.2.2.2.2.2.2.2.2.2.2.2.2.2.2.2.1))).trans (hHeld.2.2.2.2.2.2.2.2.2.2.2.2.2.2.2.2.2.2.2.2.2.2.2.2.2.2.1)
               have HS27_ := (hb.cell (World.block_lt_of_cell? _ _ (hHeld.2.2.2.2.2.2.2.2.2.2.2.2.2.2.2.2.2.2.2.2.2.2.2.2.2.2.2.1))).trans (hHeld.2.2.2.2.2.2.2.2.2.2.2.2.2.2.2.2.2.2.2.2.2.2.2.2.2.2.2.1)
               have HS28_ := (hb.cell (World.block_lt_of_cell? _ _ (hHeld.2.2.2.2.2.2.2.2.2.2.2.2.2.2.2.2.2.2.2.2.2.2.2.2.2.2.2.2.1))).trans (hHeld.2.2.2.2.2.2.2.2.2.2.2.2.2.2.2.2.2.2.2.2.2.2.2.2.2.2.2.2.1)
               have HS29_ := (hb.cell (World.block_lt_of_cell? _ _ (hHeld.2.2.2.2.2.2.2.2.2.2.2.2.2.2.2.2.2.2.2.2.2.2.2.2.2.2.2.2.2.1))).trans (hHeld.2.2.2.2.2.2.2.2.2.2.2.2.2.2.2.2.2.2.2.2.2.2.2.2.2.2.2.2.2.1)
               have HS30_ := (hb.cell (World.block_lt_of_cell? _ _ (hHeld.2.2.2.2.2.2.2.2.2.2.2.2.2.2.2.2.2.2.2.2.2.2.2.2.2.2.2.2.2.2.1))).trans (hHeld.2.2.2.2.2.2.2.2.2.2.2.2.2.2.2.2.2.2.2.2.2.2.2.2.2.2.2.2.2.2.1)
               have HS31_ := (hb.cell (World.block_lt_of_cell? _ _ (hHeld.2.2.2.2.2.2.2.2.2.2.2.2.2.2.2.2.2.2.2.2.2.2.2.2.2.2.2.2.2.2.2.1))).trans (hHeld.2.2.2.2.2.2.2.2.2.2.2.2.2.2.2.2.2.2.2.2.2.2.2.2.2.2.2.2.2.2.2.1)
               have HS32_ := (hb.cell (World.block_lt_of_cell? _ _ (hHeld.2.2.2.2.2.2.2.2.2.2.2.2.2.2.2.2.2.2.2.2.2.2.2.2.2.2.2.2.2.2.2.2.1))).trans (hHeld.2.2.2.2.2.2.2.2.2.2.2.2.2.2.2.2.2.2.2.2.2.2.2.2.2.2.2.2.2.2.2.2.1)
               have HS33_ := (hb.cell (World.block_lt_of_cell? _ _ (hHeld.2.2.2.2.2.2.2.2.2.2.2.2.2.2.2.2.2.2.2.2.2.2.2.2.2.2.2.2.2.2.2.2.2.1))).trans (hHeld.2.2.2.2.2.2.2.2.2.2.2.2.2.2.2.2.2.2.2.2.2.2.2.2.2.2.2.2.2.2.2.2.2.1)
               have HS34_ := (hb.cell (World.block_lt_of_cell? _ _ (hHeld.2.2.2.2.2.2.2.2.2.2.2.2.2.2.2.2.2.2.2.2.2.2.2.2.2.2.2.2.2.2.2.2.2.2.1))).trans (hHeld.2.2.2.2.2.2.2.2.2.2.2.2.2.2.2.2.2.2.2.2.2.2.2.2.2.2.2.2.2.2.2.2.2.2.1)
               have HS35_ := (hb.cell (World.block_lt_of_cell? _ _ (hHeld.2.2.2.2.2.2.2.2.2.2.2.2.2.2.2.2.2.2.2.2.2.2.2.2.2.2.2.2.2.2.2.2.2.2.2))).trans (hHeld.2.2.2.2.2.2.2.2.2.2.2.2.2.2.2.2.2.2.2.2.2.2.2.2.2.2.2.2.2.2.2.2.2.2.2)
               clear hg_ hnew_
               (first | rw [← Ny211.out] at ho37 | (simp only [Int.reduceToNat] at ho37; rw [← Ny211.out] at ho37))
               have HO213 := Goto.m0 (Kd.R_lower ho37 (below_size (Goto.hx HB))); replace HO188 := Goto.nqN HO188 (Kd.R_base ho37) hb; replace HO191 := Goto.nqN HO191 (Kd.R_base ho37) hb; replace HO195 := Goto.m0 (Kd.R_below (Goto.rk HO195) hb); replace HL207_2 := Goto.nqV HL207_2 (Kd.R_base ho37) hb; replace HL207_3 := Goto.nqV HL207_3 (Kd.R_base ho37) hb; replace BK192 := Goto.bb BK192 hb; replace HR207_2 := Goto.cb HR207_2 hb; replace HR207_3 := Goto.cb HR207_3 hb; replace HB := Goto.hs HB hb; clear hb ho37
               refine hK.out _ _ ⟨(blk_cell BK192.out 0).trans rfl, (blk_cell BK192.out 1).trans rfl, (blk_cell BK192.out 2).trans rfl, (blk_cell BK192.out 3).trans rfl, HS4_, HS5_, HS6_, HS7_, HS8_, HS9_, HS10_, HS11_, HS12_, HS13_, HS14_, HS15_, HS16_, HS17_, HS18_, HS19_, HS20_, HS21_, HS22_, HS23_, HS24_, HS25_, HS26_, HS27_, HS28_, HS29_, HS30_, HS31_, HS32_, HS33_, HS34_, HS35_⟩ (fun hHeld => ?_)
               clear hK K
               refine norm_ (a' := ?_) ?_ ?_
               rotate_left
               ·
                show Act.put _ (some 48) _ = _
                exact Goto.ap
               refine one_ (i := 34) (N := some 41) (Goto.bs 57 3298534883327) rfl rfl (one_of HT_.out (by kernel_rfl)) (by decide) (fun K hK => ?_)
               refine Kd.N_make_step (Kd.slice 35 k35) _ 26 (by rfl) (N' := 41) rfl 27 _ _ rfl 4 rfl rfl Tryd.underlying27 (.slice none 0 0) 24 info26 rfl (by decide) (by omega) [] (ok := fun k_ => w36.heap.size ≤ k_) (okp := fun _ => False) (Kd.FK_slice_mk (Nat.le_refl _) (Kd.F_nil _ _ _)) (fun _ hk => hk.elim) (Nat.le_refl _) (by omega) (by omega) (Below.refl _ _) (Nat.le_refl _) ?_
               intro v205 w38 ho39 hb hg_ hnew_
               have HS4_ := (hb.cell (World.block_lt_of_cell? _ _ (hHeld.2.2.2.2.1))).trans (hHeld.2.2.2.2.1)
               have HS5_ := (hb.cell (World.block_lt_of_cell? _ _ (hHeld.2.2.2.2.2.1))).trans (hHeld.2.2.2.2.2.1)
               have HS6_ := (hb.cell (World.block_lt_of_cell? _ _ (hHeld.2.2.2.2.2.2.1))).trans (hHeld.2.2.2.2.2.2.1)
               have HS7_ := (hb.cell (World.block_lt_of_cell? _ _ (hHeld.2.2.2.2.2.2.2.1))).trans (hHeld.2.2.2.2.2.2.2.1)
               have HS8_ := (hb.cell (World.block_lt_of_cell? _ _ (hHeld.2.2.2.2.2.2.2.2.1))).trans (hHeld.2.2.2.2.2.2.2.2.1)
               have HS9_ := (hb.cell (World.block_lt_of_cell? _ _ (hHeld.2.2.2.2.2.2.2.2.2.1))).trans (hHeld.2.2.2.2.2.2.2.2.2.1)
               have HS10_ := (hb.cell (World.block_lt_of_cell? _ _ (hHeld.2.2.2.2.2.2.2.2.2.2.1))).trans (hHeld.2.2.2.2.2.2.2.2.2.2.1)
               have HS11_ := (hb.cell (World.block_lt_of_cell? _ _ (hHeld.2.2.2.2.2.2.2.2.2.2.2.1))).trans (hHeld.2.2.2.2.2.2.2.2.2.2.2.1)
               have HS12_ := (hb.cell (World.block_lt_of_cell? _ _ (hHeld.2.2.2.2.2.2.2.2.2.2.2.2.1))).trans (hHeld.2.2.2.2.2.2.2.2.2.2.2.2.1)
               have HS13_ := (hb.cell (World.block_lt_of_cell? _ _ (hHeld.2.2.2.2.2.2.2.2.2.2.2.2.2.1))).trans (hHeld.2.2.2.2.2.2.2.2.2.2.2.2.2.1)
               have HS14_ := (hb.cell (World.block_lt_of_cell? _ _ (hHeld.2.2.2.2.2.2.2.2.2.2.2.2.2.2.1))).trans (hHeld.2.2.2.2.2.2.2.2.2.2.2.2.2.2.1)
               have HS15_ := (hb.cell (World.block_lt_of_cell? _ _ (hHeld.2.2.2.2.2.2.2.2.2.2.2.2.2.2.2.1))).trans (hHeld.2.2.2.2.2.2.2.2.2.2.2.2.2.2.2.1)
               have HS16_ := (hb.cell (World.block_lt_of_cell? _ _ (hHeld.2.2.2.2.2.2.2.2.2.2.2.2.2.2.2.2.1))).trans (hHeld.2.2.2.2.2.2.2.2.2.2.2.2.2.2.2.2.1)
               have HS17_ := (hb.cell (World.block_lt_of_cell? _ _ (hHeld.2.2.2.2.2.2.2.2.2.2.2.2.2.2.2.2.2.1))).trans (hHeld.2.2.2.2.2.2.2.2.2.2.2.2.2.2.2.2.2.1)
               have HS18_ := (hb.cell (World.block_lt_of_cell? _ _ (hHeld.2.2.2.2.2.2.2.2.2.2.2.2.2.2.2.2.2.2.1))).trans (hHeld.2.2.2.2.2.2.2.2.2.2.2.2.2.2.2.2.2.2.1)
               have HS19_ := (hb.cell (World.block_lt_of_cell? _ _ (hHeld.2.2.2.2.2.2.2.2.2.2.2.2.2.2.2.2.2.2.2.1))).trans (hHeld.2.2.2.2.2.2.2.2.2.2.2.2.2.2.2.2.2.2.2.1)
               have HS20_ := (hb.cell (World.block_lt_of_cell? _ _ (hHeld.2.2.2.2.2.2.2.2.2.2.2.2.2.2.2.2.2.2.2.2.1))).trans (hHeld.2.2.2.2.2.2.2.2.2.2.2.2.2.2.2.2.2.2.2.2.1)
               have HS21_ := (hb.cell (World.block_lt_of_cell? _ _ (hHeld.2.2.2.2.2.2.2.2.2.2.2.2.2.2.2.2.2.2.2.2.2.1))).trans (hHeld.2.2.2.2.2.2.2.2.2.2.2.2.2.2.2.2.2.2.2.2.2.1)
               have HS22_ := (hb.cell (World.block_lt_of_cell? _ _ (hHeld.2.2.2.2.2.2.2.2.2.2.2.2.2.2.2.2.2.2.2.2.2.2.1))).trans (hHeld.2.2.2.2.2.2.2.2.2.2.2.2.2.2.2.2.2.2.2.2.2.2.1)
               have HS23_ := (hb.cell (World.block_lt_of_cell? _ _ (hHeld.2.2.2.2.2.2.2.2.2.2.2.2.2.2.2.2.2.2.2.2.2.2.2.1))).trans (hHeld.2.2.2.2.2.2.2.2.2.2.2.2.2.2.2.2.2.2.2.2.2.2.2.1)
               have HS24_ := (hb.cell (World.block_lt_of_cell? _ _ (hHeld.2.2.2.2.2.2.2.2.2.2.2.2.2.2.2.2.2.2.2.2.2.2.2.2.1))).trans (hHeld.2.2.2.2.2.2.2.2.2.2.2.2.2.2.2.2.2.2.2.2.2.2.2.2.1)
               have HS25_ := (hb.cell (World.block_lt_of_cell? _ _ (hHeld.2.2.2.2.2.2.2.2.2.2.2.2.2.2.2.2.2.2.2.2.2.2.2.2.2.1))).trans (hHeld.2.2.2.2.2.2.2.2.2.2.2.2.2.2.2.2.2.2.2.2.2.2.2.2.2.1)
               have HS26_ := (hb.cell (World.block_lt_of_cell? _ _ (hHeld.2.2.2.2.2.2.2.2.2.2.2.2.2.2.2.2.2.2.2.2.2.2.2.2.2.2.1))).trans (hHeld.2.2.2.2.2.2.2.2.2.2.2.2.2.2.2.2.2.2.2.2.2.2.2.2.2.2.1)
               have HS27_ := (hb.cell (World.block_lt_of_cell? _ _ (hHeld.2.2.2.2.2.2.2.2.2.2.2.2.2.2.2.2.2.2.2.2.2.2.2.2.2.2.2.1))).trans (hHeld.2.2.2.2.2.2.2.2.2.2.2.2.2.2.2.2.2.2.2.2.2.2.2.2.2.2.2.1)
               have HS28_ := (hb.cell (World.block_lt_of_cell? _ _ (hHeld.2.2.2.2.2.2.2.2.2.2.2.2.2.2.2.2.2.2.2.2.2.2.2.2.2.2.2.2.1))).trans (hHeld.2.2.2.2.2.2.2.2.2.2.2.2.2.2.2.2.2.2.2.2.2.2.2.2.2.2.2.2.1)
               have HS29_ := (hb.cell (World.block_lt_of_cell? _ _ (hHeld.2.2.2.2.2.2.2.2.2.2.2.2.2.2.2.2.2.2.2.2.2.2.2.2.2.2.2.2.2.1))).trans (hHeld.2.2.2.2.2.2.2.2.2.2.2.2.2.2.2.2.2.2.2.2.2.2.2.2.2.2.2.2.2.1)
               have HS30_ := (hb.cell (World.block_lt_of_cell? _ _ (hHeld.2.2.2.2.2.2.2.2.2.2.2.2.2.2.2.2.2.2.2.2.2.2.2.2.2.2.2.2.2.2.1))).trans (hHeld.2.2.2.2.2.2.2.2.2.2.2.2.2.2.2.2.2.2.2.2.2.2.2.2.2.2.2.2.2.2.1)
               have HS31_ := (hb.cell (World.block_lt_of_cell? _ _ (hHeld.2.2.2.2.2.2.2.2.2.2.2.2.2.2.2.2.2.2.2.2.2.2.2.2.2.2.2.2.2.2.2.1))).trans (hHeld.2.2.2.2.2.2.2.2.2.2.2.2.2.2.2.2.2.2.2.2.2.2.2.2.2.2.2.2.2.2.2.1)
               have HS32_ := (hb.cell (World.block_lt_of_cell? _ _ (hHeld.2.2.2.2.2.2.2.2.2.2.2.2.2.2.2.2.2.2.2.2.2.2.2.2.2.2.2.2.2.2.2.2.1))).trans (hHeld.2.2.2.2.2.2.2.2.2.2.2.2.2.2.2.2.2.2.2.2.2.2.2.2.2.2.2.2.2.2.2.2.1)
               have HS33_ := (hb.cell (World.block_lt_of_cell? _ _ (hHeld.2.2.2.2.2.2.2.2.2.2.2.2.2.2.2.2.2.2.2.2.2.2.2.2.2.2.2.2.2.2.2.2.2.1))).trans (hHeld.2.2.2.2.2.2.2.2.2.2.2.2.2.2.2.2.2.2.2.2.2.2.2.2.2.2.2.2.2.2.2.2.2.1)
               have HS34_ := (hb.cell (World.block_lt_of_cell? _ _ (hHeld.2.2.2.2.2.2.2.2.2.2.2.2.2.2.2.2.2.2.2.2.2.2.2.2.2.2.2.2.2.2.2.2.2.2.1))).trans (hHeld.2.2.2.2.2.2.2.2.2.2.2.2.2.2.2.2.2.2.2.2.2.2.2.2.2.2.2.2.2.2.2.2.2.2.1)
               have HS35_ := (hb.cell (World.block_lt_of_cell? _ _ (hHeld.2.2.2.2.2.2.2.2.2.2.2.2.2.2.2.2.2.2.2.2.2.2.2.2.2.2.2.2.2.2.2.2.2.2.2))).trans (hHeld.2.2.2.2.2.2.2.2.2.2.2.2.2.2.2.2.2.2.2.2.2.2.2.2.2.2.2.2.2.2.2.2.2.2.2)
               clear hg_ hnew_
               (first | rw [← Ny204.out] at ho39 | (simp only [Int.reduceToNat] at ho39; rw [← Ny204.out] at ho39))
               have HO206 := Goto.m0 (Kd.N_lower (Kd.N_mono (ok' := fun k_ => some k_ ≠ (.slice Ao26 t186.length co26 : Value).ownBlock ∧ some k_ ≠ (.slice (some ad207) t189.length co27 : Value).ownBlock ∧ some k_ ≠ (.slice (some ad196) y193.length co30 : Value).ownBlock ∧ some k_ ≠ (v212 : Value).ownBlock ∧ k_ ≠ gb192) ho39 (fun k_ hk_ => ⟨(Goto.nl2 HO188 k_ hk_), (Goto.nl2 HO191 k_ hk_), (Kd.fresh' (Kd.R_lt (Goto.rk HO195)) k_ hk_), (Kd.fresh' (Kd.R_lt (Goto.rk HO213)) k_ hk_), (Kd.freshB (g := gb192) (o := .cells #[.int .i64 t184, .int .i64 t185, .slice Ao26 t186.length co26, .slice (some ad207) t189.length co27] 25 (0, 0)) (Goto.bx BK192) k_ hk_)⟩)) (below_size (Goto.hx HB))); replace HO188 := Goto.nqN HO188 (Kd.N_base ho39) hb; replace HO191 := Goto.nqN HO191 (Kd.N_base ho39) hb; replace HO195 := Goto.m0 (Kd.R_below (Goto.rk HO195) hb); replace HL207_2 := Goto.nqV HL207_2 (Kd.N_base ho39) hb; replace HL207_3 := Goto.nqV HL207_3 (Kd.N_base ho39) hb; replace HO213 := Goto.m0 (Kd.R_below (Goto.rk HO213) hb); replace BK192 := Goto.bb BK192 hb; replace HR207_2 := Goto.cb HR207_2 hb; replace HR207_3 := Goto.cb HR207_3 hb; replace HB := Goto.hs HB hb; clear hb ho39
               obtain ⟨Ao40, co40, eo40⟩ := Kd.N_slice HO206.out
               (first | subst eo40 | (injection eo40 with f1_ f2_ f3_; have f4_ := f1_.symm; have f5_ := f3_.symm; clear f1_ f2_ f3_; subst f4_; subst f5_))
               refine hK.out _ _ ⟨(blk_cell BK192.out 0).trans rfl, (blk_cell BK192.out 1).trans rfl, (blk_cell BK192.out 2).trans rfl, (blk_cell BK192.out 3).trans rfl, HS4_, HS5_, HS6_, HS7_, HS8_, HS9_, HS10_, HS11_, HS12_, HS13_, HS14_, HS15_, HS16_, HS17_, HS18_, HS19_, HS20_, HS21_, HS22_, HS23_, HS24_, HS25_, HS26_, HS27_, HS28_, HS29_, HS30_, HS31_, HS32_, HS33_, HS34_, HS35_⟩ (fun hHeld => ?_)
               clear hK K
               refine norm_ (a' := ?_) ?_ ?_
               rotate_left
               ·
                show Act.put _ (some 41) _ = _
                exact Goto.ap
               refine one_ (i := 40) (N := some 47) (Goto.bs 57 4398046511103) rfl rfl (one_of HT_.out (by kernel_rfl)) (by decide) (fun K hK => ?_)
               refine goes_ Tryd.func16 (by kernel_rfl) rfl #[.agg #[.int .i64 t184, .int .i64 t185, .slice Ao26 t186.length co26, .slice (some ad207) t189.length co27], .slice Ao40 y204.length co40, .agg #[.int .i64 ((rd_T46 t189 1).f0.f0), .int .u64 ((rd_T46 t189 1).f0.f1)]] (by rfl) rfl rfl (by (try simp only [List.map_toArray, List.map_cons, List.map_nil]); first | done | rfl | (simp only [List.length_drop, List.length_take]; rfl)) ?_
               with_reducible refine (trace_Below.calls k t184 t185 _ _ t186 _ _ t189 _ _ y204 ((rd_T46 t189 1).f0.f0) ((rd_T46 t189 1).f0.f1) t208 _ ?side1 ?side2 ?side3 ?side4 ?side5 ?side6 A18.out).mono ?_
               (case side1 => repeat (first | exact (Kd.N_reads' HO188.out).2.2 | (with_reducible refine Kd.C_alloc ?_ _) | (with_reducible refine Kd.C_drewN ?_ _) | (with_reducible refine Kd.C_drew ?_)))
               (case side2 => exact (Kd.N_reads' HO188.out).2.1)
               (case side3 => repeat (first | exact (Kd.N_reads' HO191.out).2.2 | (with_reducible refine Kd.C_alloc ?_ _) | (with_reducible refine Kd.C_drewN ?_ _) | (with_reducible refine Kd.C_drew ?_)))
               (case side4 => exact (Kd.N_reads' HO191.out).2.1)
               (case side5 => repeat (first | exact (Kd.N_reads' HO206.out).2.2 | (with_reducible refine Kd.C_alloc ?_ _) | (with_reducible refine Kd.C_drewN ?_ _) | (with_reducible refine Kd.C_drew ?_)))
               (case side6 => exact (Kd.N_reads' HO206.out).2.1)
               rintro e w41 ⟨v209, rfl, ho0, hb⟩
               have HS4_ := (hb.cell (World.block_lt_of_cell? _ _ (hHeld.2.2.2.2.1))).trans (hHeld.2.2.2.2.1)
               have HS5_ := (hb.cell (World.block_lt_of_cell? _ _ (hHeld.2.2.2.2.2.1))).trans (hHeld.2.2.2.2.2.1)
               have HS6_ := (hb.cell (World.block_lt_of_cell? _ _ (hHeld.2.2.2.2.2.2.1))).trans (hHeld.2.2.2.2.2.2.1)
               have HS7_ := (hb.cell (World.block_lt_of_cell? _ _ (hHeld.2.2.2.2.2.2.2.1))).trans (hHeld.2.2.2.2.2.2.2.1)
               have HS8_ := (hb.cell (World.block_lt_of_cell? _ _ (hHeld.2.2.2.2.2.2.2.2.1))).trans (hHeld.2.2.2.2.2.2.2.2.1)
               have HS9_ := (hb.cell (World.block_lt_of_cell? _ _ (hHeld.2.2.2.2.2.2.2.2.2.1))).trans (hHeld.2.2.2.2.2.2.2.2.2.1)
               have HS10_ := (hb.cell (World.block_lt_of_cell? _ _ (hHeld.2.2.2.2.2.2.2.2.2.2.1))).trans (hHeld.2.2.2.2.2.2.2.2.2.2.1)
               have HS11_ := (hb.cell (World.block_lt_of_cell? _ _ (hHeld.2.2.2.2.2.2.2.2.2.2.2.1))).trans (hHeld.2.2.2.2.2.2.2.2.2.2.2.1)
               have HS12_ := (hb.cell (World.block_lt_of_cell? _ _ (hHeld.2.2.2.2.2.2.2.2.2.2.2.2.1))).trans (hHeld.2.2.2.2.2.2.2.2.2.2.2.2.1)
               have HS13_ := (hb.cell (World.block_lt_of_cell? _ _ (hHeld.2.2.2.2.2.2.2.2.2.2.2.2.2.1))).trans (hHeld.2.2.2.2.2.2.2.2.2.2.2.2.2.1)
               have HS14_ := (hb.cell (World.block_lt_of_cell? _ _ (hHeld.2.2.2.2.2.2.2.2.2.2.2.2.2.2.1))).trans (hHeld.2.2.2.2.2.2.2.2.2.2.2.2.2.2.1)
               have HS15_ := (hb.cell (World.block_lt_of_cell? _ _ (hHeld.2.2.2.2.2.2.2.2.2.2.2.2.2.2.2.1))).trans (hHeld.2.2.2.2.2.2.2.2.2.2.2.2.2.2.2.1)
               have HS16_ := (hb.cell (World.block_lt_of_cell? _ _ (hHeld.2.2.2.2.2.2.2.2.2.2.2.2.2.2.2.2.1))).trans (hHeld.2.2.2.2.2.2.2.2.2.2.2.2.2.2.2.2.1)
               have HS17_ := (hb.cell (World.block_lt_of_cell? _ _ (hHeld.2.2.2.2.2.2.2.2.2.2.2.2.2.2.2.2.2.1))).trans (hHeld.2.2.2.2.2.2.2.2.2.2.2.2.2.2.2.2.2.1)
               have HS18_ := (hb.cell (World.block_lt_of_cell? _ _ (hHeld.2.2.2.2.2.2.2.2.2.2.2.2.2.2.2.2.2.2.1))).trans (hHeld.2.2.2.2.2.2.2.2.2.2.2.2.2.2.2.2.2.2.1)
               have HS19_ := (hb.cell (World.block_lt_of_cell? _ _ (hHeld.2.2.2.2.2.2.2.2.2.2.2.2.2.2.2.2.2.2.2.1))).trans (hHeld.2.2.2.2.2.2.2.2.2.2.2.2.2.2.2.2.2.2.2.1)
               have HS20_ := (hb.cell (World.block_lt_of_cell? _ _ (hHeld.2.2.2.2.2.2.2.2.2.2.2.2.2.2.2.2.2.2.2.2.1))).trans (hHeld.2.2.2.2.2.2.2.2.2.2.2.2.2.2.2.2.2.2.2.2.1)
               have HS21_ := (hb.cell (World.block_lt_of_cell? _ _ (hHeld.2.2.2.2.2.2.2.2.2.2.2.2.2.2.2.2.2.2.2.2.2.1))).trans (hHeld.2.2.2.2.2.2.2.2.2.2.2.2.2.2.2.2.2.2.2.2.2.1)
               have HS22_ := (hb.cell (World.block_lt_of_cell? _ _ (hHeld.2.2.2.2.2.2.2.2.2.2.2.2.2.2.2.2.2.2.2.2.2.2.1))).trans (hHeld.2.2.2.2.2.2.2.2.2.2.2.2.2.2.2.2.2.2.2.2.2.2.1)
               have HS23_ := (hb.cell (World.block_lt_of_cell? _ _ (hHeld.2.2.2.2.2.2.2.2.2.2.2.2.2.2.2.2.2.2.2.2.2.2.2.1))).trans (hHeld.2.2.2.2.2.2.2.2.2.2.2.2.2.2.2.2.2.2.2.2.2.2.2.1)
               have HS24_ := (hb.cell (World.block_lt_of_cell? _ _ (hHeld.2.2.2.2.2.2.2.2.2.2.2.2.2.2.2.2.2.2.2.2.2.2.2.2.1))).trans (hHeld.2.2.2.2.2.2.2.2.2.2.2.2.2.2.2.2.2.2.2.2.2.2.2.2.1)
               have HS25_ := (hb.cell (World.block_lt_of_cell? _ _ (hHeld.2.2.2.2.2.2.2.2.2.2.2.2.2.2.2.2.2.2.2.2.2.2.2.2.2.1))).trans (hHeld.2.2.2.2.2.2.2.2.2.2.2.2.2.2.2.2.2.2.2.2.2.2.2.2.2.1)
               have HS26_ := (hb.cell (World.block_lt_of_cell? _ _ (hHeld.2.2.2.2.2.2.2.2.2.2.2.2.2.2.2.2.2.2.2.2.2.2.2.2.2.2.1))).trans (hHeld.2.2.2.2.2.2.2.2.2.2.2.2.2.2.2.2.2.2.2.2.2.2.2.2.2.2.1)
               have HS27_ := (hb.cell (World.block_lt_of_cell? _ _ (hHeld.2.2.2.2.2.2.2.2.2.2.2.2.2.2.2.2.2.2.2.2.2.2.2.2.2.2.2.1))).trans (hHeld.2.2.2.2.2.2.2.2.2.2.2.2.2.2.2.2.2.2.2.2.2.2.2.2.2.2.2.1)
               have HS28_ := (hb.cell (World.block_lt_of_cell? _ _ (hHeld.2.2.2.2.2.2.2.2.2.2.2.2.2.2.2.2.2.2.2.2.2.2.2.2.2.2.2.2.1))).trans (hHeld.2.2.2.2.2.2.2.2.2.2.2.2.2.2.2.2.2.2.2.2.2.2.2.2.2.2.2.2.1)
               have HS29_ := (hb.cell (World.block_lt_of_cell? _ _ (hHeld.2.2.2.2.2.2.2.2.2.2.2.2.2.2.2.2.2.2.2.2.2.2.2.2.2.2.2.2.2.1))).trans (hHeld.2.2.2.2.2.2.2.2.2.2.2.2.2.2.2.2.2.2.2.2.2.2.2.2.2.2.2.2.2.1)
               have HS30_ := (hb.cell (World.block_lt_of_cell? _ _ (hHeld.2.2.2.2.2.2.2.2.2.2.2.2.2.2.2.2.2.2.2.2.2.2.2.2.2.2.2.2.2.2.1))).trans (hHeld.2.2.2.2.2.2.2.2.2.2.2.2.2.2.2.2.2.2.2.2.2.2.2.2.2.2.2.2.2.2.1)
               have HS31_ := (hb.cell (World.block_lt_of_cell? _ _ (hHeld.2.2.2.2.2.2.2.2.2.2.2.2.2.2.2.2.2.2.2.2.2.2.2.2.2.2.2.2.2.2.2.1))).trans (hHeld.2.2.2.2.2.2.2.2.2.2.2.2.2.2.2.2.2.2.2.2.2.2.2.2.2.2.2.2.2.2.2.1)
               have HS32_ := (hb.cell (World.block_lt_of_cell? _ _ (hHeld.2.2.2.2.2.2.2.2.2.2.2.2.2.2.2.2.2.2.2.2.2.2.2.2.2.2.2.2.2.2.2.2.1))).trans (hHeld.2.2.2.2.2.2.2.2.2.2.2.2.2.2.2.2.2.2.2.2.2.2.2.2.2.2.2.2.2.2.2.2.1)
               have HS33_ := (hb.cell (World.block_lt_of_cell? _ _ (hHeld.2.2.2.2.2.2.2.2.2.2.2.2.2.2.2.2.2.2.2.2.2.2.2.2.2.2.2.2.2.2.2.2.2.1))).trans (hHeld.2.2.2.2.2.2.2.2.2.2.2.2.2.2.2.2.2.2.2.2.2.2.2.2.2.2.2.2.2.2.2.2.2.1)
               have HS34_ := (hb.cell (World.block_lt_of_cell? _ _ (hHeld.2.2.2.2.2.2.2.2.2.2.2.2.2.2.2.2.2.2.2.2.2.2.2.2.2.2.2.2.2.2.2.2.2.2.1))).trans (hHeld.2.2.2.2.2.2.2.2.2.2.2.2.2.2.2.2.2.2.2.2.2.2.2.2.2.2.2.2.2.2.2.2.2.2.1)
               have HS35_ := (hb.cell (World.block_lt_of_cell? _ _ (hHeld.2.2.2.2.2.2.2.2.2.2.2.2.2.2.2.2.2.2.2.2.2.2.2.2.2.2.2.2.2.2.2.2.2.2.2))).trans (hHeld.2.2.2.2.2.2.2.2.2.2.2.2.2.2.2.2.2.2.2.2.2.2.2.2.2.2.2.2.2.2.2.2.2.2.2)
               refine ⟨_, rfl, ?_⟩
               have HO210 := Goto.m0 (Kd.R_lower (Kd.R_new' ho0 (Kd.R_lt (Goto.rk HO213))) (below_size (Goto.hx HB))); replace HO188 := Goto.nqN HO188 (Kd.R_base ho0) hb; replace HO191 := Goto.nqN HO191 (Kd.R_base ho0) hb; replace HO195 := Goto.m0 (Kd.R_below (Goto.rk HO195) hb); replace HL207_2 := Goto.nqV HL207_2 (Kd.R_base ho0) hb; replace HL207_3 := Goto.nqV HL207_3 (Kd.R_base ho0) hb; replace HO213 := Goto.m0 (Kd.R_elder' (Goto.rk HO213) (Kd.R_base ho0) hb); replace HO206 := Goto.nqN HO206 (Kd.R_base ho0) hb; replace BK192 := Goto.bb BK192 hb; replace HR207_2 := Goto.cb HR207_2 hb; replace HR207_3 := Goto.cb HR207_3 hb; replace HB := Goto.hs HB hb
               (try clear hb)
               (try clear hb2)
               (try clear hk)
               (try clear hi)
               (try clear ho0)
               refine hK.out _ _ ⟨(blk_cell BK192.out 0).trans rfl, (blk_cell BK192.out 1).trans rfl, (blk_cell BK192.out 2).trans rfl, (blk_cell BK192.out 3).trans rfl, HS4_, HS5_, HS6_, HS7_, HS8_, HS9_, HS10_, HS11_, HS12_, HS13_, HS14_, HS15_, HS16_, HS17_, HS18_, HS19_, HS20_, HS21_, HS22_, HS23_, HS24_, HS25_, HS26_, HS27_, HS28_, HS29_, HS30_, HS31_, HS32_, HS33_, HS34_, HS35_⟩ (fun hHeld => ?_)
               clear hK K
               refine norm_ (a' := ?_) ?_ ?_
               rotate_left
               ·
                show Act.put _ (some 47) _ = _
                exact Goto.ap
               exact norm_ (by simp only [putAll, Act.put, List.setIfInBounds_toArray, List.set_cons_zero, List.set_cons_succ]) (hCont (.slice Ao40 y204.length co40, v209, v212) _ ⟨hHeld, (Goto.fmV HL207_2), (Goto.fmV HL207_3), (Goto.fmN HO188), (Goto.fmN HO191), (Goto.rk HO195), (Goto.fmN HO206), (by (with_reducible repeat (first | apply Kd.R_alloc | apply Kd.R_drewN | apply Kd.R_drew)); exact Kd.R_mono HO210.out (fun _ hk => hk.2)), (by (with_reducible repeat (first | apply Kd.R_alloc | apply Kd.R_drewN | apply Kd.R_drew)); exact Kd.R_mono HO213.out (fun _ hk => hk.2)), (Goto.bx BK192), (Goto.hx HB)⟩)
             rintro ⟨v205, v209, v212⟩ w42 ⟨hS_, h0_, h1_, h2_, h3_, h4_, h5_, h6_, h7_, h8_, h9_⟩
             have n0_ : Aside0 (Kd.V (Kd.slice 3 (Kd.int .i64)) 39 w42 w.heap.size (fun k_ => some k_ ≠ (.slice Ao26 t186.length co26 : Value).ownBlock ∧ some k_ ≠ (.slice (some ad207) t189.length co27 : Value).ownBlock ∧ some k_ ≠ (.slice (some ad196) y193.length co30 : Value).ownBlock ∧ some k_ ≠ (v205 : Value).ownBlock ∧ some k_ ≠ (v209 : Value).ownBlock ∧ some k_ ≠ (v212 : Value).ownBlock ∧ k_ ≠ gb192) (.slice A207_2 ((rd_T46 t189 1).f1).length c207_2) ((rd_T46 t189 1).f1)) := ⟨h0_⟩
             have n1_ : Aside0 (Kd.V (Kd.int .i64) 3 w42 w.heap.size (fun k_ => some k_ ≠ (.slice Ao26 t186.length co26 : Value).ownBlock ∧ some k_ ≠ (.slice (some ad207) t189.length co27 : Value).ownBlock ∧ some k_ ≠ (.slice (some ad196) y193.length co30 : Value).ownBlock ∧ some k_ ≠ (v205 : Value).ownBlock ∧ some k_ ≠ (v209 : Value).ownBlock ∧ some k_ ≠ (v212 : Value).ownBlock ∧ k_ ≠ gb192) (.slice A207_3 ((rd_T46 t189 1).f2).length c207_3) ((rd_T46 t189 1).f2)) := ⟨h1_⟩
             have n2_ : Aside0 (Kd.N (Kd.slice 3 (Kd.int .i64)) 39 w42 w.heap.size (fun k_ => some k_ ≠ (.slice (some ad207) t189.length co27 : Value).ownBlock ∧ some k_ ≠ (.slice (some ad196) y193.length co30 : Value).ownBlock ∧ some k_ ≠ (v205 : Value).ownBlock ∧ some k_ ≠ (v209 : Value).ownBlock ∧ some k_ ≠ (v212 : Value).ownBlock ∧ k_ ≠ gb192) (.slice Ao26 t186.length co26) t186) := ⟨h2_⟩
             have n3_ : Aside0 (Kd.N k46 46 w42 w.heap.size (fun k_ => some k_ ≠ (.slice Ao26 t186.length co26 : Value).ownBlock ∧ some k_ ≠ (.slice (some ad196) y193.length co30 : Value).ownBlock ∧ some k_ ≠ (v205 : Value).ownBlock ∧ some k_ ≠ (v209 : Value).ownBlock ∧ some k_ ≠ (v212 : Value).ownBlock ∧ k_ ≠ gb192) (.slice (some ad207) t189.length co27) t189) := ⟨h3_⟩
             have n4_ : Aside0 (Kd.R k35 35 w42 w.heap.size (fun _ => True) (.slice (some ad196) y193.length co30) y193) := ⟨h4_⟩
             have n5_ : Aside0 (Kd.N (Kd.slice 35 k35) 26 w42 w.heap.size (fun k_ => some k_ ≠ (.slice Ao26 t186.length co26 : Value).ownBlock ∧ some k_ ≠ (.slice (some ad207) t189.length co27 : Value).ownBlock ∧ some k_ ≠ (.slice (some ad196) y193.length co30 : Value).ownBlock ∧ some k_ ≠ (v209 : Value).ownBlock ∧ some k_ ≠ (v212 : Value).ownBlock ∧ k_ ≠ gb192) v205 y204) := ⟨h5_⟩
             have n6_ : Aside0 (Kd.R (Kd.int .i64) 3 w42 w.heap.size (fun k_ => some k_ ≠ (v212 : Value).ownBlock) v209 t208) := ⟨h6_⟩
             have n7_ : Aside0 (Kd.R (Kd.int .i64) 3 w42 w.heap.size (fun k_ => some k_ ≠ (v209 : Value).ownBlock) v212 y211) := ⟨h7_⟩
             have n8_ : Aside0 (w42.heap[gb192]? = some (.cells #[.int .i64 t184, .int .i64 t185, .slice Ao26 t186.length co26, .slice (some ad207) t189.length co27] 25 (0, 0))) := ⟨h8_⟩
             have n9_ : Aside0 (Below w.heap.size w w42) := ⟨h9_⟩
             clear HO188; clear HO191; clear HO195; clear BK192; clear HB; clear h0_ h1_ h2_ h3_ h4_ h5_ h6_ h7_ h8_ h9_; have HL207_2 := n0_; have HL207_3 := n1_; have HO188 := n2_; have HO191 := n3_; have HO195 := n4_; have HO206 := n5_; have HO210 := n6_; have HO213 := n7_; have BK192 := n8_; have HB := n9_; clear n0_ n1_ n2_ n3_ n4_ n5_ n6_ n7_ n8_ n9_
             have hHeld : w42.cell? ⟨gb192, 0, none⟩ = some (.int .i64 t184) ∧ w42.cell? ⟨gb192, 1, none⟩ = some (.int .i64 t185) ∧ w42.cell? ⟨gb192, 2, none⟩ = some (.slice Ao26 t186.length co26) ∧ w42.cell? ⟨gb192, 3, none⟩ = some (.slice (some ad207) t189.length co27) ∧ w42.cell? ad196 = some (.int .i64 ((rd_T35 y193 0).f0)) ∧ w42.cell? ⟨ad196.block, ad196.off + 1, none⟩ = some (.int .i64 ((rd_T35 y193 0).f1)) ∧ w42.cell? ⟨ad196.block, ad196.off + 2, none⟩ = some (.int .i64 ((rd_T35 y193 0).f2)) ∧ w42.cell? ⟨ad196.block, ad196.off + 3, none⟩ = some (.int .i64 ((rd_T35 y193 0).f3)) ∧ w42.cell? ⟨ad196.block, ad196.off + 4, none⟩ = some (.int .i64 ((rd_T35 y193 0).f4)) ∧ w42.cell? ⟨ad196.block, ad196.off + 5, none⟩ = some (.int .i64 ((rd_T35 y193 0).f5)) ∧ w42.cell? ⟨ad196.block, ad196.off + 6, none⟩ = some (.int .i64 ((rd_T35 y193 1).f0)) ∧ w42.cell? ⟨ad196.block, ad196.off + 6 + 1, none⟩ = some (.int .i64 ((rd_T35 y193 1).f1)) ∧ w42.cell? ⟨ad196.block, ad196.off + 6 + 2, none⟩ = some (.int .i64 ((rd_T35 y193 1).f2)) ∧ w42.cell? ⟨ad196.block, ad196.off + 6 + 3, none⟩ = some (.int .i64 ((rd_T35 y193 1).f3)) ∧ w42.cell? ⟨ad196.block, ad196.off + 6 + 4, none⟩ = some (.int .i64 ((rd_T35 y193 1).f4)) ∧ w42.cell? ⟨ad196.block, ad196.off + 6 + 5, none⟩ = some (.int .i64 ((rd_T35 y193 1).f5)) ∧ w42.cell? ⟨ad207.block, ad207.off + 10, none⟩ = some (.int .i64 ((rd_T46 t189 1).f0.f0)) ∧ w42.cell? ⟨ad207.block, ad207.off + 10 + 1, none⟩ = some (.int .u64 ((rd_T46 t189 1).f0.f1)) ∧ w42.cell? ⟨ad207.block, ad207.off + 10 + 2, none⟩ = some (.slice A207_2 ((rd_T46 t189 1).f1).length c207_2) ∧ w42.cell? ⟨ad207.block, ad207.off + 10 + 3, none⟩ = some (.slice A207_3 ((rd_T46 t189 1).f2).length c207_3) ∧ w42.cell? ⟨ad207.block, ad207.off + 10 + 4, none⟩ = some (.int .i64 ((rd_T46 t189 1).f3)) ∧ w42.cell? ⟨ad207.block, ad207.off + 10 + 5, none⟩ = some (.int .i64 ((rd_T46 t189 1).f4)) ∧ w42.cell? ⟨ad207.block, ad207.off + 10 + 6, none⟩ = some (.int .i64 ((rd_T46 t189 1).f5)) ∧ w42.cell? ⟨ad207.block, ad207.off + 10 + 7, none⟩ = some (.int .i64 ((rd_T46 t189 1).f6)) ∧ w42.cell? ⟨ad207.block, ad207.off + 10 + 8, none⟩ = some (.int .i64 ((rd_T46 t189 1).f7)) ∧ w42.cell? ⟨ad207.block, ad207.off + 10 + 9, none⟩ = some (.int .i64 ((rd_T46 t189 1).f8)) ∧ w42.cell? ad207 = some (.int .i64 ((rd_T46 t189 0).f0.f0)) ∧ w42.cell? ⟨ad207.block, ad207.off + 1, none⟩ = some (.int .u64 ((rd_T46 t189 0).f0.f1)) ∧ w42.cell? ⟨ad207.block, ad207.off + 2, none⟩ = some (.slice A218_2 ((rd_T46 t189 0).f1).length c218_2) ∧ w42.cell? ⟨ad207.block, ad207.off + 3, none⟩ = some (.slice A218_3 ((rd_T46 t189 0).f2).length c218_3) ∧ w42.cell? ⟨ad207.block, ad207.off + 4, none⟩ = some (.int .i64 ((rd_T46 t189 0).f3)) ∧ w42.cell? ⟨ad207.block, ad207.off + 5, none⟩ = some (.int .i64 ((rd_T46 t189 0).f4)) ∧ w42.cell? ⟨ad207.block, ad207.off + 6, none⟩ = some (.int .i64 ((rd_T46 t189 0).f5)) ∧ w42.cell? ⟨ad207.block, ad207.off + 7, none⟩ = some (.int .i64 ((rd_T46 t189 0).f6)) ∧ w42.cell? ⟨ad207.block, ad207.off + 8, none⟩ = some (.int .i64 ((rd_T46 t189 0).f7)) ∧ w42.cell? ⟨ad207.block, ad207.off + 9, none⟩ = some (.int .i64 ((rd_T46 t189 0).f8)) := hS_
             obtain ⟨Ao43, co43, eo43⟩ := Kd.R_slice HO210.out
             (first | subst eo43 | (injection eo43 with f1_ f2_ f3_; have f4_ := f1_.symm; have f5_ := f3_.symm; clear f1_ f2_ f3_; subst f4_; subst f5_))
             obtain ⟨Ao44, co44, eo44⟩ := Kd.R_slice HO213.out
             (first | subst eo44 | (injection eo44 with f1_ f2_ f3_; have f4_ := f1_.symm; have f5_ := f3_.symm; clear f1_ f2_ f3_; subst f4_; subst f5_))
             refine norm_ (a' := ?_) ?_ ?_
             rotate_left
             ·
              simp only [putAll, Act.put, List.setIfInBounds_toArray, List.set_cons_zero, List.set_cons_succ]
              rfl
             refine one_ (i := 42) (N := some 49) (Goto.bs 57 8796093022207) rfl rfl (one_of HT_.out (by kernel_rfl)) (by decide) (fun K hK => ?_)
             refine goes_ Tryd.func15 (by kernel_rfl) rfl #[.slice Ao43 t208.length co43, .slice Ao44 y211.length co44] (by rfl) rfl rfl (by (try simp only [List.map_toArray, List.map_cons, List.map_nil]); first | done | rfl | (simp only [List.length_drop, List.length_take]; rfl)) ?_
             with_reducible refine (tontineref1_SameInts.calls k _ _ t208 _ _ y211 true _ ?side1 ?side2 ?side3 ?side4 A19.out).mono ?_
             (case side1 => repeat (first | exact (Kd.R_reads' HO210.out).2.2 | (with_reducible refine Kd.C_alloc ?_ _) | (with_reducible refine Kd.C_drewN ?_ _) | (with_reducible refine Kd.C_drew ?_)))
             (case side2 => exact (Kd.R_reads' HO210.out).2.1)
             (case side3 => repeat (first | exact (Kd.R_reads' HO213.out).2.2 | (with_reducible refine Kd.C_alloc ?_ _) | (with_reducible refine Kd.C_drewN ?_ _) | (with_reducible refine Kd.C_drew ?_)))
             (case side4 => exact (Kd.R_reads' HO213.out).2.1)
             rintro e w' ⟨rfl, ⟨nd, rfl⟩⟩
             refine ⟨_, rfl, ?_⟩
             refine hK.out _ _ ⟨(blk_cell BK192.out 0).trans rfl, (blk_cell BK192.out 1).trans rfl, (blk_cell BK192.out 2).trans rfl, (blk_cell BK192.out 3).trans rfl, hHeld.2.2.2.2.1, hHeld.2.2.2.2.2.1, hHeld.2.2.2.2.2.2.1, hHeld.2.2.2.2.2.2.2.1, hHeld.2.2.2.2.2.2.2.2.1, hHeld.2.2.2.2.2.2.2.2.2.1, hHeld.2.2.2.2.2.2.2.2.2.2.1, hHeld.2.2.2.2.2.2.2.2.2.2.2.1, hHeld.2.2.2.2.2.2.2.2.2.2.2.2.1, hHeld.2.2.2.2.2.2.2.2.2.2.2.2.2.1, hHeld.2.2.2.2.2.2.2.2.2.2.2.2.2.2.1, hHeld.2.2.2.2.2.2.2.2.2.2.2.2.2.2.2.1, hHeld.2.2.2.2.2.2.2.2.2.2.2.2.2.2.2.2.1, hHeld.2.2.2.2.2.2.2.2.2.2.2.2.2.2.2.2.2.1, hHeld.2.2.2.2.2.2.2.2.2.2.2.2.2.2.2.2.2.2.1, hHeld.2.2.2.2.2.2.2.2.2.2.2.2.2.2.2.2.2.2.2.1, hHeld.2.2.2.2.2.2.2.2.2.2.2.2.2.2.2.2.2.2.2.2.1, hHeld.2.2.2.2.2.2.2.2.2.2.2.2.2.2.2.2.2.2.2.2.2.1, hHeld.2.2.2.2.2.2.2.2.2.2.2.2.2.2.2.2.2.2.2.2.2.2.1, hHeld.2.2.2.2.2.2.2.2.2.2.2.2.2.2.2.2.2.2.2.2.2.2.2.1, hHeld.2.2.2.2.2.2.2.2.2.2.2.2.2.2.2.2.2.2.2.2.2.2.2.2.1, hHeld.2.2.2.2.2.2.2.2.2.2.2.2.2.2.2.2.2.2.2.2.2.2.2.2.2.1, hHeld.2.2.2.2.2.2.2.2.2.2.2.2.2.2.2.2.2.2.2.2.2.2.2.2.2.2.1, hHeld.2.2.2.2.2.2.2.2.2.2.2.2.2.2.2.2.2.2.2.2.2.2.2.2.2.2.2.1, hHeld.2.2.2.2.2.2.2.2.2.2.2.2.2.2.2.2.2.2.2.2.2.2.2.2.2.2.2.2.1, hHeld.2.2.2.2.2.2.2.2.2.2.2.2.2.2.2.2.2.2.2.2.2.2.2.2.2.2.2.2.2.1, hHeld.2.2.2.2.2.2.2.2.2.2.2.2.2.2.2.2.2.2.2.2.2.2.2.2.2.2.2.2.2.2.1, hHeld.2.2.2.2.2.2.2.2.2.2.2.2.2.2.2.2.2.2.2.2.2.2.2.2.2.2.2.2.2.2.2.1, hHeld.2.2.2.2.2.2.2.2.2.2.2.2.2.2.2.2.2.2.2.2.2.2.2.2.2.2.2.2.2.2.2.2.1, hHeld.2.2.2.2.2.2.2.2.2.2.2.2.2.2.2.2.2.2.2.2.2.2.2.2.2.2.2.2.2.2.2.2.2.1, hHeld.2.2.2.2.2.2.2.2.2.2.2.2.2.2.2.2.2.2.2.2.2.2.2.2.2.2.2.2.2.2.2.2.2.2.1, hHeld.2.2.2.2.2.2.2.2.2.2.2.2.2.2.2.2.2.2.2.2.2.2.2.2.2.2.2.2.2.2.2.2.2.2.2⟩ (fun hHeld => ?_)
             clear hK K
             refine norm_ (a' := ?_) ?_ ?_
             rotate_left
             ·
              show Act.put _ (some 49) _ = _
              exact Goto.ap
             refine Goto.pu 43 50 57 17592186044415 ?_
             refine Goto.pu 44 51 57 35184372088831 ?_
             refine Goto.pu 46 53 57 105553116266495 ?_
             refine Goto.pu 48 55 57 387028092977151 ?_
             refine take_ (i := 45) (N := some 52) (v := ?_) (a' := ?_) (Goto.bs 57 422212465065983) rfl rfl (take_ofW HT_.out HW_.out (by kernel_rfl)) (fun _ _ _ h => h) (Or.inl ⟨by rfl, ?_⟩) hHeld ?_ ?_
             rotate_left
             ·
              rintro w' ⟨s0, s1, s2, s3, s4, s5, s6, s7, s8, s9, s10, s11, s12, s13, s14, s15, s16, s17, s18, s19, s20, s21, s22, s23, s24, s25, s26, s27, s28, s29, s30, s31, s32, s33, s34, s35⟩
              go_simp
              with_reducible rfl
             rotate_left
             ·
              exact Goto.ap
             refine take_ (i := 49) (N := some 56) (v := ?_) (a' := ?_) (Goto.bs 57 985162418487295) rfl rfl (take_ofW HT_.out HW_.out (by kernel_rfl)) (fun _ _ _ h => h) (Or.inl ⟨by rfl, ?_⟩) hHeld ?_ ?_
             rotate_left
             ·
              rintro w' ⟨s0, s1, s2, s3, s4, s5, s6, s7, s8, s9, s10, s11, s12, s13, s14, s15, s16, s17, s18, s19, s20, s21, s22, s23, s24, s25, s26, s27, s28, s29, s30, s31, s32, s33, s34, s35⟩
              go_simp
              with_reducible rfl
             rotate_left
             ·
              exact Goto.ap
             refine Goto.pu 50 57 57 2111062325329919 ?_
             refine Goto.pu 51 58 57 4362862139015167 ?_
             refine take_ (i := 52) (N := some 59) (v := ?_) (a' := ?_) (Goto.bs 57 8866461766385663) rfl rfl (take_ofW HT_.out HW_.out (by kernel_rfl)) (fun _ _ _ h => h) (Or.inl ⟨by rfl, ?_⟩) hHeld ?_ ?_
             rotate_left
             ·
              rintro w' ⟨s0, s1, s2, s3, s4, s5, s6, s7, s8, s9, s10, s11, s12, s13, s14, s15, s16, s17, s18, s19, s20, s21, s22, s23, s24, s25, s26, s27, s28, s29, s30, s31, s32, s33, s34, s35⟩
              go_simp
              with_reducible rfl
             rotate_left
             ·
              exact Goto.ap
             refine one_ (i := 47) (N := some 54) (Goto.bs 57 9007199254740991) rfl rfl (one_of HT_.out (by kernel_rfl)) (by decide) (fun K hK => ?_)
             refine Kd.N_lit_step (Kd.slice 35 k35) _ 26 ?hg (N' := 54) ?hd (xs := ([y193] : List (List (S35)))) (inner := [.slice (some ad196) y193.length co30]) (ok := (fun k_ => some k_ ≠ (.slice Ao26 t186.length co26 : Value).ownBlock ∧ some k_ ≠ (.slice (some ad207) t189.length co27 : Value).ownBlock ∧ some k_ ≠ (v205 : Value).ownBlock ∧ some k_ ≠ (.slice Ao43 t208.length co43 : Value).ownBlock ∧ some k_ ≠ (.slice Ao44 y211.length co44 : Value).ownBlock ∧ k_ ≠ gb192)) (okp := (fun k_ => some k_ ≠ (.slice Ao26 t186.length co26 : Value).ownBlock ∧ some k_ ≠ (.slice (some ad207) t189.length co27 : Value).ownBlock ∧ some k_ ≠ (v205 : Value).ownBlock ∧ some k_ ≠ (.slice Ao43 t208.length co43 : Value).ownBlock ∧ some k_ ≠ (.slice Ao44 y211.length co44 : Value).ownBlock ∧ k_ ≠ gb192)) ?hr ?hp (fun _ hk => hk) ((show ∀ k_, w42.heap.size ≤ k_ → (fun k_ => some k_ ≠ (.slice Ao26 t186.length co26 : Value).ownBlock ∧ some k_ ≠ (.slice (some ad207) t189.length co27 : Value).ownBlock ∧ some k_ ≠ (v205 : Value).ownBlock ∧ some k_ ≠ (.slice Ao43 t208.length co43 : Value).ownBlock ∧ some k_ ≠ (.slice Ao44 y211.length co44 : Value).ownBlock ∧ k_ ≠ gb192) k_ from fun k_ hk => ⟨Goto.nl2 HO188 k_ hk, Goto.nl2 HO191 k_ hk, Goto.nl2 HO206 k_ hk, Kd.fresh' (Kd.R_lt (Goto.rk HO210)) k_ hk, Kd.fresh' (Kd.R_lt (Goto.rk HO213)) k_ hk, Goto.fb BK192 k_ hk⟩) _ (Nat.le_refl _)) (Below.refl _ _) (Nat.le_refl _) (by simp) ?_; (case hd => rfl); (case hg => rfl); (case hr => first | (go_simp; done) | (go_simp; rfl)); (case hp => exact (Reps.one (show Kd.FK (Kd.slice 35 k35) _ _ y193 [.slice (some ad196) y193.length co30] from (Kd.FK_slice_mk (Kd.R_reads' (Kd.R_mono (ok' := (fun k_ => some k_ ≠ (.slice Ao26 t186.length co26 : Value).ownBlock ∧ some k_ ≠ (.slice (some ad207) t189.length co27 : Value).ownBlock ∧ some k_ ≠ (v205 : Value).ownBlock ∧ some k_ ≠ (.slice Ao43 t208.length co43 : Value).ownBlock ∧ some k_ ≠ (.slice Ao44 y211.length co44 : Value).ownBlock ∧ k_ ≠ gb192)) (Kd.R_types (Kd.R_apart' (Kd.R_apart' (Kd.R_apart' (Kd.R_apart' (Kd.R_apart' (HO195.out) (Kd.N_typed HO188.out) (by decide)) (Kd.N_typed HO191.out) (by decide)) (Kd.N_typed HO206.out) (by decide)) (Kd.R_typed HO210.out) (by decide)) (Kd.R_typed HO213.out) (by decide)) BK192.out (by decide)) (fun k_ hk => ⟨hk.1.1.1.1.1.2, ⟨hk.1.1.1.1.2, ⟨hk.1.1.1.2, ⟨hk.1.1.2, ⟨hk.1.2, hk.2⟩⟩⟩⟩⟩))).2.1 (Kd.R_F (Kd.R_mono (ok' := (fun k_ => some k_ ≠ (.slice Ao26 t186.length co26 : Value).ownBlock ∧ some k_ ≠ (.slice (some ad207) t189.length co27 : Value).ownBlock ∧ some k_ ≠ (v205 : Value).ownBlock ∧ some k_ ≠ (.slice Ao43 t208.length co43 : Value).ownBlock ∧ some k_ ≠ (.slice Ao44 y211.length co44 : Value).ownBlock ∧ k_ ≠ gb192)) (Kd.R_types (Kd.R_apart' (Kd.R_apart' (Kd.R_apart' (Kd.R_apart' (Kd.R_apart' (HO195.out) (Kd.N_typed HO188.out) (by decide)) (Kd.N_typed HO191.out) (by decide)) (Kd.N_typed HO206.out) (by decide)) (Kd.R_typed HO210.out) (by decide)) (Kd.R_typed HO213.out) (by decide)) BK192.out (by decide)) (fun k_ hk => ⟨hk.1.1.1.1.1.2, ⟨hk.1.1.1.1.2, ⟨hk.1.1.1.2, ⟨hk.1.1.2, ⟨hk.1.2, hk.2⟩⟩⟩⟩⟩))))) (Reps.none _ _)))
             intro v216 w45 ho46 hb hg_ hnew_
             have HS4_ := (hb.cell (World.block_lt_of_cell? _ _ (hHeld.2.2.2.2.1))).trans (hHeld.2.2.2.2.1)
             have HS5_ := (hb.cell (World.block_lt_of_cell? _ _ (hHeld.2.2.2.2.2.1))).trans (hHeld.2.2.2.2.2.1)
             have HS6_ := (hb.cell (World.block_lt_of_cell? _ _ (hHeld.2.2.2.2.2.2.1))).trans (hHeld.2.2.2.2.2.2.1)
             have HS7_ := (hb.cell (World.block_lt_of_cell? _ _ (hHeld.2.2.2.2.2.2.2.1))).trans (hHeld.2.2.2.2.2.2.2.1)
             have HS8_ := (hb.cell (World.block_lt_of_cell? _ _ (hHeld.2.2.2.2.2.2.2.2.1))).trans (hHeld.2.2.2.2.2.2.2.2.1)
             have HS9_ := (hb.cell (World.block_lt_of_cell? _ _ (hHeld.2.2.2.2.2.2.2.2.2.1))).trans (hHeld.2.2.2.2.2.2.2.2.2.1)
             have HS10_ := (hb.cell (World.block_lt_of_cell? _ _ (hHeld.2.2.2.2.2.2.2.2.2.2.1))).trans (hHeld.2.2.2.2.2.2.2.2.2.2.1)
             have HS11_ := (hb.cell (World.block_lt_of_cell? _ _ (hHeld.2.2.2.2.2.2.2.2.2.2.2.1))).trans (hHeld.2.2.2.2.2.2.2.2.2.2.2.1)
             have HS12_ := (hb.cell (World.block_lt_of_cell? _ _ (hHeld.2.2.2.2.2.2.2.2.2.2.2.2.1))).trans (hHeld.2.2.2.2.2.2.2.2.2.2.2.2.1)
             have HS13_ := (hb.cell (World.block_lt_of_cell? _ _ (hHeld.2.2.2.2.2.2.2.2.2.2.2.2.2.1))).trans (hHeld.2.2.2.2.2.2.2.2.2.2.2.2.2.1)
             have HS14_ := (hb.cell (World.block_lt_of_cell? _ _ (hHeld.2.2.2.2.2.2.2.2.2.2.2.2.2.2.1))).trans (hHeld.2.2.2.2.2.2.2.2.2.2.2.2.2.2.1)
             have HS15_ := (hb.cell (World.block_lt_of_cell? _ _ (hHeld.2.2.2.2.2.2.2.2.2.2.2.2.2.2.2.1))).trans (hHeld.2.2.2.2.2.2.2.2.2.2.2.2.2.2.2.1)
             have HS16_ := (hb.cell (World.block_lt_of_cell? _ _ (hHeld.2.2.2.2.2.2.2.2.2.2.2.2.2.2.2.2.1))).trans (hHeld.2.2.2.2.2.2.2.2.2.2.2.2.2.2.2.2.1)
             have HS17_ := (hb.cell (World.block_lt_of_cell? _ _ (hHeld.2.2.2.2.2.2.2.2.2.2.2.2.2.2.2.2.2.1))).trans (hHeld.2.2.2.2.2.2.2.2.2.2.2.2.2.2.2.2.2.1)
             have HS18_ := (hb.cell (World.block_lt_of_cell? _ _ (hHeld.2.2.2.2.2.2.2.2.2.2.2.2.2.2.2.2.2.2.1))).trans (hHeld.2.2.2.2.2.2.2.2.2.2.2.2.2.2.2.2.2.2.1)
             have HS19_ := (hb.cell (World.block_lt_of_cell? _ _ (hHeld.2.2.2.2.2.2.2.2.2.2.2.2.2.2.2.2.2.2.2.1))).trans (hHeld.2.2.2.2.2.2.2.2.2.2.2.2.2.2.2.2.2.2.2.1)
             have HS20_ := (hb.cell (World.block_lt_of_cell? _ _ (hHeld.2.2.2.2.2.2.2.2.2.2.2.2.2.2.2.2.2.2.2.2.1))).trans (hHeld.2.2.2.2.2.2.2.2.2.2.2.2.2.2.2.2.2.2.2.2.1)
             have HS21_ := (hb.cell (World.block_lt_of_cell? _ _ (hHeld.2.2.2.2.2.2.2.2.2.2.2.2.2.2.2.2.2.2.2.2.2.1))).trans (hHeld.2.2.2.2.2.2.2.2.2.2.2.2.2.2.2.2.2.2.2.2.2.1)
             have HS22_ := (hb.cell (World.block_lt_of_cell? _ _ (hHeld.2.2.2.2.2.2.2.2.2.2.2.2.2.2.2.2.2.2.2.2.2.2.1))).trans (hHeld.2.2.2.2.2.2.2.2.2.2.2.2.2.2.2.2.2.2.2.2.2.2.1)
             have HS23_ := (hb.cell (World.block_lt_of_cell? _ _ (hHeld.2.2.2.2.2.2.2.2.2.2.2.2.2.2.2.2.2.2.2.2.2.2.2.1))).trans (hHeld.2.2.2.2.2.2.2.2.2.2.2.2.2.2.2.2.2.2.2.2.2.2.2.1)
             have HS24_ := (hb.cell (World.block_lt_of_cell? _ _ (hHeld.2.2.2.2.2.2.2.2.2.2.2.2.2.2.2.2.2.2.2.2.2.2.2.2.1))).trans (hHeld.2.2.2.2.2.2.2.2.2.2.2.2.2.2.2.2.2.2.2.2.2.2.2.2.1)
             have HS25_ := (hb.cell (World.block_lt_of_cell? _ _ (hHeld.2.2.2.2.2.2.2.2.2.2.2.2.2.2.2.2.2.2.2.2.2.2.2.2.2.1))).trans (hHeld.2.2.2.2.2.2.2.2.2.2.2.2.2.2.2.2.2.2.2.2.2.2.2.2.2.1)
             have HS26_ := (hb.cell (World.block_lt_of_cell? _ _ (hHeld.2.2.2.2.2.2.2.2.2.2.2.2.2.2.2.2.2.2.2.2.2.2.2.2.2.2.1))).trans (hHeld.2.2.2.2.2.2.2.2.2.2.2.2.2.2.2.2.2.2.2.2.2.2.2.2.2.2.1)
             have HS27_ := (hb.cell (World.block_lt_of_cell? _ _ (hHeld.2.2.2.2.2.2.2.2.2.2.2.2.2.2.2.2.2.2.2.2.2.2.2.2.2.2.2.1))).trans (hHeld.2.2.2.2.2.2.2.2.2.2.2.2.2.2.2.2.2.2.2.2.2.2.2.2.2.2.2.1)
             have HS28_ := (hb.cell (World.block_lt_of_cell? _ _ (hHeld.2.2.2.2.2.2.2.2.2.2.2.2.2.2.2.2.2.2.2.2.2.2.2.2.2.2.2.2.1))).trans (hHeld.2.2.2.2.2.2.2.2.2.2.2.2.2.2.2.2.2.2.2.2.2.2.2.2.2.2.2.2.1)
             have HS29_ := (hb.cell (World.block_lt_of_cell? _ _ (hHeld.2.2.2.2.2.2.2.2.2.2.2.2.2.2.2.2.2.2.2.2.2.2.2.2.2.2.2.2.2.1))).trans (hHeld.2.2.2.2.2.2.2.2.2.2.2.2.2.2.2.2.2.2.2.2.2.2.2.2.2.2.2.2.2.1)
             have HS30_ := (hb.cell (World.block_lt_of_cell? _ _ (hHeld.2.2.2.2.2.2.2.2.2.2.2.2.2.2.2.2.2.2.2.2.2.2.2.2.2.2.2.2.2.2.1))).trans (hHeld.2.2.2.2.2.2.2.2.2.2.2.2.2.2.2.2.2.2.2.2.2.2.2.2.2.2.2.2.2.2.1)
             have HS31_ := (hb.cell (World.block_lt_of_cell? _ _ (hHeld.2.2.2.2.2.2.2.2.2.2.2.2.2.2.2.2.2.2.2.2.2.2.2.2.2.2.2.2.2.2.2.1))).trans (hHeld.2.2.2.2.2.2.2.2.2.2.2.2.2.2.2.2.2.2.2.2.2.2.2.2.2.2.2.2.2.2.2.1)
             have HS32_ := (hb.cell (World.block_lt_of_cell? _ _ (hHeld.2.2.2.2.2.2.2.2.2.2.2.2.2.2.2.2.2.2.2.2.2.2.2.2.2.2.2.2.2.2.2.2.1))).trans (hHeld.2.2.2.2.2.2.2.2.2.2.2.2.2.2.2.2.2.2.2.2.2.2.2.2.2.2.2.2.2.2.2.2.1)
             have HS33_ := (hb.cell (World.block_lt_of_cell? _ _ (hHeld.2.2.2.2.2.2.2.2.2.2.2.2.2.2.2.2.2.2.2.2.2.2.2.2.2.2.2.2.2.2.2.2.2.1))).trans (hHeld.2.2.2.2.2.2.2.2.2.2.2.2.2.2.2.2.2.2.2.2.2.2.2.2.2.2.2.2.2.2.2.2.2.1)
             have HS34_ := (hb.cell (World.block_lt_of_cell? _ _ (hHeld.2.2.2.2.2.2.2.2.2.2.2.2.2.2.2.2.2.2.2.2.2.2.2.2.2.2.2.2.2.2.2.2.2.2.1))).trans (hHeld.2.2.2.2.2.2.2.2.2.2.2.2.2.2.2.2.2.2.2.2.2.2.2.2.2.2.2.2.2.2.2.2.2.2.1)
             have HS35_ := (hb.cell (World.block_lt_of_cell? _ _ (hHeld.2.2.2.2.2.2.2.2.2.2.2.2.2.2.2.2.2.2.2.2.2.2.2.2.2.2.2.2.2.2.2.2.2.2.2))).trans (hHeld.2.2.2.2.2.2.2.2.2.2.2.2.2.2.2.2.2.2.2.2.2.2.2.2.2.2.2.2.2.2.2.2.2.2.2)
             clear hg_ hnew_
             (first | rw [← Ny215.out] at ho46 | (simp only [Int.reduceToNat] at ho46; rw [← Ny215.out] at ho46))
             have n0_ := Goto.nqN HO188 (Kd.N_base ho46) hb
             have n1_ := Goto.nqN HO191 (Kd.N_base ho46) hb
             have n2_ := Goto.nqV HL207_2 (Kd.N_base ho46) hb
             have n3_ := Goto.nqV HL207_3 (Kd.N_base ho46) hb
             have n4_ := Goto.nqN HO206 (Kd.N_base ho46) hb
             have n5_ := Goto.m0 (Kd.R_below (Goto.rk HO210) hb)
             have n6_ := Goto.m0 (Kd.R_below (Goto.rk HO213) hb)
             have n7_ := Goto.m0 (Kd.N_lower ho46 (below_size (Goto.hx HB)))
             have n8_ := Goto.m0 (blk_below (g := gb192) (o := .cells #[.int .i64 t184, .int .i64 t185, .slice Ao26 t186.length co26, .slice (some ad207) t189.length co27] 25 (0, 0)) (Goto.bx BK192) hb)
             have n9_ := Goto.m0 (below_step (Goto.hx HB) hb)
             clear HO188; clear HO191; clear HL207_2; clear HL207_3; clear HO206; clear HO210; clear HO213; clear BK192; clear HB; clear HO195; have HO188 := n0_; have HO191 := n1_; have HL207_2 := n2_; have HL207_3 := n3_; have HO206 := n4_; have HO210 := n5_; have HO213 := n6_; have HO217 := n7_; have BK192 := n8_; have HB := n9_; clear n0_ n1_ n2_ n3_ n4_ n5_ n6_ n7_ n8_ n9_; clear hb ho46
             obtain ⟨Ao47, co47, eo47⟩ := Kd.N_slice HO217.out
             (first | subst eo47 | (injection eo47 with f1_ f2_ f3_; have f4_ := f1_.symm; have f5_ := f3_.symm; clear f1_ f2_ f3_; subst f4_; subst f5_))
             refine hK.out _ _ ⟨(blk_cell BK192.out 0).trans rfl, (blk_cell BK192.out 1).trans rfl, (blk_cell BK192.out 2).trans rfl, (blk_cell BK192.out 3).trans rfl, HS4_, HS5_, HS6_, HS7_, HS8_, HS9_, HS10_, HS11_, HS12_, HS13_, HS14_, HS15_, HS16_, HS17_, HS18_, HS19_, HS20_, HS21_, HS22_, HS23_, HS24_, HS25_, HS26_, HS27_, HS28_, HS29_, HS30_, HS31_, HS32_, HS33_, HS34_, HS35_⟩ (fun hHeld => ?_)
             clear hK K
             refine norm_ (a' := ?_) ?_ ?_
             rotate_left
             ·
              show Act.put _ (some 54) _ = _
              exact Goto.ap
             refine one_ (i := 53) (N := some 60) (Goto.bs 57 18014398509481983) rfl rfl (one_of HT_.out (by kernel_rfl)) (by decide) (fun K hK => ?_)
             refine goes_ Tryd.func18 (by kernel_rfl) rfl #[.agg #[.int .i64 t184, .int .i64 t185, .slice Ao26 t186.length co26, .slice (some ad207) t189.length co27], .slice Ao47 y215.length co47, .agg #[.int .i64 ((rd_T46 t189 0).f0.f0), .int .u64 ((rd_T46 t189 0).f0.f1)]] (by rfl) rfl rfl (by (try simp only [List.map_toArray, List.map_cons, List.map_nil]); first | done | rfl | (simp only [List.length_drop, List.length_take]; rfl)) ?_
             with_reducible refine (ext_18.calls t184 t185 _ _ t186 _ _ t189 _ _ y215 ((rd_T46 t189 0).f0.f0) ((rd_T46 t189 0).f0.f1) t219 _ (Goto.kt (Goto.hx HB) HLD.out) ?side1 ?side2 ?side3 ?side4 ?side5 ?side6 A22.out).mono ?_
             (case side1 => repeat (first | exact (Kd.N_reads' HO188.out).2.2 | (with_reducible refine Kd.C_alloc ?_ _) | (with_reducible refine Kd.C_drewN ?_ _) | (with_reducible refine Kd.C_drew ?_)))
             (case side2 => exact (Kd.N_reads' HO188.out).2.1)
             (case side3 => repeat (first | exact (Kd.N_reads' HO191.out).2.2 | (with_reducible refine Kd.C_alloc ?_ _) | (with_reducible refine Kd.C_drewN ?_ _) | (with_reducible refine Kd.C_drew ?_)))
             (case side4 => exact (Kd.N_reads' HO191.out).2.1)
             (case side5 => repeat (first | exact (Kd.N_reads' HO217.out).2.2 | (with_reducible refine Kd.C_alloc ?_ _) | (with_reducible refine Kd.C_drewN ?_ _) | (with_reducible refine Kd.C_drew ?_)))
             (case side6 => exact (Kd.N_reads' HO217.out).2.1)
             rintro e w48 ⟨rfl, hb⟩
             have HS4_ := (hb.cell (World.block_lt_of_cell? _ _ (hHeld.2.2.2.2.1))).trans (hHeld.2.2.2.2.1)
             have HS5_ := (hb.cell (World.block_lt_of_cell? _ _ (hHeld.2.2.2.2.2.1))).trans (hHeld.2.2.2.2.2.1)
             have HS6_ := (hb.cell (World.block_lt_of_cell? _ _ (hHeld.2.2.2.2.2.2.1))).trans (hHeld.2.2.2.2.2.2.1)
             have HS7_ := (hb.cell (World.block_lt_of_cell? _ _ (hHeld.2.2.2.2.2.2.2.1))).trans (hHeld.2.2.2.2.2.2.2.1)
             have HS8_ := (hb.cell (World.block_lt_of_cell? _ _ (hHeld.2.2.2.2.2.2.2.2.1))).trans (hHeld.2.2.2.2.2.2.2.2.1)
             have HS9_ := (hb.cell (World.block_lt_of_cell? _ _ (hHeld.2.2.2.2.2.2.2.2.2.1))).trans (hHeld.2.2.2.2.2.2.2.2.2.1)
             have HS10_ := (hb.cell (World.block_lt_of_cell? _ _ (hHeld.2.2.2.2.2.2.2.2.2.2.1))).trans (hHeld.2.2.2.2.2.2.2.2.2.2.1)
             have HS11_ := (hb.cell (World.block_lt_of_cell? _ _ (hHeld.2.2.2.2.2.2.2.2.2.2.2.1))).trans (hHeld.2.2.2.2.2.2.2.2.2.2.2.1)
             have HS12_ := (hb.cell (World.block_lt_of_cell? _ _ (hHeld.2.2.2.2.2.2.2.2.2.2.2.2.1))).trans (hHeld.2.2.2.2.2.2.2.2.2.2.2.2.1)
             have HS13_ := (hb.cell (World.block_lt_of_cell? _ _ (hHeld.2.2.2.2.2.2.2.2.2.2.2.2.2.1))).trans (hHeld.2.2.2.2.2.2.2.2.2.2.2.2.2.1)
             have HS14_ := (hb.cell (World.block_lt_of_cell? _ _ (hHeld.2.2.2.2.2.2.2.2.2.2.2.2.2.2.1))).trans (hHeld.2.2.2.2.2.2.2.2.2.2.2.2.2.2.1)
             have HS15_ := (hb.cell (World.block_lt_of_cell? _ _ (hHeld.2.2.2.2.2.2.2.2.2.2.2.2.2.2.2.1))).trans (hHeld.2.2.2.2.2.2.2.2.2.2.2.2.2.2.2.1)
             have HS16_ := (hb.cell (World.block_lt_of_cell? _ _ (hHeld.2.2.2.2.2.2.2.2.2.2.2.2.2.2.2.2.1))).trans (hHeld.2.2.2.2.2.2.2.2.2.2.2.2.2.2.2.2.1)
             have HS17_ := (hb.cell (World.block_lt_of_cell? _ _ (hHeld.2.2.2.2.2.2.2.2.2.2.2.2.2.2.2.2.2.1))).trans (hHeld.2.2.2.2.2.2.2.2.2.2.2.2.2.2.2.2.2.1)
             have HS18_ := (hb.cell (World.block_lt_of_cell? _ _ (hHeld.2.2.2.2.2.2.2.2.2.2.2.2.2.2.2.2.2.2.1))).trans (hHeld.2.2.2.2.2.2.2.2.2.2.2.2.2.2.2.2.2.2.1)
             have HS19_ := (hb.cell (World.block_lt_of_cell? _ _ (hHeld.2.2.2.2.2.2.2.2.2.2.2.2.2.2.2.2.2.2.2.1))).trans (hHeld.2.2.2.2.2.2.2.2.2.2.2.2.2.2.2.2.2.2.2.1)
             have HS20_ := (hb.cell (World.block_lt_of_cell? _ _ (hHeld.2.2.2.2.2.2.2.2.2.2.2.2.2.2.2.2.2.2.2.2.1))).trans (hHeld.2.2.2.2.2.2.2.2.2.2.2.2.2.2.2.2.2.2.2.2.1)
             have HS21_ := (hb.cell (World.block_lt_of_cell? _ _ (hHeld.2.2.2.2.2.2.2.2.2.2.2.2.2.2.2.2.2.2.2.2.2.1))).trans (hHeld.2.2.2.2.2.2.2.2.2.2.2.2.2.2.2.2.2.2.2.2.2.1)
             have HS22_ := (hb.cell (World.block_lt_of_cell? _ _ (hHeld.2.2.2.2.2.2.2.2.2.2.2.2.2.2.2.2.2.2.2.2.2.2.1))).trans (hHeld.2.2.2.2.2.2.2.2.2.2.2.2.2.2.2.2.2.2.2.2.2.2.1)
             have HS23_ := (hb.cell (World.block_lt_of_cell? _ _ (hHeld.2.2.2.2.2.2.2.2.2.2.2.2.2.2.2.2.2.2.2.2.2.2.2.1))).trans (hHeld.2.2.2.2.2.2.2.2.2.2.2.2.2.2.2.2.2.2.2.2.2.2.2.1)
             have HS24_ := (hb.cell (World.block_lt_of_cell? _ _ (hHeld.2.2.2.2.2.2.2.2.2.2.2.2.2.2.2.2.2.2.2.2.2.2.2.2.1))).trans (hHeld.2.2.2.2.2.2.2.2.2.2.2.2.2.2.2.2.2.2.2.2.2.2.2.2.1)
             have HS25_ := (hb.cell (World.block_lt_of_cell? _ _ (hHeld.2.2.2.2.2.2.2.2.2.2.2.2.2.2.2.2.2.2.2.2.2.2.2.2.2.1))).trans (hHeld.2.2.2.2.2.2.2.2.2.2.2.2.2.2.2.2.2.2.2.2.2.2.2.2.2.1)
             have HS26_ := (hb.cell (World.block_lt_of_cell? _ _ (hHeld.2.2.2.2.2.2.2.2.2.2.2.2.2.2.2.2.2.2.2.2.2.2.2.2.2.2.1))).trans (hHeld.2.2.2.2.2.2.2.2.2.2.2.2.2.2.2.2.2.2.2.2.2.2.2.2.2.2.1)
             have HS27_ := (hb.cell (World.block_lt_of_cell? _ _ (hHeld.2.2.2.2.2.2.2.2.2.2.2.2.2.2.2.2.2.2.2.2.2.2.2.2.2.2.2.1))).trans (hHeld.2.2.2.2.2.2.2.2.2.2.2.2.2.2.2.2.2.2.2.2.2.2.2.2.2.2.2.1)
             have HS28_ := (hb.cell (World.block_lt_of_cell? _ _ (hHeld.2.2.2.2.2.2.2.2.2.2.2.2.2.2.2.2.2.2.2.2.2.2.2.2.2.2.2.2.1))).trans (hHeld.2.2.2.2.2.2.2.2.2.2.2.2.2.2.2.2.2.2.2.2.2.2.2.2.2.2.2.2.1)
             have HS29_ := (hb.cell (World.block_lt_of_cell? _ _ (hHeld.2.2.2.2.2.2.2.2.2.2.2.2.2.2.2.2.2.2.2.2.2.2.2.2.2.2.2.2.2.1))).trans (hHeld.2.2.2.2.2.2.2.2.2.2.2.2.2.2.2.2.2.2.2.2.2.2.2.2.2.2.2.2.2.1)
             have HS30_ := (hb.cell (World.block_lt_of_cell? _ _ (hHeld.2.2.2.2.2.2.2.2.2.2.2.2.2.2.2.2.2.2.2.2.2.2.2.2.2.2.2.2.2.2.1))).trans (hHeld.2.2.2.2.2.2.2.2.2.2.2.2.2.2.2.2.2.2.2.2.2.2.2.2.2.2.2.2.2.2.1)
             have HS31_ := (hb.cell (World.block_lt_of_cell? _ _ (hHeld.2.2.2.2.2.2.2.2.2.2.2.2.2.2.2.2.2.2.2.2.2.2.2.2.2.2.2.2.2.2.2.1))).trans (hHeld.2.2.2.2.2.2.2.2.2.2.2.2.2.2.2.2.2.2.2.2.2.2.2.2.2.2.2.2.2.2.2.1)
             have HS32_ := (hb.cell (World.block_lt_of_cell? _ _ (hHeld.2.2.2.2.2.2.2.2.2.2.2.2.2.2.2.2.2.2.2.2.2.2.2.2.2.2.2.2.2.2.2.2.1))).trans (hHeld.2.2.2.2.2.2.2.2.2.2.2.2.2.2.2.2.2.2.2.2.2.2.2.2.2.2.2.2.2.2.2.2.1)
             have HS33_ := (hb.cell (World.block_lt_of_cell? _ _ (hHeld.2.2.2.2.2.2.2.2.2.2.2.2.2.2.2.2.2.2.2.2.2.2.2.2.2.2.2.2.2.2.2.2.2.1))).trans (hHeld.2.2.2.2.2.2.2.2.2.2.2.2.2.2.2.2.2.2.2.2.2.2.2.2.2.2.2.2.2.2.2.2.2.1)
             have HS34_ := (hb.cell (World.block_lt_of_cell? _ _ (hHeld.2.2.2.2.2.2.2.2.2.2.2.2.2.2.2.2.2.2.2.2.2.2.2.2.2.2.2.2.2.2.2.2.2.2.1))).trans (hHeld.2.2.2.2.2.2.2.2.2.2.2.2.2.2.2.2.2.2.2.2.2.2.2.2.2.2.2.2.2.2.2.2.2.2.1)
             have HS35_ := (hb.cell (World.block_lt_of_cell? _ _ (hHeld.2.2.2.2.2.2.2.2.2.2.2.2.2.2.2.2.2.2.2.2.2.2.2.2.2.2.2.2.2.2.2.2.2.2.2))).trans (hHeld.2.2.2.2.2.2.2.2.2.2.2.2.2.2.2.2.2.2.2.2.2.2.2.2.2.2.2.2.2.2.2.2.2.2.2)
             refine ⟨_, rfl, ?_⟩
             replace HO188 := Goto.nbN HO188 hb; replace HO191 := Goto.nbN HO191 hb; replace HL207_2 := Goto.nbV HL207_2 hb; replace HL207_3 := Goto.nbV HL207_3 hb; replace HO206 := Goto.nbN HO206 hb; replace HO210 := Goto.m0 (Kd.R_below (Goto.rk HO210) hb); replace HO213 := Goto.m0 (Kd.R_below (Goto.rk HO213) hb); replace HO217 := Goto.nbN HO217 hb; replace BK192 := Goto.bb BK192 hb; replace HB := Goto.hs HB hb
             (try clear hb)
             (try clear hb2)
             (try clear hk)
             (try clear hi)
             refine hK.out _ _ ⟨(blk_cell BK192.out 0).trans rfl, (blk_cell BK192.out 1).trans rfl, (blk_cell BK192.out 2).trans rfl, (blk_cell BK192.out 3).trans rfl, HS4_, HS5_, HS6_, HS7_, HS8_, HS9_, HS10_, HS11_, HS12_, HS13_, HS14_, HS15_, HS16_, HS17_, HS18_, HS19_, HS20_, HS21_, HS22_, HS23_, HS24_, HS25_, HS26_, HS27_, HS28_, HS29_, HS30_, HS31_, HS32_, HS33_, HS34_, HS35_⟩ (fun hHeld => ?_)
             clear hK K
             refine norm_ (a' := ?_) ?_ ?_
             rotate_left
             ·
              show Act.put _ (some 60) _ = _
              exact Goto.ap
             refine Goto.pu 54 61 57 36028797018963967 ?_
             refine Goto.pu 55 62 57 72057594037927935 ?_
             refine Goto.pu 56 0 57 144115188075855871 ?_
             refine done_ (done_of HT_.out (by kernel_rfl)) ?_
             try go_wp2
             go_ret
             exact ⟨Goto.er, by repeat (first | (with_reducible first | exact HB.out | apply below_alloc | apply pw_below_drewN | apply below_drew1 | refine below_set ?_ GE192.out) | exact HB.out)⟩
            ·
             rw [if_neg c21] at H
             exact absurd H (by simp)
           ·
            replace c20 := Bool.eq_false_iff.mpr c20
            subst c20
            rw [if_neg (show ¬ (false = true) by decide)] at H
            exact absurd ((Option.some.inj H).trans HRT.out) (by decide)
          ·
           rw [if_neg c17] at H
           exact absurd H (by simp)
         ·
          rw [if_neg c16] at H
          exact absurd H (by simp)
       ·
        replace c13 := Bool.eq_false_iff.mpr c13
        subst c13
        rw [if_neg (show ¬ (false = true) by decide)] at H
        exact absurd ((Option.some.inj H).trans HRT.out) (by decide)
      ·
       rw [if_neg c11] at H
       have c11b0 : (t201.toList == ([51, 32, 114, 117, 110, 32, 49, 10, 51, 32, 114, 101, 112, 108, 121, 32, 49, 32, 49, 51, 32, 45, 49, 32, 48, 10] : List UInt8)) = false := beq_eq_false_iff_ne.mpr c11
       have c11b1 : (t201.toList != ([51, 32, 114, 117, 110, 32, 49, 10, 51, 32, 114, 101, 112, 108, 121, 32, 49, 32, 49, 51, 32, 45, 49, 32, 48, 10] : List UInt8)) = true := bne_iff_ne.mpr c11
       exact absurd ((Option.some.inj H).trans HRT.out) (by decide)
     ·
      rw [if_neg c9] at H
      have c9b0 : (t200.toList == ([] : List UInt8)) = false := beq_eq_false_iff_ne.mpr c9
      have c9b1 : (t200.toList != ([] : List UInt8)) = true := bne_iff_ne.mpr c9
      exact absurd ((Option.some.inj H).trans HRT.out) (by decide)
    ·
     rw [if_neg c7] at H
     have c7b0 : (t199.toList == ([51, 32, 114, 101, 112, 108, 121, 32, 49, 32, 49, 51, 32, 45, 49, 32, 48] : List UInt8)) = false := beq_eq_false_iff_ne.mpr c7
     have c7b1 : (t199.toList != ([51, 32, 114, 101, 112, 108, 121, 32, 49, 32, 49, 51, 32, 45, 49, 32, 48] : List UInt8)) = true := bne_iff_ne.mpr c7
     exact absurd ((Option.some.inj H).trans HRT.out) (by decide)
   ·
    rw [if_neg c5] at H
    exact absurd H (by simp)
  ·
   rw [if_neg c4] at H
   have c4b0 : (t197.toList == ([51, 32, 114, 117, 110, 32, 49] : List UInt8)) = false := beq_eq_false_iff_ne.mpr c4
   have c4b1 : (t197.toList != ([51, 32, 114, 117, 110, 32, 49] : List UInt8)) = true := bne_iff_ne.mpr c4
   exact absurd ((Option.some.inj H).trans HRT.out) (by decide)
 ·
  rw [if_neg c2] at H
  exact absurd H (by simp)

end Go.Proofs.YtlmllmbbdlkknaaDoor.P
