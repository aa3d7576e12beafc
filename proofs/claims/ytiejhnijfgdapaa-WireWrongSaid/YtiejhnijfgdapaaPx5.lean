/- Printed by a program of this workplace (a turned copy of the kit's optional print), out of the translation; not trusted: Lean checks it. -/
import Derived.Test.YtiejhnijfgdapaaPx0
import Derived.Test.YtiejhnijfgdapaaPx1
import Derived.Test.YtiejhnijfgdapaaPx3
import Derived.Test.YtiejhnijfgdapaaPx4
import Derived.Test.YtiejhnijfgdapaaErrIs
namespace Go.Proofs.Ytiejhnijfgdapaa.P
open Go.RowKit Go.Proofs.YtiejhnijfgdapaaW.PrintWords Go.Proofs.YtiejhnijfgdapaaW.PrintLast Go.Proofs.YtiejhnijfgdapaaW.PrintMore
attribute [local go_sem] max2_int min2_int max_two min_two max_three min_three max_four min_four   -- for this text's walks alone
set_option linter.unusedVariables false
set_option linter.unusedSimpArgs false

/-! ### tontinelaw2_known: function 9 -/
def tontinelaw2_known.f (k : Nat)  : Option (Bool) := (wire_New.f).bind fun t121 => ((wire_Writer_Num.f k t121 (-1)).bind fun t124 => ((wire_Writer_Num.f k t124 300).bind fun t127 => ((wire_Writer_Bits.f k t127 258).bind fun t130 => ((wire_Writer_String.f t130).bind fun bt133 => ((wire_Of.f bt133.1).bind fun bt136 => ((wire_Reader_Num.f k bt136.1 bt136.2 9).bind fun bt138 => ((wire_Reader_Num.f k bt138.2.1 bt138.2.2 300).bind fun bt141 => ((wire_Reader_Bits.f k bt141.2.1 bt141.2.2).bind fun bt144 => ((wire_Of.f (⟨#[128, 0]⟩ : ByteArray)).bind fun bt148 => ((wire_Reader_Num.f k bt148.1 bt148.2 9).bind fun bt150 => ((wire_Writer_String.f bt133.2).bind fun bt153 => (if bt153.1.toList = ([0, 173, 2, 2, 1, 0, 0, 0, 0, 0, 0] : List UInt8) then (if bt138.1 = (-1) then (if bt141.1 = 300 then (if bt144.1 = 258 then ((wire_Reader_Left.f bt144.2.1 bt144.2.2).bind fun bt155 => (if bt155.1 = 0 then ((wire_Reader_Err.f bt155.2.1 bt155.2.2).bind fun bt158 => (if bt158.1.isNone = true then (if bt150.1 = 0 then ((wire_Reader_Err.f bt150.2.1 bt150.2.2).bind fun bt162 => ((errors_Is.f bt162.1 (some 10)).bind fun t165 => (if t165 = true then ((wire_Reader_Left.f bt162.2.1 bt162.2.2).bind fun bt166 => (some (bt166.1 == 2))) else (some false)))) else (some false)) else (some false))) else (some false))) else (some false)) else (some false)) else (some false)) else (some false)))))))))))))
theorem tontinelaw2_known.mono : ∀ k, LeO (tontinelaw2_known.f k ) (tontinelaw2_known.f (k + 1) ) := by
 intro  k
 unfold tontinelaw2_known.f
 repeat' first
   | (with_reducible exact wire_Reader_Bits.mono _ _ _)
   | (with_reducible exact wire_Reader_Num.mono _ _ _ _)
   | (with_reducible exact wire_Writer_Bits.mono _ _ _)
   | (with_reducible exact wire_Writer_Num.mono _ _ _)
   | (with_reducible exact LeO.refl _)
   | (with_reducible exact LeO.none _)
   | (with_reducible refine LeO.ite ?_ ?_)
   | (with_reducible refine LeO.bind ?_ (fun _ => ?_))
   | exact wire_Reader_Bits.mono _ _ _
   | exact wire_Reader_Num.mono _ _ _ _
   | exact wire_Writer_Bits.mono _ _ _
   | exact wire_Writer_Num.mono _ _ _
   | exact LeO.none _
   | refine LeO.ite ?_ ?_
   | refine LeO.bind ?_ (fun _ => ?_)
set_option maxHeartbeats 8000000 in
set_option maxRecDepth 100000 in
theorem tontinelaw2_known.calls (k : Nat)  (r : Bool) (hrt : r = true) (w : World) (h : tontinelaw2_known.f k  = some r) :
    Calls Try.prog 9 #[] w fun e w' => e = .returned (.bool r) ∧ Below w.heap.size w w' := by
 have hu37 := Try.underlying37; have hu42 := Try.underlying42
 have HB := Goto.m0 (Below.refl w.heap.size w)
 have HRT := Goto.m0 hrt
 clear hrt
 have H : ((wire_New.f).bind fun t121 => ((wire_Writer_Num.f k t121 (-1)).bind fun t124 => ((wire_Writer_Num.f k t124 300).bind fun t127 => ((wire_Writer_Bits.f k t127 258).bind fun t130 => ((wire_Writer_String.f t130).bind fun bt133 => ((wire_Of.f bt133.1).bind fun bt136 => ((wire_Reader_Num.f k bt136.1 bt136.2 9).bind fun bt138 => ((wire_Reader_Num.f k bt138.2.1 bt138.2.2 300).bind fun bt141 => ((wire_Reader_Bits.f k bt141.2.1 bt141.2.2).bind fun bt144 => ((wire_Of.f (⟨#[128, 0]⟩ : ByteArray)).bind fun bt148 => ((wire_Reader_Num.f k bt148.1 bt148.2 9).bind fun bt150 => ((wire_Writer_String.f bt133.2).bind fun bt153 => (if bt153.1.toList = ([0, 173, 2, 2, 1, 0, 0, 0, 0, 0, 0] : List UInt8) then (if bt138.1 = (-1) then (if bt141.1 = 300 then (if bt144.1 = 258 then ((wire_Reader_Left.f bt144.2.1 bt144.2.2).bind fun bt155 => (if bt155.1 = 0 then ((wire_Reader_Err.f bt155.2.1 bt155.2.2).bind fun bt158 => (if bt158.1.isNone = true then (if bt150.1 = 0 then ((wire_Reader_Err.f bt150.2.1 bt150.2.2).bind fun bt162 => ((errors_Is.f bt162.1 (some 10)).bind fun t165 => (if t165 = true then ((wire_Reader_Left.f bt162.2.1 bt162.2.2).bind fun bt166 => (some (bt166.1 == 2))) else (some false)))) else (some false)) else (some false))) else (some false))) else (some false)) else (some false)) else (some false)) else (some false)))))))))))))) = some r := h
 clear h
 replace H := Option.bind_eq_some_iff.mp H
 obtain ⟨t121, A10, H⟩ := H
 have A1 := Goto.m0 A10
 clear A10
 replace H := Option.bind_eq_some_iff.mp H
 obtain ⟨t124, A20, H⟩ := H
 have A2 := Goto.m0 A20
 clear A20
 replace H := Option.bind_eq_some_iff.mp H
 obtain ⟨t127, A30, H⟩ := H
 have A3 := Goto.m0 A30
 clear A30
 replace H := Option.bind_eq_some_iff.mp H
 obtain ⟨t130, A40, H⟩ := H
 have A4 := Goto.m0 A40
 clear A40
 replace H := Option.bind_eq_some_iff.mp H
 obtain ⟨⟨t133, t134⟩, A50, H⟩ := H
 replace H : ((wire_Of.f t133).bind fun bt136 => ((wire_Reader_Num.f k bt136.1 bt136.2 9).bind fun bt138 => ((wire_Reader_Num.f k bt138.2.1 bt138.2.2 300).bind fun bt141 => ((wire_Reader_Bits.f k bt141.2.1 bt141.2.2).bind fun bt144 => ((wire_Of.f (⟨#[128, 0]⟩ : ByteArray)).bind fun bt148 => ((wire_Reader_Num.f k bt148.1 bt148.2 9).bind fun bt150 => ((wire_Writer_String.f t134).bind fun bt153 => (if bt153.1.toList = ([0, 173, 2, 2, 1, 0, 0, 0, 0, 0, 0] : List UInt8) then (if bt138.1 = (-1) then (if bt141.1 = 300 then (if bt144.1 = 258 then ((wire_Reader_Left.f bt144.2.1 bt144.2.2).bind fun bt155 => (if bt155.1 = 0 then ((wire_Reader_Err.f bt155.2.1 bt155.2.2).bind fun bt158 => (if bt158.1.isNone = true then (if bt150.1 = 0 then ((wire_Reader_Err.f bt150.2.1 bt150.2.2).bind fun bt162 => ((errors_Is.f bt162.1 (some 10)).bind fun t165 => (if t165 = true then ((wire_Reader_Left.f bt162.2.1 bt162.2.2).bind fun bt166 => (some (bt166.1 == 2))) else (some false)))) else (some false)) else (some false))) else (some false))) else (some false)) else (some false)) else (some false)) else (some false))))))))) = some r := H
 have A5 := Goto.m0 A50
 clear A50
 replace H := Option.bind_eq_some_iff.mp H
 obtain ⟨⟨t136, t137⟩, A60, H⟩ := H
 replace H : ((wire_Reader_Num.f k t136 t137 9).bind fun bt138 => ((wire_Reader_Num.f k bt138.2.1 bt138.2.2 300).bind fun bt141 => ((wire_Reader_Bits.f k bt141.2.1 bt141.2.2).bind fun bt144 => ((wire_Of.f (⟨#[128, 0]⟩ : ByteArray)).bind fun bt148 => ((wire_Reader_Num.f k bt148.1 bt148.2 9).bind fun bt150 => ((wire_Writer_String.f t134).bind fun bt153 => (if bt153.1.toList = ([0, 173, 2, 2, 1, 0, 0, 0, 0, 0, 0] : List UInt8) then (if bt138.1 = (-1) then (if bt141.1 = 300 then (if bt144.1 = 258 then ((wire_Reader_Left.f bt144.2.1 bt144.2.2).bind fun bt155 => (if bt155.1 = 0 then ((wire_Reader_Err.f bt155.2.1 bt155.2.2).bind fun bt158 => (if bt158.1.isNone = true then (if bt150.1 = 0 then ((wire_Reader_Err.f bt150.2.1 bt150.2.2).bind fun bt162 => ((errors_Is.f bt162.1 (some 10)).bind fun t165 => (if t165 = true then ((wire_Reader_Left.f bt162.2.1 bt162.2.2).bind fun bt166 => (some (bt166.1 == 2))) else (some false)))) else (some false)) else (some false))) else (some false))) else (some false)) else (some false)) else (some false)) else (some false)))))))) = some r := H
 have A6 := Goto.m0 A60
 clear A60
 replace H := Option.bind_eq_some_iff.mp H
 obtain ⟨⟨t138, t139, t140⟩, A70, H⟩ := H
 replace H : ((wire_Reader_Num.f k t139 t140 300).bind fun bt141 => ((wire_Reader_Bits.f k bt141.2.1 bt141.2.2).bind fun bt144 => ((wire_Of.f (⟨#[128, 0]⟩ : ByteArray)).bind fun bt148 => ((wire_Reader_Num.f k bt148.1 bt148.2 9).bind fun bt150 => ((wire_Writer_String.f t134).bind fun bt153 => (if bt153.1.toList = ([0, 173, 2, 2, 1, 0, 0, 0, 0, 0, 0] : List UInt8) then (if t138 = (-1) then (if bt141.1 = 300 then (if bt144.1 = 258 then ((wire_Reader_Left.f bt144.2.1 bt144.2.2).bind fun bt155 => (if bt155.1 = 0 then ((wire_Reader_Err.f bt155.2.1 bt155.2.2).bind fun bt158 => (if bt158.1.isNone = true then (if bt150.1 = 0 then ((wire_Reader_Err.f bt150.2.1 bt150.2.2).bind fun bt162 => ((errors_Is.f bt162.1 (some 10)).bind fun t165 => (if t165 = true then ((wire_Reader_Left.f bt162.2.1 bt162.2.2).bind fun bt166 => (some (bt166.1 == 2))) else (some false)))) else (some false)) else (some false))) else (some false))) else (some false)) else (some false)) else (some false)) else (some false))))))) = some r := H
 have A7 := Goto.m0 A70
 clear A70
 replace H := Option.bind_eq_some_iff.mp H
 obtain ⟨⟨t141, t142, t143⟩, A80, H⟩ := H
 replace H : ((wire_Reader_Bits.f k t142 t143).bind fun bt144 => ((wire_Of.f (⟨#[128, 0]⟩ : ByteArray)).bind fun bt148 => ((wire_Reader_Num.f k bt148.1 bt148.2 9).bind fun bt150 => ((wire_Writer_String.f t134).bind fun bt153 => (if bt153.1.toList = ([0, 173, 2, 2, 1, 0, 0, 0, 0, 0, 0] : List UInt8) then (if t138 = (-1) then (if t141 = 300 then (if bt144.1 = 258 then ((wire_Reader_Left.f bt144.2.1 bt144.2.2).bind fun bt155 => (if bt155.1 = 0 then ((wire_Reader_Err.f bt155.2.1 bt155.2.2).bind fun bt158 => (if bt158.1.isNone = true then (if bt150.1 = 0 then ((wire_Reader_Err.f bt150.2.1 bt150.2.2).bind fun bt162 => ((errors_Is.f bt162.1 (some 10)).bind fun t165 => (if t165 = true then ((wire_Reader_Left.f bt162.2.1 bt162.2.2).bind fun bt166 => (some (bt166.1 == 2))) else (some false)))) else (some false)) else (some false))) else (some false))) else (some false)) else (some false)) else (some false)) else (some false)))))) = some r := H
 have A8 := Goto.m0 A80
 clear A80
 replace H := Option.bind_eq_some_iff.mp H
 obtain ⟨⟨t144, t145, t146⟩, A90, H⟩ := H
 replace H : ((wire_Of.f (⟨#[128, 0]⟩ : ByteArray)).bind fun bt148 => ((wire_Reader_Num.f k bt148.1 bt148.2 9).bind fun bt150 => ((wire_Writer_String.f t134).bind fun bt153 => (if bt153.1.toList = ([0, 173, 2, 2, 1, 0, 0, 0, 0, 0, 0] : List UInt8) then (if t138 = (-1) then (if t141 = 300 then (if t144 = 258 then ((wire_Reader_Left.f t145 t146).bind fun bt155 => (if bt155.1 = 0 then ((wire_Reader_Err.f bt155.2.1 bt155.2.2).bind fun bt158 => (if bt158.1.isNone = true then (if bt150.1 = 0 then ((wire_Reader_Err.f bt150.2.1 bt150.2.2).bind fun bt162 => ((errors_Is.f bt162.1 (some 10)).bind fun t165 => (if t165 = true then ((wire_Reader_Left.f bt162.2.1 bt162.2.2).bind fun bt166 => (some (bt166.1 == 2))) else (some false)))) else (some false)) else (some false))) else (some false))) else (some false)) else (some false)) else (some false)) else (some false))))) = some r := H
 have A9 := Goto.m0 A90
 clear A90
 replace H := Option.bind_eq_some_iff.mp H
 obtain ⟨⟨t148, t149⟩, A100, H⟩ := H
 replace H : ((wire_Reader_Num.f k t148 t149 9).bind fun bt150 => ((wire_Writer_String.f t134).bind fun bt153 => (if bt153.1.toList = ([0, 173, 2, 2, 1, 0, 0, 0, 0, 0, 0] : List UInt8) then (if t138 = (-1) then (if t141 = 300 then (if t144 = 258 then ((wire_Reader_Left.f t145 t146).bind fun bt155 => (if bt155.1 = 0 then ((wire_Reader_Err.f bt155.2.1 bt155.2.2).bind fun bt158 => (if bt158.1.isNone = true then (if bt150.1 = 0 then ((wire_Reader_Err.f bt150.2.1 bt150.2.2).bind fun bt162 => ((errors_Is.f bt162.1 (some 10)).bind fun t165 => (if t165 = true then ((wire_Reader_Left.f bt162.2.1 bt162.2.2).bind fun bt166 => (some (bt166.1 == 2))) else (some false)))) else (some false)) else (some false))) else (some false))) else (some false)) else (some false)) else (some false)) else (some false)))) = some r := H
 have A10 := Goto.m0 A100
 clear A100
 replace H := Option.bind_eq_some_iff.mp H
 obtain ⟨⟨t150, t151, t152⟩, A110, H⟩ := H
 replace H : ((wire_Writer_String.f t134).bind fun bt153 => (if bt153.1.toList = ([0, 173, 2, 2, 1, 0, 0, 0, 0, 0, 0] : List UInt8) then (if t138 = (-1) then (if t141 = 300 then (if t144 = 258 then ((wire_Reader_Left.f t145 t146).bind fun bt155 => (if bt155.1 = 0 then ((wire_Reader_Err.f bt155.2.1 bt155.2.2).bind fun bt158 => (if bt158.1.isNone = true then (if t150 = 0 then ((wire_Reader_Err.f t151 t152).bind fun bt162 => ((errors_Is.f bt162.1 (some 10)).bind fun t165 => (if t165 = true then ((wire_Reader_Left.f bt162.2.1 bt162.2.2).bind fun bt166 => (some (bt166.1 == 2))) else (some false)))) else (some false)) else (some false))) else (some false))) else (some false)) else (some false)) else (some false)) else (some false))) = some r := H
 have A11 := Goto.m0 A110
 clear A110
 replace H := Option.bind_eq_some_iff.mp H
 obtain ⟨⟨t153, t154⟩, A120, H⟩ := H
 replace H : (if t153.toList = ([0, 173, 2, 2, 1, 0, 0, 0, 0, 0, 0] : List UInt8) then (if t138 = (-1) then (if t141 = 300 then (if t144 = 258 then ((wire_Reader_Left.f t145 t146).bind fun bt155 => (if bt155.1 = 0 then ((wire_Reader_Err.f bt155.2.1 bt155.2.2).bind fun bt158 => (if bt158.1.isNone = true then (if t150 = 0 then ((wire_Reader_Err.f t151 t152).bind fun bt162 => ((errors_Is.f bt162.1 (some 10)).bind fun t165 => (if t165 = true then ((wire_Reader_Left.f bt162.2.1 bt162.2.2).bind fun bt166 => (some (bt166.1 == 2))) else (some false)))) else (some false)) else (some false))) else (some false))) else (some false)) else (some false)) else (some false)) else (some false)) = some r := H
 have A12 := Goto.m0 A120
 clear A120
 by_cases c13 : t153.toList = ([0, 173, 2, 2, 1, 0, 0, 0, 0, 0, 0] : List UInt8)
 ·
  rw [if_pos c13] at H
  have c13b0 : (t153.toList == ([0, 173, 2, 2, 1, 0, 0, 0, 0, 0, 0] : List UInt8)) = true := beq_iff_eq.mpr c13
  have c13b1 : (t153.toList != ([0, 173, 2, 2, 1, 0, 0, 0, 0, 0, 0] : List UInt8)) = false := bne_eq_false_iff_eq.mpr c13
  clear c13
  by_cases c14 : t138 = (-1)
  ·
   rw [if_pos c14] at H
   have c14b0 : (t138 == (-1)) = true := beq_iff_eq.mpr c14
   have c14b1 : (t138 != (-1)) = false := bne_eq_false_iff_eq.mpr c14
   clear c14
   by_cases c15 : t141 = 300
   ·
    rw [if_pos c15] at H
    have c15b0 : (t141 == 300) = true := beq_iff_eq.mpr c15
    have c15b1 : (t141 != 300) = false := bne_eq_false_iff_eq.mpr c15
    clear c15
    by_cases c16 : t144 = 258
    ·
     rw [if_pos c16] at H
     have c16b0 : (t144 == 258) = true := beq_iff_eq.mpr c16
     have c16b1 : (t144 != 258) = false := bne_eq_false_iff_eq.mpr c16
     clear c16
     replace H := Option.bind_eq_some_iff.mp H
     obtain ⟨⟨t155, t156, t157⟩, A170, H⟩ := H
     replace H : (if t155 = 0 then ((wire_Reader_Err.f t156 t157).bind fun bt158 => (if bt158.1.isNone = true then (if t150 = 0 then ((wire_Reader_Err.f t151 t152).bind fun bt162 => ((errors_Is.f bt162.1 (some 10)).bind fun t165 => (if t165 = true then ((wire_Reader_Left.f bt162.2.1 bt162.2.2).bind fun bt166 => (some (bt166.1 == 2))) else (some false)))) else (some false)) else (some false))) else (some false)) = some r := H
     have A17 := Goto.m0 A170
     clear A170
     by_cases c18 : t155 = 0
     ·
      rw [if_pos c18] at H
      have c18b0 : (t155 == 0) = true := beq_iff_eq.mpr c18
      have c18b1 : (t155 != 0) = false := bne_eq_false_iff_eq.mpr c18
      clear c18
      replace H := Option.bind_eq_some_iff.mp H
      obtain ⟨⟨t158, t159, t160⟩, A190, H⟩ := H
      replace H : (if t158.isNone = true then (if t150 = 0 then ((wire_Reader_Err.f t151 t152).bind fun bt162 => ((errors_Is.f bt162.1 (some 10)).bind fun t165 => (if t165 = true then ((wire_Reader_Left.f bt162.2.1 bt162.2.2).bind fun bt166 => (some (bt166.1 == 2))) else (some false)))) else (some false)) else (some false)) = some r := H
      have A19 := Goto.m0 A190
      clear A190
      rcases t158 with _ | q161
      ·
       have H1 : (if t150 = 0 then ((wire_Reader_Err.f t151 t152).bind fun bt162 => ((errors_Is.f bt162.1 (some 10)).bind fun t165 => (if t165 = true then ((wire_Reader_Left.f bt162.2.1 bt162.2.2).bind fun bt166 => (some (bt166.1 == 2))) else (some false)))) else (some false)) = some r := by rw [if_pos (show (none : Option Int).isNone = true by rfl)] at H; exact H
       clear H; have H := H1; clear H1
       try simp only [errW_none, errW_some]
       by_cases c20 : t150 = 0
       ·
        rw [if_pos c20] at H
        have c20b0 : (t150 == 0) = true := beq_iff_eq.mpr c20
        have c20b1 : (t150 != 0) = false := bne_eq_false_iff_eq.mpr c20
        clear c20
        replace H := Option.bind_eq_some_iff.mp H
        obtain ⟨⟨t162, t163, t164⟩, A210, H⟩ := H
        replace H : ((errors_Is.f t162 (some 10)).bind fun t165 => (if t165 = true then ((wire_Reader_Left.f t163 t164).bind fun bt166 => (some (bt166.1 == 2))) else (some false))) = some r := H
        have A21 := Goto.m0 A210
        clear A210
        replace H := Option.bind_eq_some_iff.mp H
        obtain ⟨t165, A220, H⟩ := H
        have A22 := Goto.m0 A220
        clear A220
        by_cases c23 : t165 = true
        ·
         subst c23
         rw [if_pos rfl] at H
         replace H := Option.bind_eq_some_iff.mp H
         obtain ⟨⟨t166, t167, t168⟩, A240, H⟩ := H
         replace H : (some (t166 == 2)) = some r := H
         have A24 := Goto.m0 A240
         clear A240
         obtain rfl := Option.some.inj H
         go_enter Try.func9, Try.ntmps9
         go_wp2_with (first | ((with_reducible refine gate_callee (f := 10) rfl ?_); refine goesL_ (some 8) rfl rfl Try.func10 (by kernel_rfl) rfl #[] rfl (by (try simp only [List.map_toArray, List.map_cons, List.map_nil]); first | done | rfl | (simp only [List.length_drop, List.length_take]; rfl)) ?_; (with_reducible refine (wire_New.calls  t121 _ A1.out).mono ?_); rintro e w25 ⟨v122, gb120, rfl, ho0, hi, hge, hb⟩; refine ⟨_, rfl, ?_⟩; have HO123 := Goto.m0 (Kd.R_lower ho0 (below_size (Goto.hx HB))); have BK120 := Goto.m0 (hi); have GW120 := Goto.m0 ((Nat.le_trans (below_size (Goto.hx HB)) hge : w.heap.size ≤ gb120)); have GE120 := Goto.m0 ((Nat.le_trans (below_size (Goto.hx HB)) hge : w.heap.size ≤ gb120)); replace HB := Goto.hs HB hb; (try clear hb); (try clear hi); (try clear hge); (try clear ho0)) | ((with_reducible refine gate_callee (f := 11) rfl ?_); refine goesL_ (some 12) rfl rfl Try.func11 (by kernel_rfl) rfl #[.pointer (some ⟨gb120, 0, none⟩), .int .i64 (-1)] rfl (by (try simp only [List.map_toArray, List.map_cons, List.map_nil]); first | done | rfl | (simp only [List.length_drop, List.length_take]; rfl)) ?_; (with_reducible refine (wire_Writer_Num.calls k gb120 (fun k_ => some k_ = (v122 : Value).ownBlock) v122 t121 (-1) t124 w _ ?side1 ?side2 ?side3 ?side4 A2.out).mono ?_); (case side1 => exact by (with_reducible repeat first | refine blk_drewN ?_ _ | refine blk_drew ?_ | refine blk_alloc ?_ _); exact BK120.out); (case side2 => exact GE120.out); (case side3 => repeat (first | (with_reducible first | exact HB.out | apply below_alloc | apply pw_below_drewN | apply below_drew1 | refine below_set ?_ GE120.out) | exact HB.out)); (case side4 => exact Kd.R_tight rfl HO123.out); rintro e w26 ⟨v125, rfl, ho0, hi, hb, hkp⟩; refine ⟨_, rfl, ?_⟩; have n0_ := Goto.m0 (hi); have n1_ := Goto.m0 (Kd.R_mono (ok' := fun k_ => True) ho0 (fun k_ hk_ => trivial)); have n2_ := Goto.m0 (hb); clear BK120; clear HB; clear HO123; have BK120 := n0_; have HO126 := n1_; have HB := n2_; clear n0_ n1_ n2_; (try clear hb); (try clear hkp); (try clear ho0)) | ((with_reducible refine gate_callee (f := 11) rfl ?_); refine goesL_ (some 14) rfl rfl Try.func11 (by kernel_rfl) rfl #[.pointer (some ⟨gb120, 0, none⟩), .int .i64 300] rfl (by (try simp only [List.map_toArray, List.map_cons, List.map_nil]); first | done | rfl | (simp only [List.length_drop, List.length_take]; rfl)) ?_; (with_reducible refine (wire_Writer_Num.calls k gb120 (fun k_ => some k_ = (v125 : Value).ownBlock) v125 t124 300 t127 w _ ?side1 ?side2 ?side3 ?side4 A3.out).mono ?_); (case side1 => exact by (with_reducible repeat first | refine blk_drewN ?_ _ | refine blk_drew ?_ | refine blk_alloc ?_ _); exact BK120.out); (case side2 => exact GE120.out); (case side3 => repeat (first | (with_reducible first | exact HB.out | apply below_alloc | apply pw_below_drewN | apply below_drew1 | refine below_set ?_ GE120.out) | exact HB.out)); (case side4 => exact Kd.R_tight rfl HO126.out); rintro e w27 ⟨v128, rfl, ho0, hi, hb, hkp⟩; refine ⟨_, rfl, ?_⟩; have n0_ := Goto.m0 (hi); have n1_ := Goto.m0 (Kd.R_mono (ok' := fun k_ => True) ho0 (fun k_ hk_ => trivial)); have n2_ := Goto.m0 (hb); clear BK120; clear HB; clear HO126; have BK120 := n0_; have HO129 := n1_; have HB := n2_; clear n0_ n1_ n2_; (try clear hb); (try clear hkp); (try clear ho0)) | ((with_reducible refine gate_callee (f := 12) rfl ?_); refine goesL_ (some 16) rfl rfl Try.func12 (by kernel_rfl) rfl #[.pointer (some ⟨gb120, 0, none⟩), .int .u64 258] rfl (by (try simp only [List.map_toArray, List.map_cons, List.map_nil]); first | done | rfl | (simp only [List.length_drop, List.length_take]; rfl)) ?_; (with_reducible refine (wire_Writer_Bits.calls k gb120 (fun k_ => some k_ = (v128 : Value).ownBlock) v128 t127 258 t130 w _ ?side1 ?side2 ?side3 ?side4 A4.out).mono ?_); (case side1 => exact by (with_reducible repeat first | refine blk_drewN ?_ _ | refine blk_drew ?_ | refine blk_alloc ?_ _); exact BK120.out); (case side2 => exact GE120.out); (case side3 => repeat (first | (with_reducible first | exact HB.out | apply below_alloc | apply pw_below_drewN | apply below_drew1 | refine below_set ?_ GE120.out) | exact HB.out)); (case side4 => exact Kd.R_tight rfl HO129.out); rintro e w28 ⟨v131, rfl, ho0, hi, hb, hkp⟩; refine ⟨_, rfl, ?_⟩; have n0_ := Goto.m0 (hi); have n1_ := Goto.m0 (Kd.R_mono (ok' := fun k_ => True) ho0 (fun k_ hk_ => trivial)); have n2_ := Goto.m0 (hb); clear BK120; clear HB; clear HO129; have BK120 := n0_; have HO132 := n1_; have HB := n2_; clear n0_ n1_ n2_; (try clear hb); (try clear hkp); (try clear ho0)) | ((with_reducible refine gate_callee (f := 14) rfl ?_); refine goesL_ (some 18) rfl rfl Try.func14 (by kernel_rfl) rfl #[.pointer (some ⟨gb120, 0, none⟩)] rfl (by (try simp only [List.map_toArray, List.map_cons, List.map_nil]); first | done | rfl | (simp only [List.length_drop, List.length_take]; rfl)) ?_; (with_reducible refine (wire_Writer_String.calls gb120 (fun k_ => some k_ = (v131 : Value).ownBlock) v131 t130 t133 t134 w _ ?side1 ?side2 ?side3 ?side4 A5.out).mono ?_); (case side1 => exact by (with_reducible repeat first | refine blk_drewN ?_ _ | refine blk_drew ?_ | refine blk_alloc ?_ _); exact BK120.out); (case side2 => exact GE120.out); (case side3 => repeat (first | (with_reducible first | exact HB.out | apply below_alloc | apply pw_below_drewN | apply below_drew1 | refine below_set ?_ GE120.out) | exact HB.out)); (case side4 => exact Kd.R_tight rfl HO132.out); rintro e w29 ⟨rfl, hi, hy0, hb, hkp⟩; refine ⟨_, rfl, ?_⟩; replace BK120 := Goto.m0 (hi); replace HO132 := Goto.m0 (Kd.R_reok rfl hy0 (fun k_ e_ => HO132.out.1 k_ e_)); replace HB := Goto.m0 (hb); (try clear hb); (try clear hkp); (try clear hy0)) | ((with_reducible refine gate_callee (f := 13) rfl ?_); refine goesL_ (some 19) rfl rfl Try.func13 (by kernel_rfl) rfl #[.string t133] rfl (by (try simp only [List.map_toArray, List.map_cons, List.map_nil]); first | done | rfl | (simp only [List.length_drop, List.length_take]; rfl)) ?_; (with_reducible refine (wire_Of.calls t133 t136 t137 _ A6.out).mono ?_); rintro e w30 ⟨gb135, rfl, hi, hge, hb⟩; refine ⟨_, rfl, ?_⟩; have BK135 := Goto.m0 (hi); have GW135 := Goto.m0 ((Nat.le_trans (below_size (Goto.hx HB)) hge : w.heap.size ≤ gb135)); have GE135 := Goto.m0 ((Nat.le_trans (below_size (Goto.hx HB)) hge : w.heap.size ≤ gb135)); have NB120_135 := Goto.m0 ((Nat.ne_of_lt (Nat.lt_of_lt_of_le (blk_lt (g := gb120) (o := .cells #[v131] 65 (0, 0)) (Goto.bx BK120)) hge) : gb120 ≠ gb135)); have NB135_120 := Goto.m0 ((Nat.ne_of_gt (Nat.lt_of_lt_of_le (blk_lt (g := gb120) (o := .cells #[v131] 65 (0, 0)) (Goto.bx BK120)) hge) : gb135 ≠ gb120)); replace HO132 := Goto.m0 (Kd.R_below (Goto.rk HO132) hb); replace BK120 := Goto.bb BK120 hb; replace HB := Goto.hs HB hb; (try clear hb); (try clear hi); (try clear hge); (try simp only [errW_none, errW_some])) | ((with_reducible refine gate_callee (f := 15) rfl ?_); refine goesL_ (some 21) rfl rfl Try.func15 (by kernel_rfl) rfl #[.pointer (some ⟨gb135, 0, none⟩), .int .i64 9] rfl (by (try simp only [List.map_toArray, List.map_cons, List.map_nil]); first | done | rfl | (simp only [List.length_drop, List.length_take]; rfl)) ?_; (with_reducible refine (wire_Reader_Num.calls k gb135 t136 t137 9 t138 t139 t140 w _ ?side1 ?side2 ?side3 A7.out).mono ?_); (case side1 => exact by (with_reducible repeat first | refine blk_drewN ?_ _ | refine blk_drew ?_ | refine blk_alloc ?_ _); exact BK135.out); (case side2 => exact GE135.out); (case side3 => repeat (first | (with_reducible first | exact HB.out | apply below_alloc | apply pw_below_drewN | apply below_drew1 | refine below_set ?_ GE120.out | refine below_set ?_ GE135.out) | exact HB.out)); rintro e w31 ⟨rfl, hi, hb, hkp⟩; refine ⟨_, rfl, ?_⟩; replace BK120 := Goto.m0 (blk_kept (Goto.bx BK120) hkp (fun hs_ => Or.elim hs_ (fun hs_ => False.elim (show False from hs_)) (fun e_ => NB120_135.out e_))); replace HO132 := Goto.m0 (Kd.R_mono (ok' := fun k_ => True) (Kd.R_keptB ((Kd.R_types HO132.out BK135.out (by decide))) hkp (fun k_ hk_ hs_ => Or.elim hs_ (fun hs_ => False.elim (show False from hs_)) (fun e_ => (hk_.2) e_))) (fun k_ hk_ => trivial)); replace BK135 := Goto.m0 (hi); replace HB := Goto.m0 (hb); (try clear hb); (try clear hkp); (try simp only [errW_none, errW_some])) | ((with_reducible refine gate_callee (f := 15) rfl ?_); refine goesL_ (some 23) rfl rfl Try.func15 (by kernel_rfl) rfl #[.pointer (some ⟨gb135, 0, none⟩), .int .i64 300] rfl (by (try simp only [List.map_toArray, List.map_cons, List.map_nil]); first | done | rfl | (simp only [List.length_drop, List.length_take]; rfl)) ?_; (with_reducible refine (wire_Reader_Num.calls k gb135 t139 t140 300 t141 t142 t143 w _ ?side1 ?side2 ?side3 A8.out).mono ?_); (case side1 => exact by (with_reducible repeat first | refine blk_drewN ?_ _ | refine blk_drew ?_ | refine blk_alloc ?_ _); exact BK135.out); (case side2 => exact GE135.out); (case side3 => repeat (first | (with_reducible first | exact HB.out | apply below_alloc | apply pw_below_drewN | apply below_drew1 | refine below_set ?_ GE120.out | refine below_set ?_ GE135.out) | exact HB.out)); rintro e w32 ⟨rfl, hi, hb, hkp⟩; refine ⟨_, rfl, ?_⟩; replace BK120 := Goto.m0 (blk_kept (Goto.bx BK120) hkp (fun hs_ => Or.elim hs_ (fun hs_ => False.elim (show False from hs_)) (fun e_ => NB120_135.out e_))); replace HO132 := Goto.m0 (Kd.R_mono (ok' := fun k_ => True) (Kd.R_keptB ((Kd.R_types HO132.out BK135.out (by decide))) hkp (fun k_ hk_ hs_ => Or.elim hs_ (fun hs_ => False.elim (show False from hs_)) (fun e_ => (hk_.2) e_))) (fun k_ hk_ => trivial)); replace BK135 := Goto.m0 (hi); replace HB := Goto.m0 (hb); (try clear hb); (try clear hkp); (try simp only [errW_none, errW_some])) | ((with_reducible refine gate_callee (f := 16) rfl ?_); refine goesL_ (some 25) rfl rfl Try.func16 (by kernel_rfl) rfl #[.pointer (some ⟨gb135, 0, none⟩)] rfl (by (try simp only [List.map_toArray, List.map_cons, List.map_nil]); first | done | rfl | (simp only [List.length_drop, List.length_take]; rfl)) ?_; (with_reducible refine (wire_Reader_Bits.calls k gb135 t142 t143 t144 t145 t146 w _ ?side1 ?side2 ?side3 A9.out).mono ?_); (case side1 => exact by (with_reducible repeat first | refine blk_drewN ?_ _ | refine blk_drew ?_ | refine blk_alloc ?_ _); exact BK135.out); (case side2 => exact GE135.out); (case side3 => repeat (first | (with_reducible first | exact HB.out | apply below_alloc | apply pw_below_drewN | apply below_drew1 | refine below_set ?_ GE120.out | refine below_set ?_ GE135.out) | exact HB.out)); rintro e w33 ⟨rfl, hi, hb, hkp⟩; refine ⟨_, rfl, ?_⟩; replace BK120 := Goto.m0 (blk_kept (Goto.bx BK120) hkp (fun hs_ => Or.elim hs_ (fun hs_ => False.elim (show False from hs_)) (fun e_ => NB120_135.out e_))); replace HO132 := Goto.m0 (Kd.R_mono (ok' := fun k_ => True) (Kd.R_keptB ((Kd.R_types HO132.out BK135.out (by decide))) hkp (fun k_ hk_ hs_ => Or.elim hs_ (fun hs_ => False.elim (show False from hs_)) (fun e_ => (hk_.2) e_))) (fun k_ hk_ => trivial)); replace BK135 := Goto.m0 (hi); replace HB := Goto.m0 (hb); (try clear hb); (try clear hkp); (try simp only [errW_none, errW_some])) | ((with_reducible refine gate_callee (f := 13) rfl ?_); refine goesL_ (some 26) rfl rfl Try.func13 (by kernel_rfl) rfl #[.string (⟨#[128, 0]⟩ : ByteArray)] rfl (by (try simp only [List.map_toArray, List.map_cons, List.map_nil]); first | done | rfl | (simp only [List.length_drop, List.length_take]; rfl)) ?_; (with_reducible refine (wire_Of.calls (⟨#[128, 0]⟩ : ByteArray) t148 t149 _ A10.out).mono ?_); rintro e w34 ⟨gb147, rfl, hi, hge, hb⟩; refine ⟨_, rfl, ?_⟩; have BK147 := Goto.m0 (hi); have GW147 := Goto.m0 ((Nat.le_trans (below_size (Goto.hx HB)) hge : w.heap.size ≤ gb147)); have GE147 := Goto.m0 ((Nat.le_trans (below_size (Goto.hx HB)) hge : w.heap.size ≤ gb147)); have NB120_147 := Goto.m0 ((Nat.ne_of_lt (Nat.lt_of_lt_of_le (blk_lt (g := gb120) (o := .cells #[v131] 65 (0, 0)) (Goto.bx BK120)) hge) : gb120 ≠ gb147)); have NB147_120 := Goto.m0 ((Nat.ne_of_gt (Nat.lt_of_lt_of_le (blk_lt (g := gb120) (o := .cells #[v131] 65 (0, 0)) (Goto.bx BK120)) hge) : gb147 ≠ gb120)); have NB135_147 := Goto.m0 ((Nat.ne_of_lt (Nat.lt_of_lt_of_le (blk_lt (g := gb135) (o := .cells #[.string t145, errW t146] 68 (0, 0)) (Goto.bx BK135)) hge) : gb135 ≠ gb147)); have NB147_135 := Goto.m0 ((Nat.ne_of_gt (Nat.lt_of_lt_of_le (blk_lt (g := gb135) (o := .cells #[.string t145, errW t146] 68 (0, 0)) (Goto.bx BK135)) hge) : gb147 ≠ gb135)); replace HO132 := Goto.m0 (Kd.R_below (Goto.rk HO132) hb); replace BK120 := Goto.bb BK120 hb; replace BK135 := Goto.bb BK135 hb; replace HB := Goto.hs HB hb; (try clear hb); (try clear hi); (try clear hge); (try simp only [errW_none, errW_some])) | ((with_reducible refine gate_callee (f := 15) rfl ?_); refine goesL_ (some 28) rfl rfl Try.func15 (by kernel_rfl) rfl #[.pointer (some ⟨gb147, 0, none⟩), .int .i64 9] rfl (by (try simp only [List.map_toArray, List.map_cons, List.map_nil]); first | done | rfl | (simp only [List.length_drop, List.length_take]; rfl)) ?_; (with_reducible refine (wire_Reader_Num.calls k gb147 t148 t149 9 t150 t151 t152 w _ ?side1 ?side2 ?side3 A11.out).mono ?_); (case side1 => exact by (with_reducible repeat first | refine blk_drewN ?_ _ | refine blk_drew ?_ | refine blk_alloc ?_ _); exact BK147.out); (case side2 => exact GE147.out); (case side3 => repeat (first | (with_reducible first | exact HB.out | apply below_alloc | apply pw_below_drewN | apply below_drew1 | refine below_set ?_ GE120.out | refine below_set ?_ GE135.out | refine below_set ?_ GE147.out) | exact HB.out)); rintro e w35 ⟨rfl, hi, hb, hkp⟩; refine ⟨_, rfl, ?_⟩; replace BK120 := Goto.m0 (blk_kept (Goto.bx BK120) hkp (fun hs_ => Or.elim hs_ (fun hs_ => False.elim (show False from hs_)) (fun e_ => NB120_147.out e_))); replace HO132 := Goto.m0 (Kd.R_mono (ok' := fun k_ => True) (Kd.R_keptB ((Kd.R_types HO132.out BK147.out (by decide))) hkp (fun k_ hk_ hs_ => Or.elim hs_ (fun hs_ => False.elim (show False from hs_)) (fun e_ => (hk_.2) e_))) (fun k_ hk_ => trivial)); replace BK135 := Goto.m0 (blk_kept (Goto.bx BK135) hkp (fun hs_ => Or.elim hs_ (fun hs_ => False.elim (show False from hs_)) (fun e_ => NB135_147.out e_))); replace BK147 := Goto.m0 (hi); replace HB := Goto.m0 (hb); (try clear hb); (try clear hkp); (try simp only [errW_none, errW_some])) | ((with_reducible refine gate_callee (f := 14) rfl ?_); refine goesL_ (some 30) rfl rfl Try.func14 (by kernel_rfl) rfl #[.pointer (some ⟨gb120, 0, none⟩)] rfl (by (try simp only [List.map_toArray, List.map_cons, List.map_nil]); first | done | rfl | (simp only [List.length_drop, List.length_take]; rfl)) ?_; (with_reducible refine (wire_Writer_String.calls gb120 (fun k_ => some k_ = (v131 : Value).ownBlock) v131 t134 t153 t154 w _ ?side1 ?side2 ?side3 ?side4 A12.out).mono ?_); (case side1 => exact by (with_reducible repeat first | refine blk_drewN ?_ _ | refine blk_drew ?_ | refine blk_alloc ?_ _); exact BK120.out); (case side2 => exact GE120.out); (case side3 => repeat (first | (with_reducible first | exact HB.out | apply below_alloc | apply pw_below_drewN | apply below_drew1 | refine below_set ?_ GE120.out | refine below_set ?_ GE135.out | refine below_set ?_ GE147.out) | exact HB.out)); (case side4 => exact Kd.R_tight rfl HO132.out); rintro e w36 ⟨rfl, hi, hy0, hb, hkp⟩; refine ⟨_, rfl, ?_⟩; replace BK120 := Goto.m0 (hi); replace BK135 := Goto.m0 (blk_kept (Goto.bx BK135) hkp (fun hs_ => Or.elim hs_ (fun hs_ => (fun e_ => (Kd.R_ne HO132.out BK135.out (by decide)) e_) hs_) (fun e_ => NB135_120.out e_))); replace BK147 := Goto.m0 (blk_kept (Goto.bx BK147) hkp (fun hs_ => Or.elim hs_ (fun hs_ => (fun e_ => (Kd.R_ne HO132.out BK147.out (by decide)) e_) hs_) (fun e_ => NB147_120.out e_))); replace HO132 := Goto.m0 (Kd.R_reok rfl hy0 (fun k_ e_ => HO132.out.1 k_ e_)); replace HB := Goto.m0 (hb); (try clear hb); (try clear hkp); (try clear hy0)) | (go_at_call 17; (with_reducible refine (wire_Reader_Left.calls gb135 t145 t146 t155 t156 t157 w _ ?side1 ?side2 ?side3 A17.out).mono ?_); (case side1 => exact by (with_reducible repeat first | refine blk_drewN ?_ _ | refine blk_drew ?_ | refine blk_alloc ?_ _); exact BK135.out); (case side2 => exact GE135.out); (case side3 => repeat (first | (with_reducible first | exact HB.out | apply below_alloc | apply pw_below_drewN | apply below_drew1 | refine below_set ?_ GE120.out | refine below_set ?_ GE135.out | refine below_set ?_ GE147.out) | exact HB.out)); rintro e w37 ⟨rfl, hi, hb, hkp⟩; replace BK120 := Goto.m0 (blk_kept (Goto.bx BK120) hkp (fun hs_ => Or.elim hs_ (fun hs_ => False.elim (show False from hs_)) (fun e_ => NB120_135.out e_))); replace HO132 := Goto.m0 (Kd.R_mono (ok' := fun k_ => True) (Kd.R_keptB ((Kd.R_types HO132.out BK135.out (by decide))) hkp (fun k_ hk_ hs_ => Or.elim hs_ (fun hs_ => False.elim (show False from hs_)) (fun e_ => (hk_.2) e_))) (fun k_ hk_ => trivial)); replace BK135 := Goto.m0 (hi); replace BK147 := Goto.m0 (blk_kept (Goto.bx BK147) hkp (fun hs_ => Or.elim hs_ (fun hs_ => False.elim (show False from hs_)) (fun e_ => NB147_135.out e_))); replace HB := Goto.m0 (hb); (try clear hb); (try clear hkp); (try simp only [errW_none, errW_some])) | (go_at_call 18; (with_reducible refine (wire_Reader_Err.calls gb135 t156 t157 none t159 t160 w _ ?side1 ?side2 ?side3 A19.out).mono ?_); (case side1 => exact by (with_reducible repeat first | refine blk_drewN ?_ _ | refine blk_drew ?_ | refine blk_alloc ?_ _); exact BK135.out); (case side2 => exact GE135.out); (case side3 => repeat (first | (with_reducible first | exact HB.out | apply below_alloc | apply pw_below_drewN | apply below_drew1 | refine below_set ?_ GE120.out | refine below_set ?_ GE135.out | refine below_set ?_ GE147.out) | exact HB.out)); rintro e w38 ⟨rfl, hi, hb, hkp⟩; replace BK120 := Goto.m0 (blk_kept (Goto.bx BK120) hkp (fun hs_ => Or.elim hs_ (fun hs_ => False.elim (show False from hs_)) (fun e_ => NB120_135.out e_))); replace HO132 := Goto.m0 (Kd.R_mono (ok' := fun k_ => True) (Kd.R_keptB ((Kd.R_types HO132.out BK135.out (by decide))) hkp (fun k_ hk_ hs_ => Or.elim hs_ (fun hs_ => False.elim (show False from hs_)) (fun e_ => (hk_.2) e_))) (fun k_ hk_ => trivial)); replace BK135 := Goto.m0 (hi); replace BK147 := Goto.m0 (blk_kept (Goto.bx BK147) hkp (fun hs_ => Or.elim hs_ (fun hs_ => False.elim (show False from hs_)) (fun e_ => NB147_135.out e_))); replace HB := Goto.m0 (hb); (try clear hb); (try clear hkp); (try simp only [errW_none, errW_some])) | (go_at_call 18; (with_reducible refine (wire_Reader_Err.calls gb147 t151 t152 t162 t163 t164 w _ ?side1 ?side2 ?side3 A21.out).mono ?_); (case side1 => exact by (with_reducible repeat first | refine blk_drewN ?_ _ | refine blk_drew ?_ | refine blk_alloc ?_ _); exact BK147.out); (case side2 => exact GE147.out); (case side3 => repeat (first | (with_reducible first | exact HB.out | apply below_alloc | apply pw_below_drewN | apply below_drew1 | refine below_set ?_ GE120.out | refine below_set ?_ GE135.out | refine below_set ?_ GE147.out) | exact HB.out)); rintro e w39 ⟨rfl, hi, hb, hkp⟩; replace BK120 := Goto.m0 (blk_kept (Goto.bx BK120) hkp (fun hs_ => Or.elim hs_ (fun hs_ => False.elim (show False from hs_)) (fun e_ => NB120_147.out e_))); replace HO132 := Goto.m0 (Kd.R_mono (ok' := fun k_ => True) (Kd.R_keptB ((Kd.R_types HO132.out BK147.out (by decide))) hkp (fun k_ hk_ hs_ => Or.elim hs_ (fun hs_ => False.elim (show False from hs_)) (fun e_ => (hk_.2) e_))) (fun k_ hk_ => trivial)); replace BK135 := Goto.m0 (blk_kept (Goto.bx BK135) hkp (fun hs_ => Or.elim hs_ (fun hs_ => False.elim (show False from hs_)) (fun e_ => NB135_147.out e_))); replace BK147 := Goto.m0 (hi); replace HB := Goto.m0 (hb); (try clear hb); (try clear hkp); (try simp only [errW_none, errW_some]); have CA22 := fun W => errors_Is.calls t162 (some 10) true W A22.out; try simp only [errW_none, errW_some] at CA22) | (go_at_call 19; (with_reducible refine (CA22 _).mono ?_); rintro e w' ⟨rfl, ⟨nd, rfl⟩⟩) | (go_at_call 17; (with_reducible refine (wire_Reader_Left.calls gb147 t163 t164 t166 t167 t168 w _ ?side1 ?side2 ?side3 A24.out).mono ?_); (case side1 => exact by (with_reducible repeat first | refine blk_drewN ?_ _ | refine blk_drew ?_ | refine blk_alloc ?_ _); exact BK147.out); (case side2 => exact GE147.out); (case side3 => repeat (first | (with_reducible first | exact HB.out | apply below_alloc | apply pw_below_drewN | apply below_drew1 | refine below_set ?_ GE120.out | refine below_set ?_ GE135.out | refine below_set ?_ GE147.out) | exact HB.out)); rintro e w40 ⟨rfl, hi, hb, hkp⟩; replace BK120 := Goto.m0 (blk_kept (Goto.bx BK120) hkp (fun hs_ => Or.elim hs_ (fun hs_ => False.elim (show False from hs_)) (fun e_ => NB120_147.out e_))); replace HO132 := Goto.m0 (Kd.R_mono (ok' := fun k_ => True) (Kd.R_keptB ((Kd.R_types HO132.out BK147.out (by decide))) hkp (fun k_ hk_ hs_ => Or.elim hs_ (fun hs_ => False.elim (show False from hs_)) (fun e_ => (hk_.2) e_))) (fun k_ hk_ => trivial)); replace BK135 := Goto.m0 (blk_kept (Goto.bx BK135) hkp (fun hs_ => Or.elim hs_ (fun hs_ => False.elim (show False from hs_)) (fun e_ => NB135_147.out e_))); replace BK147 := Goto.m0 (hi); replace HB := Goto.m0 (hb); (try clear hb); (try clear hkp); (try simp only [errW_none, errW_some])))
         go_ret
         exact ⟨Goto.er, by repeat (first | (with_reducible first | exact HB.out | apply below_alloc | apply pw_below_drewN | apply below_drew1 | refine below_set ?_ GE120.out | refine below_set ?_ GE135.out | refine below_set ?_ GE147.out) | exact HB.out)⟩
        ·
         replace c23 := Bool.eq_false_iff.mpr c23
         subst c23
         rw [if_neg (show ¬ (false = true) by decide)] at H
         exact absurd ((Option.some.inj H).trans HRT.out) (by decide)
       ·
        rw [if_neg c20] at H
        have c20b0 : (t150 == 0) = false := beq_eq_false_iff_ne.mpr c20
        have c20b1 : (t150 != 0) = true := bne_iff_ne.mpr c20
        exact absurd ((Option.some.inj H).trans HRT.out) (by decide)
      ·
       have H1 : (some false) = some r := by rw [if_neg (show ¬ (some q161).isNone = true by simp)] at H; exact H
       clear H; have H := H1; clear H1
       try simp only [errW_none, errW_some]
       exact absurd ((Option.some.inj H).trans HRT.out) (by decide)
     ·
      rw [if_neg c18] at H
      have c18b0 : (t155 == 0) = false := beq_eq_false_iff_ne.mpr c18
      have c18b1 : (t155 != 0) = true := bne_iff_ne.mpr c18
      exact absurd ((Option.some.inj H).trans HRT.out) (by decide)
    ·
     rw [if_neg c16] at H
     have c16b0 : (t144 == 258) = false := beq_eq_false_iff_ne.mpr c16
     have c16b1 : (t144 != 258) = true := bne_iff_ne.mpr c16
     exact absurd ((Option.some.inj H).trans HRT.out) (by decide)
   ·
    rw [if_neg c15] at H
    have c15b0 : (t141 == 300) = false := beq_eq_false_iff_ne.mpr c15
    have c15b1 : (t141 != 300) = true := bne_iff_ne.mpr c15
    exact absurd ((Option.some.inj H).trans HRT.out) (by decide)
  ·
   rw [if_neg c14] at H
   have c14b0 : (t138 == (-1)) = false := beq_eq_false_iff_ne.mpr c14
   have c14b1 : (t138 != (-1)) = true := bne_iff_ne.mpr c14
   exact absurd ((Option.some.inj H).trans HRT.out) (by decide)
 ·
  rw [if_neg c13] at H
  have c13b0 : (t153.toList == ([0, 173, 2, 2, 1, 0, 0, 0, 0, 0, 0] : List UInt8)) = false := beq_eq_false_iff_ne.mpr c13
  have c13b1 : (t153.toList != ([0, 173, 2, 2, 1, 0, 0, 0, 0, 0, 0] : List UInt8)) = true := bne_iff_ne.mpr c13
  exact absurd ((Option.some.inj H).trans HRT.out) (by decide)

end Go.Proofs.Ytiejhnijfgdapaa.P
