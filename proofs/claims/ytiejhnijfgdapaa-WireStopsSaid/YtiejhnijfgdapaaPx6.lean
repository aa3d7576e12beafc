/- Printed by a program of this workplace (a turned copy of the kit's optional print), out of the translation; not trusted: Lean checks it. -/
import Derived.Test.YtiejhnijfgdapaaPx0
import Derived.Test.YtiejhnijfgdapaaPx1
import Derived.Test.YtiejhnijfgdapaaPx3
import Derived.Test.YtiejhnijfgdapaaPx4
import Derived.Test.YtiejhnijfgdapaaPx5
import Derived.Test.YtiejhnijfgdapaaErrIs
namespace Go.Proofs.Ytiejhnijfgdapaa.P
open Go.RowKit Go.Proofs.YtiejhnijfgdapaaW.PrintWords Go.Proofs.YtiejhnijfgdapaaW.PrintLast Go.Proofs.YtiejhnijfgdapaaW.PrintMore
attribute [local go_sem] max2_int min2_int max_two min_two max_three min_three max_four min_four   -- for this text's walks alone
set_option linter.unusedVariables false
set_option linter.unusedSimpArgs false

/-! ### tontinelaw2_WireStops: function 5 -/
mutual
def tontinelaw2_WireStops.j0 : Nat → List (S46) → Bool → ByteArray → Option Int → Option (Bool)
  | 0, _, _, _, _ => none
  | k + 1, x1, x46, x183000, x183001 => if x46 = true then (some false) else (tontinelaw2_WireStops.l0 k x1 0 x183000 x183001)
def tontinelaw2_WireStops.l0 : Nat → List (S46) → Int → ByteArray → Option Int → Option (Bool)
  | 0, _, _, _, _ => none
  | k + 1, x1, x7, x183000, x183001 => if x7 < (x1.length : Int) then (if 0 ≤ x7 then (if ((rd_T46 x1 x7).f0) = 0 then ((wire_Reader_Num.f k x183000 x183001 ((rd_T46 x1 x7).f1)).bind fun bt204 => (if bt204.1 = 0 then ((wire_Reader_Err.f bt204.2.1 bt204.2.2).bind fun bt208 => ((errors_Is.f bt208.1 (some 11)).bind fun t211 => (if t211 = true then ((wire_Reader_Left.f bt208.2.1 bt208.2.2).bind fun bt212 => (tontinelaw2_WireStops.j2 k x1 x7 (bt212.1 != 0) bt212.2.1 bt212.2.2)) else (tontinelaw2_WireStops.j2 k x1 x7 true bt208.2.1 bt208.2.2)))) else (tontinelaw2_WireStops.j2 k x1 x7 true bt204.2.1 bt204.2.2))) else ((wire_Reader_Bits.f k x183000 x183001).bind fun bt216 => (if bt216.1 = 0 then ((wire_Reader_Err.f bt216.2.1 bt216.2.2).bind fun bt219 => ((errors_Is.f bt219.1 (some 11)).bind fun t222 => (if t222 = true then ((wire_Reader_Left.f bt219.2.1 bt219.2.2).bind fun bt223 => (tontinelaw2_WireStops.j2 k x1 x7 (bt223.1 != 0) bt223.2.1 bt223.2.2)) else (tontinelaw2_WireStops.j2 k x1 x7 true bt219.2.1 bt219.2.2)))) else (tontinelaw2_WireStops.j2 k x1 x7 true bt216.2.1 bt216.2.2)))) else (none)) else (some true)
def tontinelaw2_WireStops.j2 : Nat → List (S46) → Int → Bool → ByteArray → Option Int → Option (Bool)
  | 0, _, _, _, _, _ => none
  | k + 1, x1, x7, x93, x183000, x183001 => if x93 = true then (some false) else (tontinelaw2_WireStops.l0 k x1 (wrap64 (x7 + 1)) x183000 x183001)
end
def tontinelaw2_WireStops.f (k : Nat) (a0 : Int) (l1 : List (S46)) : Option (Bool) := (tontinelaw2_known.f k).bind fun t169 => (if t169 = true then (if (l1.length : Int) > 30 then (some true) else ((wire_New.f).bind fun t171 => ((wire_Writer_Num.f k t171 (wrap64 (a0))).bind fun t174 => ((wire_Writer_Bits.f k t174 7).bind fun t177 => ((wire_Writer_String.f t177).bind fun bt180 => ((wire_Of.f bt180.1).bind fun bt183 => ((wire_Reader_Num.f k bt183.1 bt183.2 (wrap64 (a0))).bind fun bt185 => (if bt185.1 = (wrap64 (a0)) then ((wire_Reader_Bits.f k bt185.2.1 bt185.2.2).bind fun bt188 => ((wire_Reader_Err.f bt188.2.1 bt188.2.2).bind fun bt191 => (if bt191.1.isNone = true then ((wire_Reader_Bits.f k bt191.2.1 bt191.2.2).bind fun bt195 => (if bt195.1 = 0 then ((wire_Reader_Err.f bt195.2.1 bt195.2.2).bind fun bt198 => ((errors_Is.f bt198.1 (some 11)).bind fun t201 => (tontinelaw2_WireStops.j0 k l1 (!t201) bt198.2.1 bt198.2.2))) else (tontinelaw2_WireStops.j0 k l1 true bt195.2.1 bt195.2.2))) else (tontinelaw2_WireStops.j0 k l1 true bt191.2.1 bt191.2.2)))) else (some false))))))))) else (some false))
theorem tontinelaw2_WireStops.mono_l : ∀ k, (∀ y0 y1 y2 y3, LeO (tontinelaw2_WireStops.j0 k y0 y1 y2 y3) (tontinelaw2_WireStops.j0 (k + 1) y0 y1 y2 y3)) ∧ (∀ y0 y1 y2 y3, LeO (tontinelaw2_WireStops.l0 k y0 y1 y2 y3) (tontinelaw2_WireStops.l0 (k + 1) y0 y1 y2 y3)) ∧ (∀ y0 y1 y2 y3 y4, LeO (tontinelaw2_WireStops.j2 k y0 y1 y2 y3 y4) (tontinelaw2_WireStops.j2 (k + 1) y0 y1 y2 y3 y4))
  | 0 => ⟨fun _ _ _ _ r h => by simp [tontinelaw2_WireStops.j0] at h, fun _ _ _ _ r h => by simp [tontinelaw2_WireStops.l0] at h, fun _ _ _ _ _ r h => by simp [tontinelaw2_WireStops.j2] at h⟩
  | k + 1 => by
    obtain ⟨ih0, ih1, ih2⟩ := tontinelaw2_WireStops.mono_l k
    refine ⟨?_, ?_, ?_⟩
    · intro y0 y1 y2 y3
      unfold tontinelaw2_WireStops.j0
      repeat' first
      | (with_reducible exact ih0 _ _ _ _)
      | (with_reducible exact ih1 _ _ _ _)
      | (with_reducible exact ih2 _ _ _ _ _)
      | (with_reducible exact tontinelaw2_known.mono _)
      | (with_reducible exact wire_Reader_Bits.mono _ _ _)
      | (with_reducible exact wire_Reader_Num.mono _ _ _ _)
      | (with_reducible exact wire_Writer_Bits.mono _ _ _)
      | (with_reducible exact wire_Writer_Num.mono _ _ _)
      | (with_reducible exact LeO.refl _)
      | (with_reducible exact LeO.none _)
      | (with_reducible refine LeO.ite ?_ ?_)
      | (with_reducible refine LeO.bind ?_ (fun _ => ?_))
      | exact ih0 _ _ _ _
      | exact ih1 _ _ _ _
      | exact ih2 _ _ _ _ _
      | exact tontinelaw2_known.mono _
      | exact wire_Reader_Bits.mono _ _ _
      | exact wire_Reader_Num.mono _ _ _ _
      | exact wire_Writer_Bits.mono _ _ _
      | exact wire_Writer_Num.mono _ _ _
      | exact LeO.none _
      | refine LeO.ite ?_ ?_
      | refine LeO.bind ?_ (fun _ => ?_)
    · intro y0 y1 y2 y3
      unfold tontinelaw2_WireStops.l0
      repeat' first
      | (with_reducible exact ih0 _ _ _ _)
      | (with_reducible exact ih1 _ _ _ _)
      | (with_reducible exact ih2 _ _ _ _ _)
      | (with_reducible exact tontinelaw2_known.mono _)
      | (with_reducible exact wire_Reader_Bits.mono _ _ _)
      | (with_reducible exact wire_Reader_Num.mono _ _ _ _)
      | (with_reducible exact wire_Writer_Bits.mono _ _ _)
      | (with_reducible exact wire_Writer_Num.mono _ _ _)
      | (with_reducible exact LeO.refl _)
      | (with_reducible exact LeO.none _)
      | (with_reducible refine LeO.ite ?_ ?_)
      | (with_reducible refine LeO.bind ?_ (fun _ => ?_))
      | exact ih0 _ _ _ _
      | exact ih1 _ _ _ _
      | exact ih2 _ _ _ _ _
      | exact tontinelaw2_known.mono _
      | exact wire_Reader_Bits.mono _ _ _
      | exact wire_Reader_Num.mono _ _ _ _
      | exact wire_Writer_Bits.mono _ _ _
      | exact wire_Writer_Num.mono _ _ _
      | exact LeO.none _
      | refine LeO.ite ?_ ?_
      | refine LeO.bind ?_ (fun _ => ?_)
    · intro y0 y1 y2 y3 y4
      unfold tontinelaw2_WireStops.j2
      repeat' first
      | (with_reducible exact ih0 _ _ _ _)
      | (with_reducible exact ih1 _ _ _ _)
      | (with_reducible exact ih2 _ _ _ _ _)
      | (with_reducible exact tontinelaw2_known.mono _)
      | (with_reducible exact wire_Reader_Bits.mono _ _ _)
      | (with_reducible exact wire_Reader_Num.mono _ _ _ _)
      | (with_reducible exact wire_Writer_Bits.mono _ _ _)
      | (with_reducible exact wire_Writer_Num.mono _ _ _)
      | (with_reducible exact LeO.refl _)
      | (with_reducible exact LeO.none _)
      | (with_reducible refine LeO.ite ?_ ?_)
      | (with_reducible refine LeO.bind ?_ (fun _ => ?_))
      | exact ih0 _ _ _ _
      | exact ih1 _ _ _ _
      | exact ih2 _ _ _ _ _
      | exact tontinelaw2_known.mono _
      | exact wire_Reader_Bits.mono _ _ _
      | exact wire_Reader_Num.mono _ _ _ _
      | exact wire_Writer_Bits.mono _ _ _
      | exact wire_Writer_Num.mono _ _ _
      | exact LeO.none _
      | refine LeO.ite ?_ ?_
      | refine LeO.bind ?_ (fun _ => ?_)
theorem tontinelaw2_WireStops.mono : ∀ a0 a1 k, LeO (tontinelaw2_WireStops.f k a0 a1) (tontinelaw2_WireStops.f (k + 1) a0 a1) := by
 intro a0 a1 k
 obtain ⟨ih0, ih1, ih2⟩ := tontinelaw2_WireStops.mono_l k
 unfold tontinelaw2_WireStops.f
 repeat' first
   | (with_reducible exact ih0 _ _ _ _)
   | (with_reducible exact ih1 _ _ _ _)
   | (with_reducible exact ih2 _ _ _ _ _)
   | (with_reducible exact tontinelaw2_known.mono _)
   | (with_reducible exact wire_Reader_Bits.mono _ _ _)
   | (with_reducible exact wire_Reader_Num.mono _ _ _ _)
   | (with_reducible exact wire_Writer_Bits.mono _ _ _)
   | (with_reducible exact wire_Writer_Num.mono _ _ _)
   | (with_reducible exact LeO.refl _)
   | (with_reducible exact LeO.none _)
   | (with_reducible refine LeO.ite ?_ ?_)
   | (with_reducible refine LeO.bind ?_ (fun _ => ?_))
   | exact ih0 _ _ _ _
   | exact ih1 _ _ _ _
   | exact ih2 _ _ _ _ _
   | exact tontinelaw2_known.mono _
   | exact wire_Reader_Bits.mono _ _ _
   | exact wire_Reader_Num.mono _ _ _ _
   | exact wire_Writer_Bits.mono _ _ _
   | exact wire_Writer_Num.mono _ _ _
   | exact LeO.none _
   | refine LeO.ite ?_ ?_
   | refine LeO.bind ?_ (fun _ => ?_)
set_option maxHeartbeats 8000000 in
set_option maxRecDepth 100000 in
theorem tontinelaw2_WireStops.calls (k : Nat) (a0 : Int) (A1 : Option Addr) (c1 : Nat) (l1 : List (S46)) (r : Bool) (hrt : r = true) (w : World) (hr1 : Kd.C k46 w A1 l1.length l1) (hc1 : l1.length ≤ c1) (h : tontinelaw2_WireStops.f k a0 l1 = some r) :
    Calls Try.prog 5 #[.int .u8 a0, .slice A1 l1.length c1] w fun e w' => e = .returned (.bool r) ∧ Below w.heap.size w w' := by
 have hu37 := Try.underlying37; have hu42 := Try.underlying42
 have HR1 := Goto.m0 hr1
 have HC1 := Goto.m0 hc1
 clear hr1 hc1
 have HB := Goto.m0 (Below.refl w.heap.size w)
 have HRT := Goto.m0 hrt
 clear hrt
 have H : ((tontinelaw2_known.f k).bind fun t169 => (if t169 = true then (if (l1.length : Int) > 30 then (some true) else ((wire_New.f).bind fun t171 => ((wire_Writer_Num.f k t171 (wrap64 (a0))).bind fun t174 => ((wire_Writer_Bits.f k t174 7).bind fun t177 => ((wire_Writer_String.f t177).bind fun bt180 => ((wire_Of.f bt180.1).bind fun bt183 => ((wire_Reader_Num.f k bt183.1 bt183.2 (wrap64 (a0))).bind fun bt185 => (if bt185.1 = (wrap64 (a0)) then ((wire_Reader_Bits.f k bt185.2.1 bt185.2.2).bind fun bt188 => ((wire_Reader_Err.f bt188.2.1 bt188.2.2).bind fun bt191 => (if bt191.1.isNone = true then ((wire_Reader_Bits.f k bt191.2.1 bt191.2.2).bind fun bt195 => (if bt195.1 = 0 then ((wire_Reader_Err.f bt195.2.1 bt195.2.2).bind fun bt198 => ((errors_Is.f bt198.1 (some 11)).bind fun t201 => (tontinelaw2_WireStops.j0 k l1 (!t201) bt198.2.1 bt198.2.2))) else (tontinelaw2_WireStops.j0 k l1 true bt195.2.1 bt195.2.2))) else (tontinelaw2_WireStops.j0 k l1 true bt191.2.1 bt191.2.2)))) else (some false))))))))) else (some false))) = some r := h
 clear h
 replace H := Option.bind_eq_some_iff.mp H
 obtain ⟨t169, A30, H⟩ := H
 have A3 := Goto.m0 A30
 clear A30
 by_cases c4 : t169 = true
 ·
  subst c4
  rw [if_pos rfl] at H
  by_cases c5 : (l1.length : Int) > 30
  ·
   rw [if_pos c5] at H
   have c5b0 : decide (30 < (l1.length : Int)) = true := decide_eq_true c5
   have c5b1 : decide (30 < l1.length) = true := decide_eq_true (by omega)
   clear c5
   obtain rfl := Option.some.inj H
   go_enter Try.func5, Try.ntmps5
   go_wp2_with (first | ((with_reducible refine gate_callee (f := 9) rfl ?_); refine goesL_ (some 8) rfl rfl Try.func9 (by kernel_rfl) rfl #[] rfl (by (try simp only [List.map_toArray, List.map_cons, List.map_nil]); first | done | rfl | (simp only [List.length_drop, List.length_take]; rfl)) ?_; (with_reducible refine (tontinelaw2_known.calls k  true (by first | rfl | assumption | (simp only [Bool.not_eq_true, Bool.not_eq_false] at *; assumption)) _ A3.out).mono ?_); rintro e w6 ⟨rfl, hb⟩; refine ⟨_, rfl, ?_⟩; replace HB := Goto.hs HB hb; (try clear hb); (try clear hb2); (try clear hk); (try clear hi)))
   go_ret
   exact ⟨Goto.er, by repeat (first | (with_reducible first | exact HB.out | apply below_alloc | apply pw_below_drewN | apply below_drew1) | exact HB.out)⟩
  ·
   rw [if_neg c5] at H
   have c5b0 : decide (30 < (l1.length : Int)) = false := decide_eq_false c5
   have c5b1 : decide (30 < l1.length) = false := decide_eq_false (by omega)
   clear c5
   replace H := Option.bind_eq_some_iff.mp H
   obtain ⟨t171, A70, H⟩ := H
   have A7 := Goto.m0 A70
   clear A70
   replace H := Option.bind_eq_some_iff.mp H
   obtain ⟨t174, A80, H⟩ := H
   have A8 := Goto.m0 A80
   clear A80
   replace H := Option.bind_eq_some_iff.mp H
   obtain ⟨t177, A90, H⟩ := H
   have A9 := Goto.m0 A90
   clear A90
   replace H := Option.bind_eq_some_iff.mp H
   obtain ⟨⟨t180, t181⟩, A100, H⟩ := H
   replace H : ((wire_Of.f t180).bind fun bt183 => ((wire_Reader_Num.f k bt183.1 bt183.2 (wrap64 (a0))).bind fun bt185 => (if bt185.1 = (wrap64 (a0)) then ((wire_Reader_Bits.f k bt185.2.1 bt185.2.2).bind fun bt188 => ((wire_Reader_Err.f bt188.2.1 bt188.2.2).bind fun bt191 => (if bt191.1.isNone = true then ((wire_Reader_Bits.f k bt191.2.1 bt191.2.2).bind fun bt195 => (if bt195.1 = 0 then ((wire_Reader_Err.f bt195.2.1 bt195.2.2).bind fun bt198 => ((errors_Is.f bt198.1 (some 11)).bind fun t201 => (tontinelaw2_WireStops.j0 k l1 (!t201) bt198.2.1 bt198.2.2))) else (tontinelaw2_WireStops.j0 k l1 true bt195.2.1 bt195.2.2))) else (tontinelaw2_WireStops.j0 k l1 true bt191.2.1 bt191.2.2)))) else (some false)))) = some r := H
   have A10 := Goto.m0 A100
   clear A100
   replace H := Option.bind_eq_some_iff.mp H
   obtain ⟨⟨t183, t184⟩, A110, H⟩ := H
   replace H : ((wire_Reader_Num.f k t183 t184 (wrap64 (a0))).bind fun bt185 => (if bt185.1 = (wrap64 (a0)) then ((wire_Reader_Bits.f k bt185.2.1 bt185.2.2).bind fun bt188 => ((wire_Reader_Err.f bt188.2.1 bt188.2.2).bind fun bt191 => (if bt191.1.isNone = true then ((wire_Reader_Bits.f k bt191.2.1 bt191.2.2).bind fun bt195 => (if bt195.1 = 0 then ((wire_Reader_Err.f bt195.2.1 bt195.2.2).bind fun bt198 => ((errors_Is.f bt198.1 (some 11)).bind fun t201 => (tontinelaw2_WireStops.j0 k l1 (!t201) bt198.2.1 bt198.2.2))) else (tontinelaw2_WireStops.j0 k l1 true bt195.2.1 bt195.2.2))) else (tontinelaw2_WireStops.j0 k l1 true bt191.2.1 bt191.2.2)))) else (some false))) = some r := H
   have A11 := Goto.m0 A110
   clear A110
   replace H := Option.bind_eq_some_iff.mp H
   obtain ⟨⟨t185, t186, t187⟩, A120, H⟩ := H
   replace H : (if t185 = (wrap64 (a0)) then ((wire_Reader_Bits.f k t186 t187).bind fun bt188 => ((wire_Reader_Err.f bt188.2.1 bt188.2.2).bind fun bt191 => (if bt191.1.isNone = true then ((wire_Reader_Bits.f k bt191.2.1 bt191.2.2).bind fun bt195 => (if bt195.1 = 0 then ((wire_Reader_Err.f bt195.2.1 bt195.2.2).bind fun bt198 => ((errors_Is.f bt198.1 (some 11)).bind fun t201 => (tontinelaw2_WireStops.j0 k l1 (!t201) bt198.2.1 bt198.2.2))) else (tontinelaw2_WireStops.j0 k l1 true bt195.2.1 bt195.2.2))) else (tontinelaw2_WireStops.j0 k l1 true bt191.2.1 bt191.2.2)))) else (some false)) = some r := H
   have A12 := Goto.m0 A120
   clear A120
   by_cases c13 : t185 = (wrap64 (a0))
   ·
    rw [if_pos c13] at H
    have c13b0 : (t185 == (wrap64 (a0))) = true := beq_iff_eq.mpr c13
    have c13b1 : (t185 != (wrap64 (a0))) = false := bne_eq_false_iff_eq.mpr c13
    clear c13
    replace H := Option.bind_eq_some_iff.mp H
    obtain ⟨⟨t188, t189, t190⟩, A140, H⟩ := H
    replace H : ((wire_Reader_Err.f t189 t190).bind fun bt191 => (if bt191.1.isNone = true then ((wire_Reader_Bits.f k bt191.2.1 bt191.2.2).bind fun bt195 => (if bt195.1 = 0 then ((wire_Reader_Err.f bt195.2.1 bt195.2.2).bind fun bt198 => ((errors_Is.f bt198.1 (some 11)).bind fun t201 => (tontinelaw2_WireStops.j0 k l1 (!t201) bt198.2.1 bt198.2.2))) else (tontinelaw2_WireStops.j0 k l1 true bt195.2.1 bt195.2.2))) else (tontinelaw2_WireStops.j0 k l1 true bt191.2.1 bt191.2.2))) = some r := H
    have A14 := Goto.m0 A140
    clear A140
    have HC15 := Goto.m0 H
    clear H
    go_enter Try.func5, Try.ntmps5
    go_upto_region 12 with (first | ((with_reducible refine gate_callee (f := 9) rfl ?_); refine goesL_ (some 8) rfl rfl Try.func9 (by kernel_rfl) rfl #[] rfl (by (try simp only [List.map_toArray, List.map_cons, List.map_nil]); first | done | rfl | (simp only [List.length_drop, List.length_take]; rfl)) ?_; (with_reducible refine (tontinelaw2_known.calls k  true (by first | rfl | assumption | (simp only [Bool.not_eq_true, Bool.not_eq_false] at *; assumption)) _ A3.out).mono ?_); rintro e w16 ⟨rfl, hb⟩; refine ⟨_, rfl, ?_⟩; replace HB := Goto.hs HB hb; (try clear hb); (try clear hb2); (try clear hk); (try clear hi)) | ((with_reducible refine gate_callee (f := 10) rfl ?_); refine goesL_ (some 13) rfl rfl Try.func10 (by kernel_rfl) rfl #[] rfl (by (try simp only [List.map_toArray, List.map_cons, List.map_nil]); first | done | rfl | (simp only [List.length_drop, List.length_take]; rfl)) ?_; (with_reducible refine (wire_New.calls  t171 _ A7.out).mono ?_); rintro e w17 ⟨v172, gb170, rfl, ho0, hi, hge, hb⟩; refine ⟨_, rfl, ?_⟩; have HO173 := Goto.m0 (Kd.R_lower ho0 (below_size (Goto.hx HB))); have BK170 := Goto.m0 (hi); have GW170 := Goto.m0 ((Nat.le_trans (below_size (Goto.hx HB)) hge : w.heap.size ≤ gb170)); have GE170 := Goto.m0 ((Nat.le_trans (below_size (Goto.hx HB)) hge : w.heap.size ≤ gb170)); replace HB := Goto.hs HB hb; (try clear hb); (try clear hi); (try clear hge); (try clear ho0)) | ((with_reducible refine gate_callee (f := 11) rfl ?_); refine goesL_ (some 17) rfl rfl Try.func11 (by kernel_rfl) rfl #[.pointer (some ⟨gb170, 0, none⟩), .int .i64 (wrap64 (a0))] rfl (by (try simp only [List.map_toArray, List.map_cons, List.map_nil]); first | done | rfl | (simp only [List.length_drop, List.length_take]; rfl)) ?_; (with_reducible refine (wire_Writer_Num.calls k gb170 (fun k_ => some k_ = (v172 : Value).ownBlock) v172 t171 (wrap64 (a0)) t174 w _ ?side1 ?side2 ?side3 ?side4 A8.out).mono ?_); (case side1 => exact by (with_reducible repeat first | refine blk_drewN ?_ _ | refine blk_drew ?_ | refine blk_alloc ?_ _); exact BK170.out); (case side2 => exact GE170.out); (case side3 => repeat (first | (with_reducible first | exact HB.out | apply below_alloc | apply pw_below_drewN | apply below_drew1 | refine below_set ?_ GE170.out) | exact HB.out)); (case side4 => exact Kd.R_tight rfl HO173.out); rintro e w18 ⟨v175, rfl, ho0, hi, hb, hkp⟩; refine ⟨_, rfl, ?_⟩; have n0_ := Goto.m0 (hi); have n1_ := Goto.m0 (Kd.R_mono (ok' := fun k_ => True) ho0 (fun k_ hk_ => trivial)); have n2_ := Goto.m0 (hb); clear BK170; clear HB; clear HO173; have BK170 := n0_; have HO176 := n1_; have HB := n2_; clear n0_ n1_ n2_; (try clear hb); (try clear hkp); (try clear ho0)) | ((with_reducible refine gate_callee (f := 12) rfl ?_); refine goesL_ (some 19) rfl rfl Try.func12 (by kernel_rfl) rfl #[.pointer (some ⟨gb170, 0, none⟩), .int .u64 7] rfl (by (try simp only [List.map_toArray, List.map_cons, List.map_nil]); first | done | rfl | (simp only [List.length_drop, List.length_take]; rfl)) ?_; (with_reducible refine (wire_Writer_Bits.calls k gb170 (fun k_ => some k_ = (v175 : Value).ownBlock) v175 t174 7 t177 w _ ?side1 ?side2 ?side3 ?side4 A9.out).mono ?_); (case side1 => exact by (with_reducible repeat first | refine blk_drewN ?_ _ | refine blk_drew ?_ | refine blk_alloc ?_ _); exact BK170.out); (case side2 => exact GE170.out); (case side3 => repeat (first | (with_reducible first | exact HB.out | apply below_alloc | apply pw_below_drewN | apply below_drew1 | refine below_set ?_ GE170.out) | exact HB.out)); (case side4 => exact Kd.R_tight rfl HO176.out); rintro e w19 ⟨v178, rfl, ho0, hi, hb, hkp⟩; refine ⟨_, rfl, ?_⟩; have n0_ := Goto.m0 (hi); have n1_ := Goto.m0 (Kd.R_mono (ok' := fun k_ => True) ho0 (fun k_ hk_ => trivial)); have n2_ := Goto.m0 (hb); clear BK170; clear HB; clear HO176; have BK170 := n0_; have HO179 := n1_; have HB := n2_; clear n0_ n1_ n2_; (try clear hb); (try clear hkp); (try clear ho0)) | ((with_reducible refine gate_callee (f := 14) rfl ?_); refine goesL_ (some 21) rfl rfl Try.func14 (by kernel_rfl) rfl #[.pointer (some ⟨gb170, 0, none⟩)] rfl (by (try simp only [List.map_toArray, List.map_cons, List.map_nil]); first | done | rfl | (simp only [List.length_drop, List.length_take]; rfl)) ?_; (with_reducible refine (wire_Writer_String.calls gb170 (fun k_ => some k_ = (v178 : Value).ownBlock) v178 t177 t180 t181 w _ ?side1 ?side2 ?side3 ?side4 A10.out).mono ?_); (case side1 => exact by (with_reducible repeat first | refine blk_drewN ?_ _ | refine blk_drew ?_ | refine blk_alloc ?_ _); exact BK170.out); (case side2 => exact GE170.out); (case side3 => repeat (first | (with_reducible first | exact HB.out | apply below_alloc | apply pw_below_drewN | apply below_drew1 | refine below_set ?_ GE170.out) | exact HB.out)); (case side4 => exact Kd.R_tight rfl HO179.out); rintro e w20 ⟨rfl, hi, hy0, hb, hkp⟩; refine ⟨_, rfl, ?_⟩; replace BK170 := Goto.m0 (hi); replace HO179 := Goto.m0 (Kd.R_reok rfl hy0 (fun k_ e_ => HO179.out.1 k_ e_)); replace HB := Goto.m0 (hb); (try clear hb); (try clear hkp); (try clear hy0)) | ((with_reducible refine gate_callee (f := 13) rfl ?_); refine goesL_ (some 22) rfl rfl Try.func13 (by kernel_rfl) rfl #[.string t180] rfl (by (try simp only [List.map_toArray, List.map_cons, List.map_nil]); first | done | rfl | (simp only [List.length_drop, List.length_take]; rfl)) ?_; (with_reducible refine (wire_Of.calls t180 t183 t184 _ A11.out).mono ?_); rintro e w21 ⟨gb182, rfl, hi, hge, hb⟩; refine ⟨_, rfl, ?_⟩; have BK182 := Goto.m0 (hi); have GW182 := Goto.m0 ((Nat.le_trans (below_size (Goto.hx HB)) hge : w.heap.size ≤ gb182)); have GE182 := Goto.m0 ((Nat.le_trans (below_size (Goto.hx HB)) hge : w.heap.size ≤ gb182)); have NB170_182 := Goto.m0 ((Nat.ne_of_lt (Nat.lt_of_lt_of_le (blk_lt (g := gb170) (o := .cells #[v178] 65 (0, 0)) (Goto.bx BK170)) hge) : gb170 ≠ gb182)); have NB182_170 := Goto.m0 ((Nat.ne_of_gt (Nat.lt_of_lt_of_le (blk_lt (g := gb170) (o := .cells #[v178] 65 (0, 0)) (Goto.bx BK170)) hge) : gb182 ≠ gb170)); replace HO179 := Goto.m0 (Kd.R_below (Goto.rk HO179) hb); replace BK170 := Goto.bb BK170 hb; replace HB := Goto.hs HB hb; (try clear hb); (try clear hi); (try clear hge); (try simp only [errW_none, errW_some])) | ((with_reducible refine gate_callee (f := 15) rfl ?_); refine goesL_ (some 26) rfl rfl Try.func15 (by kernel_rfl) rfl #[.pointer (some ⟨gb182, 0, none⟩), .int .i64 (wrap64 (a0))] rfl (by (try simp only [List.map_toArray, List.map_cons, List.map_nil]); first | done | rfl | (simp only [List.length_drop, List.length_take]; rfl)) ?_; (with_reducible refine (wire_Reader_Num.calls k gb182 t183 t184 (wrap64 (a0)) t185 t186 t187 w _ ?side1 ?side2 ?side3 A12.out).mono ?_); (case side1 => exact by (with_reducible repeat first | refine blk_drewN ?_ _ | refine blk_drew ?_ | refine blk_alloc ?_ _); exact BK182.out); (case side2 => exact GE182.out); (case side3 => repeat (first | (with_reducible first | exact HB.out | apply below_alloc | apply pw_below_drewN | apply below_drew1 | refine below_set ?_ GE170.out | refine below_set ?_ GE182.out) | exact HB.out)); rintro e w22 ⟨rfl, hi, hb, hkp⟩; refine ⟨_, rfl, ?_⟩; replace BK170 := Goto.m0 (blk_kept (Goto.bx BK170) hkp (fun hs_ => Or.elim hs_ (fun hs_ => False.elim (show False from hs_)) (fun e_ => NB170_182.out e_))); replace HO179 := Goto.m0 (Kd.R_mono (ok' := fun k_ => True) (Kd.R_keptB ((Kd.R_types HO179.out BK182.out (by decide))) hkp (fun k_ hk_ hs_ => Or.elim hs_ (fun hs_ => False.elim (show False from hs_)) (fun e_ => (hk_.2) e_))) (fun k_ hk_ => trivial)); replace BK182 := Goto.m0 (hi); replace HB := Goto.m0 (hb); (try clear hb); (try clear hkp); (try simp only [errW_none, errW_some])) | ((with_reducible refine gate_callee (f := 16) rfl ?_); refine goesL_ (some 31) rfl rfl Try.func16 (by kernel_rfl) rfl #[.pointer (some ⟨gb182, 0, none⟩)] rfl (by (try simp only [List.map_toArray, List.map_cons, List.map_nil]); first | done | rfl | (simp only [List.length_drop, List.length_take]; rfl)) ?_; (with_reducible refine (wire_Reader_Bits.calls k gb182 t186 t187 t188 t189 t190 w _ ?side1 ?side2 ?side3 A14.out).mono ?_); (case side1 => exact by (with_reducible repeat first | refine blk_drewN ?_ _ | refine blk_drew ?_ | refine blk_alloc ?_ _); exact BK182.out); (case side2 => exact GE182.out); (case side3 => repeat (first | (with_reducible first | exact HB.out | apply below_alloc | apply pw_below_drewN | apply below_drew1 | refine below_set ?_ GE170.out | refine below_set ?_ GE182.out) | exact HB.out)); rintro e w23 ⟨rfl, hi, hb, hkp⟩; refine ⟨_, rfl, ?_⟩; replace BK170 := Goto.m0 (blk_kept (Goto.bx BK170) hkp (fun hs_ => Or.elim hs_ (fun hs_ => False.elim (show False from hs_)) (fun e_ => NB170_182.out e_))); replace HO179 := Goto.m0 (Kd.R_mono (ok' := fun k_ => True) (Kd.R_keptB ((Kd.R_types HO179.out BK182.out (by decide))) hkp (fun k_ hk_ hs_ => Or.elim hs_ (fun hs_ => False.elim (show False from hs_)) (fun e_ => (hk_.2) e_))) (fun k_ hk_ => trivial)); replace BK182 := Goto.m0 (hi); replace HB := Goto.m0 (hb); (try clear hb); (try clear hkp); (try simp only [errW_none, errW_some])))
    (try simp only [Act.put, List.setIfInBounds_toArray, List.set_cons_zero, List.set_cons_succ])
    go_cut [11, 12, 16, 25, 28, 29, 39, 40, 46] (fun v11 v12 v16 v25 v28 v29 v39 v40 v46 wc => ∃ (kq : Nat) (x46_14 : Bool) (x183000_14 : ByteArray) (x183001_14 : Option Int), v46 = .bool x46_14 ∧ Aside0 (tontinelaw2_WireStops.j0 kq l1 x46_14 x183000_14 x183001_14 = some r) ∧ Aside0 (kq ≤ k) ∧ Aside0 (Kd.R (Kd.int .u8) 5 wc w.heap.size (fun _ => True) v178 t181) ∧ Aside0 (wc.heap[gb170]? = some (.cells #[v178] 65 (0, 0))) ∧ Aside0 (wc.heap[gb182]? = some (.cells #[.string x183000_14, errW x183001_14] 68 (0, 0))) ∧ Aside0 (Below w.heap.size w wc))
    case first =>
     have H := HC15.out; clear HC15
     replace H := Option.bind_eq_some_iff.mp H
     obtain ⟨⟨t191, t192, t193⟩, A240, H⟩ := H
     replace H : (if t191.isNone = true then ((wire_Reader_Bits.f k t192 t193).bind fun bt195 => (if bt195.1 = 0 then ((wire_Reader_Err.f bt195.2.1 bt195.2.2).bind fun bt198 => ((errors_Is.f bt198.1 (some 11)).bind fun t201 => (tontinelaw2_WireStops.j0 k l1 (!t201) bt198.2.1 bt198.2.2))) else (tontinelaw2_WireStops.j0 k l1 true bt195.2.1 bt195.2.2))) else (tontinelaw2_WireStops.j0 k l1 true t192 t193)) = some r := H
     have A24 := Goto.m0 A240
     clear A240
     rcases t191 with _ | q194
     ·
      have H1 : ((wire_Reader_Bits.f k t192 t193).bind fun bt195 => (if bt195.1 = 0 then ((wire_Reader_Err.f bt195.2.1 bt195.2.2).bind fun bt198 => ((errors_Is.f bt198.1 (some 11)).bind fun t201 => (tontinelaw2_WireStops.j0 k l1 (!t201) bt198.2.1 bt198.2.2))) else (tontinelaw2_WireStops.j0 k l1 true bt195.2.1 bt195.2.2))) = some r := by rw [if_pos (show (none : Option Int).isNone = true by rfl)] at H; exact H
      clear H; have H := H1; clear H1
      try simp only [errW_none, errW_some]
      replace H := Option.bind_eq_some_iff.mp H
      obtain ⟨⟨t195, t196, t197⟩, A250, H⟩ := H
      replace H : (if t195 = 0 then ((wire_Reader_Err.f t196 t197).bind fun bt198 => ((errors_Is.f bt198.1 (some 11)).bind fun t201 => (tontinelaw2_WireStops.j0 k l1 (!t201) bt198.2.1 bt198.2.2))) else (tontinelaw2_WireStops.j0 k l1 true t196 t197)) = some r := H
      have A25 := Goto.m0 A250
      clear A250
      by_cases c26 : t195 = 0
      ·
       rw [if_pos c26] at H
       have c26b0 : (t195 == 0) = true := beq_iff_eq.mpr c26
       have c26b1 : (t195 != 0) = false := bne_eq_false_iff_eq.mpr c26
       clear c26
       (first | rw [c26b0] | (simp only [i64_w, i32_w]; rw [c26b0]) | skip)
       replace H := Option.bind_eq_some_iff.mp H
       obtain ⟨⟨t198, t199, t200⟩, A270, H⟩ := H
       replace H : ((errors_Is.f t198 (some 11)).bind fun t201 => (tontinelaw2_WireStops.j0 k l1 (!t201) t199 t200)) = some r := H
       have A27 := Goto.m0 A270
       clear A270
       replace H := Option.bind_eq_some_iff.mp H
       obtain ⟨t201, A280, H⟩ := H
       have A28 := Goto.m0 A280
       clear A280
       have H' := Goto.m0 H
       clear H
       go_wp2_with (first | ((with_reducible refine gate_callee (f := 18) rfl ?_); refine goesL_ (some 33) rfl rfl Try.func18 (by kernel_rfl) rfl #[.pointer (some ⟨gb182, 0, none⟩)] rfl (by (try simp only [List.map_toArray, List.map_cons, List.map_nil]); first | done | rfl | (simp only [List.length_drop, List.length_take]; rfl)) ?_; (with_reducible refine (wire_Reader_Err.calls gb182 t189 t190 none t192 t193 w _ ?side1 ?side2 ?side3 A24.out).mono ?_); (case side1 => exact by (with_reducible repeat first | refine blk_drewN ?_ _ | refine blk_drew ?_ | refine blk_alloc ?_ _); exact BK182.out); (case side2 => exact GE182.out); (case side3 => repeat (first | (with_reducible first | exact HB.out | apply below_alloc | apply pw_below_drewN | apply below_drew1 | refine below_set ?_ GE170.out | refine below_set ?_ GE182.out) | exact HB.out)); rintro e w29 ⟨rfl, hi, hb, hkp⟩; refine ⟨_, rfl, ?_⟩; replace BK170 := Goto.m0 (blk_kept (Goto.bx BK170) hkp (fun hs_ => Or.elim hs_ (fun hs_ => False.elim (show False from hs_)) (fun e_ => NB170_182.out e_))); replace HO179 := Goto.m0 (Kd.R_mono (ok' := fun k_ => True) (Kd.R_keptB ((Kd.R_types HO179.out BK182.out (by decide))) hkp (fun k_ hk_ hs_ => Or.elim hs_ (fun hs_ => False.elim (show False from hs_)) (fun e_ => (hk_.2) e_))) (fun k_ hk_ => trivial)); replace BK182 := Goto.m0 (hi); replace HB := Goto.m0 (hb); (try clear hb); (try clear hkp); (try simp only [errW_none, errW_some])) | (go_at_call 16; (with_reducible refine (wire_Reader_Bits.calls k gb182 t192 t193 t195 t196 t197 w _ ?side1 ?side2 ?side3 A25.out).mono ?_); (case side1 => exact by (with_reducible repeat first | refine blk_drewN ?_ _ | refine blk_drew ?_ | refine blk_alloc ?_ _); exact BK182.out); (case side2 => exact GE182.out); (case side3 => repeat (first | (with_reducible first | exact HB.out | apply below_alloc | apply pw_below_drewN | apply below_drew1 | refine below_set ?_ GE170.out | refine below_set ?_ GE182.out) | exact HB.out)); rintro e w30 ⟨rfl, hi, hb, hkp⟩; replace BK170 := Goto.m0 (blk_kept (Goto.bx BK170) hkp (fun hs_ => Or.elim hs_ (fun hs_ => False.elim (show False from hs_)) (fun e_ => NB170_182.out e_))); replace HO179 := Goto.m0 (Kd.R_mono (ok' := fun k_ => True) (Kd.R_keptB ((Kd.R_types HO179.out BK182.out (by decide))) hkp (fun k_ hk_ hs_ => Or.elim hs_ (fun hs_ => False.elim (show False from hs_)) (fun e_ => (hk_.2) e_))) (fun k_ hk_ => trivial)); replace BK182 := Goto.m0 (hi); replace HB := Goto.m0 (hb); (try clear hb); (try clear hkp); (try simp only [errW_none, errW_some])) | (go_at_call 18; (with_reducible refine (wire_Reader_Err.calls gb182 t196 t197 t198 t199 t200 w _ ?side1 ?side2 ?side3 A27.out).mono ?_); (case side1 => exact by (with_reducible repeat first | refine blk_drewN ?_ _ | refine blk_drew ?_ | refine blk_alloc ?_ _); exact BK182.out); (case side2 => exact GE182.out); (case side3 => repeat (first | (with_reducible first | exact HB.out | apply below_alloc | apply pw_below_drewN | apply below_drew1 | refine below_set ?_ GE170.out | refine below_set ?_ GE182.out) | exact HB.out)); rintro e w31 ⟨rfl, hi, hb, hkp⟩; replace BK170 := Goto.m0 (blk_kept (Goto.bx BK170) hkp (fun hs_ => Or.elim hs_ (fun hs_ => False.elim (show False from hs_)) (fun e_ => NB170_182.out e_))); replace HO179 := Goto.m0 (Kd.R_mono (ok' := fun k_ => True) (Kd.R_keptB ((Kd.R_types HO179.out BK182.out (by decide))) hkp (fun k_ hk_ hs_ => Or.elim hs_ (fun hs_ => False.elim (show False from hs_)) (fun e_ => (hk_.2) e_))) (fun k_ hk_ => trivial)); replace BK182 := Goto.m0 (hi); replace HB := Goto.m0 (hb); (try clear hb); (try clear hkp); (try simp only [errW_none, errW_some]); have CA28 := fun W => errors_Is.calls t198 (some 11) t201 W A28.out; try simp only [errW_none, errW_some] at CA28) | (go_at_call 19; (with_reducible refine (CA28 _).mono ?_); rintro e w' ⟨rfl, ⟨nd, rfl⟩⟩))
       go_meet
       case rel => exact ⟨_, (!t201), (t199), (t200), (by first | rfl | (simp; done) | (simp [*]; done)), H', ⟨by first | omega | exact Nat.le_refl _⟩, ⟨Goto.rk HO179⟩, ⟨Goto.bx BK170⟩, ⟨Goto.bx BK182⟩, ⟨Goto.hx HB⟩⟩
      ·
       rw [if_neg c26] at H
       have c26b0 : (t195 == 0) = false := beq_eq_false_iff_ne.mpr c26
       have c26b1 : (t195 != 0) = true := bne_iff_ne.mpr c26
       (first | rw [c26b0] | (simp only [i64_w, i32_w]; rw [c26b0]) | skip)
       have H' := Goto.m0 H
       clear H
       go_wp2_with (first | ((with_reducible refine gate_callee (f := 18) rfl ?_); refine goesL_ (some 33) rfl rfl Try.func18 (by kernel_rfl) rfl #[.pointer (some ⟨gb182, 0, none⟩)] rfl (by (try simp only [List.map_toArray, List.map_cons, List.map_nil]); first | done | rfl | (simp only [List.length_drop, List.length_take]; rfl)) ?_; (with_reducible refine (wire_Reader_Err.calls gb182 t189 t190 none t192 t193 w _ ?side1 ?side2 ?side3 A24.out).mono ?_); (case side1 => exact by (with_reducible repeat first | refine blk_drewN ?_ _ | refine blk_drew ?_ | refine blk_alloc ?_ _); exact BK182.out); (case side2 => exact GE182.out); (case side3 => repeat (first | (with_reducible first | exact HB.out | apply below_alloc | apply pw_below_drewN | apply below_drew1 | refine below_set ?_ GE170.out | refine below_set ?_ GE182.out) | exact HB.out)); rintro e w32 ⟨rfl, hi, hb, hkp⟩; refine ⟨_, rfl, ?_⟩; replace BK170 := Goto.m0 (blk_kept (Goto.bx BK170) hkp (fun hs_ => Or.elim hs_ (fun hs_ => False.elim (show False from hs_)) (fun e_ => NB170_182.out e_))); replace HO179 := Goto.m0 (Kd.R_mono (ok' := fun k_ => True) (Kd.R_keptB ((Kd.R_types HO179.out BK182.out (by decide))) hkp (fun k_ hk_ hs_ => Or.elim hs_ (fun hs_ => False.elim (show False from hs_)) (fun e_ => (hk_.2) e_))) (fun k_ hk_ => trivial)); replace BK182 := Goto.m0 (hi); replace HB := Goto.m0 (hb); (try clear hb); (try clear hkp); (try simp only [errW_none, errW_some])) | (go_at_call 16; (with_reducible refine (wire_Reader_Bits.calls k gb182 t192 t193 t195 t196 t197 w _ ?side1 ?side2 ?side3 A25.out).mono ?_); (case side1 => exact by (with_reducible repeat first | refine blk_drewN ?_ _ | refine blk_drew ?_ | refine blk_alloc ?_ _); exact BK182.out); (case side2 => exact GE182.out); (case side3 => repeat (first | (with_reducible first | exact HB.out | apply below_alloc | apply pw_below_drewN | apply below_drew1 | refine below_set ?_ GE170.out | refine below_set ?_ GE182.out) | exact HB.out)); rintro e w33 ⟨rfl, hi, hb, hkp⟩; replace BK170 := Goto.m0 (blk_kept (Goto.bx BK170) hkp (fun hs_ => Or.elim hs_ (fun hs_ => False.elim (show False from hs_)) (fun e_ => NB170_182.out e_))); replace HO179 := Goto.m0 (Kd.R_mono (ok' := fun k_ => True) (Kd.R_keptB ((Kd.R_types HO179.out BK182.out (by decide))) hkp (fun k_ hk_ hs_ => Or.elim hs_ (fun hs_ => False.elim (show False from hs_)) (fun e_ => (hk_.2) e_))) (fun k_ hk_ => trivial)); replace BK182 := Goto.m0 (hi); replace HB := Goto.m0 (hb); (try clear hb); (try clear hkp); (try simp only [errW_none, errW_some])))
       go_meet
       case rel => exact ⟨_, (true), (t196), (t197), (by first | rfl | (simp; done) | (simp [*]; done)), H', ⟨by first | omega | exact Nat.le_refl _⟩, ⟨Goto.rk HO179⟩, ⟨Goto.bx BK170⟩, ⟨Goto.bx BK182⟩, ⟨Goto.hx HB⟩⟩
     ·
      have H1 : (tontinelaw2_WireStops.j0 k l1 true t192 t193) = some r := by rw [if_neg (show ¬ (some q194).isNone = true by simp)] at H; exact H
      clear H; have H := H1; clear H1
      try simp only [errW_none, errW_some]
      have H' := Goto.m0 H
      clear H
      go_wp2_with (first | ((with_reducible refine gate_callee (f := 18) rfl ?_); refine goesL_ (some 33) rfl rfl Try.func18 (by kernel_rfl) rfl #[.pointer (some ⟨gb182, 0, none⟩)] rfl (by (try simp only [List.map_toArray, List.map_cons, List.map_nil]); first | done | rfl | (simp only [List.length_drop, List.length_take]; rfl)) ?_; (with_reducible refine (wire_Reader_Err.calls gb182 t189 t190 (some q194) t192 t193 w _ ?side1 ?side2 ?side3 A24.out).mono ?_); (case side1 => exact by (with_reducible repeat first | refine blk_drewN ?_ _ | refine blk_drew ?_ | refine blk_alloc ?_ _); exact BK182.out); (case side2 => exact GE182.out); (case side3 => repeat (first | (with_reducible first | exact HB.out | apply below_alloc | apply pw_below_drewN | apply below_drew1 | refine below_set ?_ GE170.out | refine below_set ?_ GE182.out) | exact HB.out)); rintro e w34 ⟨rfl, hi, hb, hkp⟩; refine ⟨_, rfl, ?_⟩; replace BK170 := Goto.m0 (blk_kept (Goto.bx BK170) hkp (fun hs_ => Or.elim hs_ (fun hs_ => False.elim (show False from hs_)) (fun e_ => NB170_182.out e_))); replace HO179 := Goto.m0 (Kd.R_mono (ok' := fun k_ => True) (Kd.R_keptB ((Kd.R_types HO179.out BK182.out (by decide))) hkp (fun k_ hk_ hs_ => Or.elim hs_ (fun hs_ => False.elim (show False from hs_)) (fun e_ => (hk_.2) e_))) (fun k_ hk_ => trivial)); replace BK182 := Goto.m0 (hi); replace HB := Goto.m0 (hb); (try clear hb); (try clear hkp); (try simp only [errW_none, errW_some])))
      go_meet
      case rel => exact ⟨_, (true), (t192), (t193), (by first | rfl | (simp; done) | (simp [*]; done)), H', ⟨by first | omega | exact Nat.le_refl _⟩, ⟨Goto.rk HO179⟩, ⟨Goto.bx BK170⟩, ⟨Goto.bx BK182⟩, ⟨Goto.hx HB⟩⟩
    case rest =>
     clear HC15; try clear c1; try clear q1; try clear c2; try clear p2; try clear c4; try clear c5; try clear c5b0; try clear c5b1; try clear p6; try clear c9; try clear c10; try clear c11; try clear c12; try clear c13; try clear c13b0; try clear c13b1; try clear c14; try clear c15; try clear c16; try clear c18; try clear q19; try clear c26; try clear c26b0; try clear c26b1; try clear q194
     obtain ⟨kq, x46_14, x183000_14, x183001_14, rfl, HA, HJ14, HO_171000, BK170, BK182, HB⟩ := hcut
     cases kq with
     | zero => exact absurd HA.out (by simp [tontinelaw2_WireStops.j0])
     | succ kj14 =>
      have H := HA.out; clear HA
      simp only [tontinelaw2_WireStops.j0] at H
      by_cases c35 : x46_14 = true
      ·
       subst c35
       rw [if_pos rfl] at H
       exact absurd ((Option.some.inj H).trans HRT.out) (by decide)
      ·
       replace c35 := Bool.eq_false_iff.mpr c35
       subst c35
       rw [if_neg (show ¬ (false = true) by decide)] at H
       have H' := Goto.m0 H
       clear H
       go_wp2
       go_loopg [7] kj14 (fun kq v7 w' => ∃ (x7_2 : Int) (x183000_2 : ByteArray) (x183001_2 : Option Int), v7 = .int .i64 x7_2 ∧ Aside0 (tontinelaw2_WireStops.l0 kq l1 x7_2 x183000_2 x183001_2 = some r) ∧ Aside0 (kq ≤ kj14) ∧ Aside0 (Kd.R (Kd.int .u8) 5 w' w.heap.size (fun _ => True) v178 t181) ∧ Aside0 (w'.heap[gb170]? = some (.cells #[v178] 65 (0, 0))) ∧ Aside0 (w'.heap[gb182]? = some (.cells #[.string x183000_2, errW x183001_2] 68 (0, 0))) ∧ Aside0 (Below w.heap.size w w'))
       case atStart => exact ⟨(0), (x183000_14), (x183001_14), (by first | rfl | (simp; done) | (simp [*]; done)), H', ⟨Nat.le_refl _⟩, ⟨Goto.rk HO_171000⟩, ⟨Goto.bx BK170⟩, ⟨Goto.bx BK182⟩, ⟨Goto.hx HB⟩⟩
       case round =>
        clear H'
        try clear c1; try clear q1; try clear c2; try clear p2; try clear c3; try clear c4; try clear c5; try clear c5b0; try clear c5b1; try clear p6; try clear c9; try clear c10; try clear c11; try clear c12; try clear c13; try clear c13b0; try clear c13b1; try clear c14; try clear c15; try clear c16; try clear c18; try clear q19; try clear c26; try clear c26b0; try clear c26b1; try clear c35; try clear p2; try clear p6; try clear q1; try clear q19; try clear q194
        obtain ⟨x7_2, x183000_2, x183001_2, rfl, HA, HK2, HO_171000, BK170, BK182, HB⟩ := hrel
        cases gk with
        | zero => exact absurd HA.out (by simp [tontinelaw2_WireStops.l0])
        | succ k2 =>
         have H := HA.out; clear HA
         simp only [tontinelaw2_WireStops.l0] at H
         by_cases c36 : x7_2 < (l1.length : Int)
         ·
          rw [if_pos c36] at H
          have c36b0 : decide (x7_2 < (l1.length : Int)) = true := decide_eq_true c36
          clear c36
          have HC37 := Goto.m0 H
          clear H
          go_upto_region 17 with (fail)
          go_cut [49, 50, 57, 58, 59, 68, 69, 81, 82, 93] (fun v49 v50 v57 v58 v59 v68 v69 v81 v82 v93 wc => ∃ (kq : Nat) (x93_36 : Bool) (x183000_36 : ByteArray) (x183001_36 : Option Int), v93 = .bool x93_36 ∧ Aside0 (tontinelaw2_WireStops.j2 kq l1 x7_2 x93_36 x183000_36 x183001_36 = some r) ∧ Aside0 (kq ≤ k2) ∧ Aside0 (Kd.R (Kd.int .u8) 5 wc w.heap.size (fun _ => True) v178 t181) ∧ Aside0 (wc.heap[gb170]? = some (.cells #[v178] 65 (0, 0))) ∧ Aside0 (wc.heap[gb182]? = some (.cells #[.string x183000_36, errW x183001_36] 68 (0, 0))) ∧ Aside0 (Below w.heap.size w wc))
          case first =>
           have H := HC37.out; clear HC37
           by_cases c38 : 0 ≤ x7_2
           ·
            rw [if_pos c38] at H
            have c38b0 : decide (0 ≤ x7_2) = true := decide_eq_true c38
            clear c38
            (first | rw [c38b0] | (simp only [i64_w, i32_w]; rw [c38b0]) | skip)
            by_cases c39 : ((rd_T46 l1 x7_2).f0) = 0
            ·
             rw [if_pos c39] at H
             have c39b0 : (((rd_T46 l1 x7_2).f0) == 0) = true := beq_iff_eq.mpr c39
             have c39b1 : (((rd_T46 l1 x7_2).f0) != 0) = false := bne_eq_false_iff_eq.mpr c39
             clear c39
             replace H := Option.bind_eq_some_iff.mp H
             obtain ⟨⟨t204, t205, t206⟩, A400, H⟩ := H
             replace H : (if t204 = 0 then ((wire_Reader_Err.f t205 t206).bind fun bt208 => ((errors_Is.f bt208.1 (some 11)).bind fun t211 => (if t211 = true then ((wire_Reader_Left.f bt208.2.1 bt208.2.2).bind fun bt212 => (tontinelaw2_WireStops.j2 k2 l1 x7_2 (bt212.1 != 0) bt212.2.1 bt212.2.2)) else (tontinelaw2_WireStops.j2 k2 l1 x7_2 true bt208.2.1 bt208.2.2)))) else (tontinelaw2_WireStops.j2 k2 l1 x7_2 true t205 t206)) = some r := H
             have A40 := Goto.m0 A400
             clear A400
             by_cases c41 : t204 = 0
             ·
              rw [if_pos c41] at H
              have c41b0 : (t204 == 0) = true := beq_iff_eq.mpr c41
              have c41b1 : (t204 != 0) = false := bne_eq_false_iff_eq.mpr c41
              clear c41
              replace H := Option.bind_eq_some_iff.mp H
              obtain ⟨⟨t208, t209, t210⟩, A420, H⟩ := H
              replace H : ((errors_Is.f t208 (some 11)).bind fun t211 => (if t211 = true then ((wire_Reader_Left.f t209 t210).bind fun bt212 => (tontinelaw2_WireStops.j2 k2 l1 x7_2 (bt212.1 != 0) bt212.2.1 bt212.2.2)) else (tontinelaw2_WireStops.j2 k2 l1 x7_2 true t209 t210))) = some r := H
              have A42 := Goto.m0 A420
              clear A420
              replace H := Option.bind_eq_some_iff.mp H
              obtain ⟨t211, A430, H⟩ := H
              have A43 := Goto.m0 A430
              clear A430
              by_cases c44 : t211 = true
              ·
               subst c44
               rw [if_pos rfl] at H
               replace H := Option.bind_eq_some_iff.mp H
               obtain ⟨⟨t212, t213, t214⟩, A450, H⟩ := H
               replace H : (tontinelaw2_WireStops.j2 k2 l1 x7_2 (t212 != 0) t213 t214) = some r := H
               have A45 := Goto.m0 A450
               clear A450
               have H' := Goto.m0 H
               clear H
               have p202 : 0 ≤ (x7_2 : Int) := Goto.od
               have q202 : x7_2 < (l1.length : Int) := Goto.od
               obtain ⟨ad202, e202, hx202_0, hx202_1⟩ := at_T46 HR1.out x7_2 p202 q202
               cases e202
               replace hx202_0 := Goto.kc HB.out hx202_0
               replace hx202_1 := Goto.kc HB.out hx202_1
               replace p202 := eq_true p202; replace q202 := eq_true q202
               have p203 : 0 ≤ (x7_2 : Int) := Goto.od
               have q203 : x7_2 < (l1.length : Int) := Goto.od
               obtain ⟨ad203, e203, hx203_0, hx203_1⟩ := at_T46 HR1.out x7_2 p203 q203
               obtain rfl : ad202 = ad203 := (by injection e203)
               replace hx203_0 := Goto.kc HB.out hx203_0
               replace hx203_1 := Goto.kc HB.out hx203_1
               replace p203 := eq_true p203; replace q203 := eq_true q203
               go_wp2_with (first | (go_at_call 15; (with_reducible refine (wire_Reader_Num.calls k2 gb182 x183000_2 x183001_2 ((rd_T46 l1 x7_2).f1) t204 t205 t206 w _ ?side1 ?side2 ?side3 A40.out).mono ?_); (case side1 => exact by (with_reducible repeat first | refine blk_drewN ?_ _ | refine blk_drew ?_ | refine blk_alloc ?_ _); exact BK182.out); (case side2 => exact GE182.out); (case side3 => repeat (first | (with_reducible first | exact HB.out | apply below_alloc | apply pw_below_drewN | apply below_drew1 | refine below_set ?_ GE170.out | refine below_set ?_ GE182.out) | exact HB.out)); rintro e w46 ⟨rfl, hi, hb, hkp⟩; replace HO_171000 := Goto.m0 (Kd.R_mono (ok' := fun k_ => True) (Kd.R_keptB ((Kd.R_types HO_171000.out BK182.out (by decide))) hkp (fun k_ hk_ hs_ => Or.elim hs_ (fun hs_ => False.elim (show False from hs_)) (fun e_ => (hk_.2) e_))) (fun k_ hk_ => trivial)); replace BK170 := Goto.m0 (blk_kept (Goto.bx BK170) hkp (fun hs_ => Or.elim hs_ (fun hs_ => False.elim (show False from hs_)) (fun e_ => NB170_182.out e_))); replace BK182 := Goto.m0 (hi); replace HB := Goto.m0 (hb); (try clear hb); (try clear hkp); (try simp only [errW_none, errW_some]); have p207 : 0 ≤ (x7_2 : Int) := Goto.od; have q207 : x7_2 < (l1.length : Int) := Goto.od; obtain ⟨ad207, e207, hx207_0, hx207_1⟩ := at_T46 HR1.out x7_2 p207 q207; obtain rfl : ad202 = ad207 := (by injection e207); replace hx207_0 := Goto.kc HB.out hx207_0; replace hx207_1 := Goto.kc HB.out hx207_1; replace p207 := eq_true p207; replace q207 := eq_true q207) | (go_at_call 18; (with_reducible refine (wire_Reader_Err.calls gb182 t205 t206 t208 t209 t210 w _ ?side1 ?side2 ?side3 A42.out).mono ?_); (case side1 => exact by (with_reducible repeat first | refine blk_drewN ?_ _ | refine blk_drew ?_ | refine blk_alloc ?_ _); exact BK182.out); (case side2 => exact GE182.out); (case side3 => repeat (first | (with_reducible first | exact HB.out | apply below_alloc | apply pw_below_drewN | apply below_drew1 | refine below_set ?_ GE170.out | refine below_set ?_ GE182.out) | exact HB.out)); rintro e w47 ⟨rfl, hi, hb, hkp⟩; replace HO_171000 := Goto.m0 (Kd.R_mono (ok' := fun k_ => True) (Kd.R_keptB ((Kd.R_types HO_171000.out BK182.out (by decide))) hkp (fun k_ hk_ hs_ => Or.elim hs_ (fun hs_ => False.elim (show False from hs_)) (fun e_ => (hk_.2) e_))) (fun k_ hk_ => trivial)); replace BK170 := Goto.m0 (blk_kept (Goto.bx BK170) hkp (fun hs_ => Or.elim hs_ (fun hs_ => False.elim (show False from hs_)) (fun e_ => NB170_182.out e_))); replace BK182 := Goto.m0 (hi); replace HB := Goto.m0 (hb); (try clear hb); (try clear hkp); (try simp only [errW_none, errW_some]); have CA43 := fun W => errors_Is.calls t208 (some 11) true W A43.out; try simp only [errW_none, errW_some] at CA43) | (go_at_call 19; (with_reducible refine (CA43 _).mono ?_); rintro e w' ⟨rfl, ⟨nd, rfl⟩⟩) | (go_at_call 17; (with_reducible refine (wire_Reader_Left.calls gb182 t209 t210 t212 t213 t214 w _ ?side1 ?side2 ?side3 A45.out).mono ?_); (case side1 => exact by (with_reducible repeat first | refine blk_drewN ?_ _ | refine blk_drew ?_ | refine blk_alloc ?_ _); exact BK182.out); (case side2 => exact GE182.out); (case side3 => repeat (first | (with_reducible first | exact HB.out | apply below_alloc | apply pw_below_drewN | apply below_drew1 | refine below_set ?_ GE170.out | refine below_set ?_ GE182.out) | exact HB.out)); rintro e w48 ⟨rfl, hi, hb, hkp⟩; replace HO_171000 := Goto.m0 (Kd.R_mono (ok' := fun k_ => True) (Kd.R_keptB ((Kd.R_types HO_171000.out BK182.out (by decide))) hkp (fun k_ hk_ hs_ => Or.elim hs_ (fun hs_ => False.elim (show False from hs_)) (fun e_ => (hk_.2) e_))) (fun k_ hk_ => trivial)); replace BK170 := Goto.m0 (blk_kept (Goto.bx BK170) hkp (fun hs_ => Or.elim hs_ (fun hs_ => False.elim (show False from hs_)) (fun e_ => NB170_182.out e_))); replace BK182 := Goto.m0 (hi); replace HB := Goto.m0 (hb); (try clear hb); (try clear hkp); (try simp only [errW_none, errW_some])))
               go_meet
               case rel => exact ⟨_, ((t212 != 0)), (t213), (t214), (by first | rfl | (simp; done) | (simp [*]; done)), H', ⟨by have := HJ14.out; have := HK2.out; first | omega | exact Nat.le_refl _⟩, ⟨Goto.rk HO_171000⟩, ⟨Goto.bx BK170⟩, ⟨Goto.bx BK182⟩, ⟨Goto.hx HB⟩⟩
              ·
               replace c44 := Bool.eq_false_iff.mpr c44
               subst c44
               rw [if_neg (show ¬ (false = true) by decide)] at H
               have H' := Goto.m0 H
               clear H
               have p202 : 0 ≤ (x7_2 : Int) := Goto.od
               have q202 : x7_2 < (l1.length : Int) := Goto.od
               obtain ⟨ad202, e202, hx202_0, hx202_1⟩ := at_T46 HR1.out x7_2 p202 q202
               cases e202
               replace hx202_0 := Goto.kc HB.out hx202_0
               replace hx202_1 := Goto.kc HB.out hx202_1
               replace p202 := eq_true p202; replace q202 := eq_true q202
               have p203 : 0 ≤ (x7_2 : Int) := Goto.od
               have q203 : x7_2 < (l1.length : Int) := Goto.od
               obtain ⟨ad203, e203, hx203_0, hx203_1⟩ := at_T46 HR1.out x7_2 p203 q203
               obtain rfl : ad202 = ad203 := (by injection e203)
               replace hx203_0 := Goto.kc HB.out hx203_0
               replace hx203_1 := Goto.kc HB.out hx203_1
               replace p203 := eq_true p203; replace q203 := eq_true q203
               go_wp2_with (first | (go_at_call 15; (with_reducible refine (wire_Reader_Num.calls k2 gb182 x183000_2 x183001_2 ((rd_T46 l1 x7_2).f1) t204 t205 t206 w _ ?side1 ?side2 ?side3 A40.out).mono ?_); (case side1 => exact by (with_reducible repeat first | refine blk_drewN ?_ _ | refine blk_drew ?_ | refine blk_alloc ?_ _); exact BK182.out); (case side2 => exact GE182.out); (case side3 => repeat (first | (with_reducible first | exact HB.out | apply below_alloc | apply pw_below_drewN | apply below_drew1 | refine below_set ?_ GE170.out | refine below_set ?_ GE182.out) | exact HB.out)); rintro e w49 ⟨rfl, hi, hb, hkp⟩; replace HO_171000 := Goto.m0 (Kd.R_mono (ok' := fun k_ => True) (Kd.R_keptB ((Kd.R_types HO_171000.out BK182.out (by decide))) hkp (fun k_ hk_ hs_ => Or.elim hs_ (fun hs_ => False.elim (show False from hs_)) (fun e_ => (hk_.2) e_))) (fun k_ hk_ => trivial)); replace BK170 := Goto.m0 (blk_kept (Goto.bx BK170) hkp (fun hs_ => Or.elim hs_ (fun hs_ => False.elim (show False from hs_)) (fun e_ => NB170_182.out e_))); replace BK182 := Goto.m0 (hi); replace HB := Goto.m0 (hb); (try clear hb); (try clear hkp); (try simp only [errW_none, errW_some]); have p207 : 0 ≤ (x7_2 : Int) := Goto.od; have q207 : x7_2 < (l1.length : Int) := Goto.od; obtain ⟨ad207, e207, hx207_0, hx207_1⟩ := at_T46 HR1.out x7_2 p207 q207; obtain rfl : ad202 = ad207 := (by injection e207); replace hx207_0 := Goto.kc HB.out hx207_0; replace hx207_1 := Goto.kc HB.out hx207_1; replace p207 := eq_true p207; replace q207 := eq_true q207) | (go_at_call 18; (with_reducible refine (wire_Reader_Err.calls gb182 t205 t206 t208 t209 t210 w _ ?side1 ?side2 ?side3 A42.out).mono ?_); (case side1 => exact by (with_reducible repeat first | refine blk_drewN ?_ _ | refine blk_drew ?_ | refine blk_alloc ?_ _); exact BK182.out); (case side2 => exact GE182.out); (case side3 => repeat (first | (with_reducible first | exact HB.out | apply below_alloc | apply pw_below_drewN | apply below_drew1 | refine below_set ?_ GE170.out | refine below_set ?_ GE182.out) | exact HB.out)); rintro e w50 ⟨rfl, hi, hb, hkp⟩; replace HO_171000 := Goto.m0 (Kd.R_mono (ok' := fun k_ => True) (Kd.R_keptB ((Kd.R_types HO_171000.out BK182.out (by decide))) hkp (fun k_ hk_ hs_ => Or.elim hs_ (fun hs_ => False.elim (show False from hs_)) (fun e_ => (hk_.2) e_))) (fun k_ hk_ => trivial)); replace BK170 := Goto.m0 (blk_kept (Goto.bx BK170) hkp (fun hs_ => Or.elim hs_ (fun hs_ => False.elim (show False from hs_)) (fun e_ => NB170_182.out e_))); replace BK182 := Goto.m0 (hi); replace HB := Goto.m0 (hb); (try clear hb); (try clear hkp); (try simp only [errW_none, errW_some]); have CA43 := fun W => errors_Is.calls t208 (some 11) false W A43.out; try simp only [errW_none, errW_some] at CA43) | (go_at_call 19; (with_reducible refine (CA43 _).mono ?_); rintro e w' ⟨rfl, ⟨nd, rfl⟩⟩))
               go_meet
               case rel => exact ⟨_, (true), (t209), (t210), (by first | rfl | (simp; done) | (simp [*]; done)), H', ⟨by have := HJ14.out; have := HK2.out; first | omega | exact Nat.le_refl _⟩, ⟨Goto.rk HO_171000⟩, ⟨Goto.bx BK170⟩, ⟨Goto.bx BK182⟩, ⟨Goto.hx HB⟩⟩
             ·
              rw [if_neg c41] at H
              have c41b0 : (t204 == 0) = false := beq_eq_false_iff_ne.mpr c41
              have c41b1 : (t204 != 0) = true := bne_iff_ne.mpr c41
              have H' := Goto.m0 H
              clear H
              have p202 : 0 ≤ (x7_2 : Int) := Goto.od
              have q202 : x7_2 < (l1.length : Int) := Goto.od
              obtain ⟨ad202, e202, hx202_0, hx202_1⟩ := at_T46 HR1.out x7_2 p202 q202
              cases e202
              replace hx202_0 := Goto.kc HB.out hx202_0
              replace hx202_1 := Goto.kc HB.out hx202_1
              replace p202 := eq_true p202; replace q202 := eq_true q202
              have p203 : 0 ≤ (x7_2 : Int) := Goto.od
              have q203 : x7_2 < (l1.length : Int) := Goto.od
              obtain ⟨ad203, e203, hx203_0, hx203_1⟩ := at_T46 HR1.out x7_2 p203 q203
              obtain rfl : ad202 = ad203 := (by injection e203)
              replace hx203_0 := Goto.kc HB.out hx203_0
              replace hx203_1 := Goto.kc HB.out hx203_1
              replace p203 := eq_true p203; replace q203 := eq_true q203
              go_wp2_with (first | (go_at_call 15; (with_reducible refine (wire_Reader_Num.calls k2 gb182 x183000_2 x183001_2 ((rd_T46 l1 x7_2).f1) t204 t205 t206 w _ ?side1 ?side2 ?side3 A40.out).mono ?_); (case side1 => exact by (with_reducible repeat first | refine blk_drewN ?_ _ | refine blk_drew ?_ | refine blk_alloc ?_ _); exact BK182.out); (case side2 => exact GE182.out); (case side3 => repeat (first | (with_reducible first | exact HB.out | apply below_alloc | apply pw_below_drewN | apply below_drew1 | refine below_set ?_ GE170.out | refine below_set ?_ GE182.out) | exact HB.out)); rintro e w51 ⟨rfl, hi, hb, hkp⟩; replace HO_171000 := Goto.m0 (Kd.R_mono (ok' := fun k_ => True) (Kd.R_keptB ((Kd.R_types HO_171000.out BK182.out (by decide))) hkp (fun k_ hk_ hs_ => Or.elim hs_ (fun hs_ => False.elim (show False from hs_)) (fun e_ => (hk_.2) e_))) (fun k_ hk_ => trivial)); replace BK170 := Goto.m0 (blk_kept (Goto.bx BK170) hkp (fun hs_ => Or.elim hs_ (fun hs_ => False.elim (show False from hs_)) (fun e_ => NB170_182.out e_))); replace BK182 := Goto.m0 (hi); replace HB := Goto.m0 (hb); (try clear hb); (try clear hkp); (try simp only [errW_none, errW_some])))
              go_meet
              case rel => exact ⟨_, (true), (t205), (t206), (by first | rfl | (simp; done) | (simp [*]; done)), H', ⟨by have := HJ14.out; have := HK2.out; first | omega | exact Nat.le_refl _⟩, ⟨Goto.rk HO_171000⟩, ⟨Goto.bx BK170⟩, ⟨Goto.bx BK182⟩, ⟨Goto.hx HB⟩⟩
            ·
             rw [if_neg c39] at H
             have c39b0 : (((rd_T46 l1 x7_2).f0) == 0) = false := beq_eq_false_iff_ne.mpr c39
             have c39b1 : (((rd_T46 l1 x7_2).f0) != 0) = true := bne_iff_ne.mpr c39
             replace H := Option.bind_eq_some_iff.mp H
             obtain ⟨⟨t216, t217, t218⟩, A520, H⟩ := H
             replace H : (if t216 = 0 then ((wire_Reader_Err.f t217 t218).bind fun bt219 => ((errors_Is.f bt219.1 (some 11)).bind fun t222 => (if t222 = true then ((wire_Reader_Left.f bt219.2.1 bt219.2.2).bind fun bt223 => (tontinelaw2_WireStops.j2 k2 l1 x7_2 (bt223.1 != 0) bt223.2.1 bt223.2.2)) else (tontinelaw2_WireStops.j2 k2 l1 x7_2 true bt219.2.1 bt219.2.2)))) else (tontinelaw2_WireStops.j2 k2 l1 x7_2 true t217 t218)) = some r := H
             have A52 := Goto.m0 A520
             clear A520
             by_cases c53 : t216 = 0
             ·
              rw [if_pos c53] at H
              have c53b0 : (t216 == 0) = true := beq_iff_eq.mpr c53
              have c53b1 : (t216 != 0) = false := bne_eq_false_iff_eq.mpr c53
              clear c53
              replace H := Option.bind_eq_some_iff.mp H
              obtain ⟨⟨t219, t220, t221⟩, A540, H⟩ := H
              replace H : ((errors_Is.f t219 (some 11)).bind fun t222 => (if t222 = true then ((wire_Reader_Left.f t220 t221).bind fun bt223 => (tontinelaw2_WireStops.j2 k2 l1 x7_2 (bt223.1 != 0) bt223.2.1 bt223.2.2)) else (tontinelaw2_WireStops.j2 k2 l1 x7_2 true t220 t221))) = some r := H
              have A54 := Goto.m0 A540
              clear A540
              replace H := Option.bind_eq_some_iff.mp H
              obtain ⟨t222, A550, H⟩ := H
              have A55 := Goto.m0 A550
              clear A550
              by_cases c56 : t222 = true
              ·
               subst c56
               rw [if_pos rfl] at H
               replace H := Option.bind_eq_some_iff.mp H
               obtain ⟨⟨t223, t224, t225⟩, A570, H⟩ := H
               replace H : (tontinelaw2_WireStops.j2 k2 l1 x7_2 (t223 != 0) t224 t225) = some r := H
               have A57 := Goto.m0 A570
               clear A570
               have H' := Goto.m0 H
               clear H
               have p202 : 0 ≤ (x7_2 : Int) := Goto.od
               have q202 : x7_2 < (l1.length : Int) := Goto.od
               obtain ⟨ad202, e202, hx202_0, hx202_1⟩ := at_T46 HR1.out x7_2 p202 q202
               cases e202
               replace hx202_0 := Goto.kc HB.out hx202_0
               replace hx202_1 := Goto.kc HB.out hx202_1
               replace p202 := eq_true p202; replace q202 := eq_true q202
               have p215 : 0 ≤ (x7_2 : Int) := Goto.od
               have q215 : x7_2 < (l1.length : Int) := Goto.od
               obtain ⟨ad215, e215, hx215_0, hx215_1⟩ := at_T46 HR1.out x7_2 p215 q215
               obtain rfl : ad202 = ad215 := (by injection e215)
               replace hx215_0 := Goto.kc HB.out hx215_0
               replace hx215_1 := Goto.kc HB.out hx215_1
               replace p215 := eq_true p215; replace q215 := eq_true q215
               go_wp2_with (first | (go_at_call 16; (with_reducible refine (wire_Reader_Bits.calls k2 gb182 x183000_2 x183001_2 t216 t217 t218 w _ ?side1 ?side2 ?side3 A52.out).mono ?_); (case side1 => exact by (with_reducible repeat first | refine blk_drewN ?_ _ | refine blk_drew ?_ | refine blk_alloc ?_ _); exact BK182.out); (case side2 => exact GE182.out); (case side3 => repeat (first | (with_reducible first | exact HB.out | apply below_alloc | apply pw_below_drewN | apply below_drew1 | refine below_set ?_ GE170.out | refine below_set ?_ GE182.out) | exact HB.out)); rintro e w58 ⟨rfl, hi, hb, hkp⟩; replace HO_171000 := Goto.m0 (Kd.R_mono (ok' := fun k_ => True) (Kd.R_keptB ((Kd.R_types HO_171000.out BK182.out (by decide))) hkp (fun k_ hk_ hs_ => Or.elim hs_ (fun hs_ => False.elim (show False from hs_)) (fun e_ => (hk_.2) e_))) (fun k_ hk_ => trivial)); replace BK170 := Goto.m0 (blk_kept (Goto.bx BK170) hkp (fun hs_ => Or.elim hs_ (fun hs_ => False.elim (show False from hs_)) (fun e_ => NB170_182.out e_))); replace BK182 := Goto.m0 (hi); replace HB := Goto.m0 (hb); (try clear hb); (try clear hkp); (try simp only [errW_none, errW_some])) | (go_at_call 18; (with_reducible refine (wire_Reader_Err.calls gb182 t217 t218 t219 t220 t221 w _ ?side1 ?side2 ?side3 A54.out).mono ?_); (case side1 => exact by (with_reducible repeat first | refine blk_drewN ?_ _ | refine blk_drew ?_ | refine blk_alloc ?_ _); exact BK182.out); (case side2 => exact GE182.out); (case side3 => repeat (first | (with_reducible first | exact HB.out | apply below_alloc | apply pw_below_drewN | apply below_drew1 | refine below_set ?_ GE170.out | refine below_set ?_ GE182.out) | exact HB.out)); rintro e w59 ⟨rfl, hi, hb, hkp⟩; replace HO_171000 := Goto.m0 (Kd.R_mono (ok' := fun k_ => True) (Kd.R_keptB ((Kd.R_types HO_171000.out BK182.out (by decide))) hkp (fun k_ hk_ hs_ => Or.elim hs_ (fun hs_ => False.elim (show False from hs_)) (fun e_ => (hk_.2) e_))) (fun k_ hk_ => trivial)); replace BK170 := Goto.m0 (blk_kept (Goto.bx BK170) hkp (fun hs_ => Or.elim hs_ (fun hs_ => False.elim (show False from hs_)) (fun e_ => NB170_182.out e_))); replace BK182 := Goto.m0 (hi); replace HB := Goto.m0 (hb); (try clear hb); (try clear hkp); (try simp only [errW_none, errW_some]); have CA55 := fun W => errors_Is.calls t219 (some 11) true W A55.out; try simp only [errW_none, errW_some] at CA55) | (go_at_call 19; (with_reducible refine (CA55 _).mono ?_); rintro e w' ⟨rfl, ⟨nd, rfl⟩⟩) | (go_at_call 17; (with_reducible refine (wire_Reader_Left.calls gb182 t220 t221 t223 t224 t225 w _ ?side1 ?side2 ?side3 A57.out).mono ?_); (case side1 => exact by (with_reducible repeat first | refine blk_drewN ?_ _ | refine blk_drew ?_ | refine blk_alloc ?_ _); exact BK182.out); (case side2 => exact GE182.out); (case side3 => repeat (first | (with_reducible first | exact HB.out | apply below_alloc | apply pw_below_drewN | apply below_drew1 | refine below_set ?_ GE170.out | refine below_set ?_ GE182.out) | exact HB.out)); rintro e w60 ⟨rfl, hi, hb, hkp⟩; replace HO_171000 := Goto.m0 (Kd.R_mono (ok' := fun k_ => True) (Kd.R_keptB ((Kd.R_types HO_171000.out BK182.out (by decide))) hkp (fun k_ hk_ hs_ => Or.elim hs_ (fun hs_ => False.elim (show False from hs_)) (fun e_ => (hk_.2) e_))) (fun k_ hk_ => trivial)); replace BK170 := Goto.m0 (blk_kept (Goto.bx BK170) hkp (fun hs_ => Or.elim hs_ (fun hs_ => False.elim (show False from hs_)) (fun e_ => NB170_182.out e_))); replace BK182 := Goto.m0 (hi); replace HB := Goto.m0 (hb); (try clear hb); (try clear hkp); (try simp only [errW_none, errW_some])))
               go_meet
               case rel => exact ⟨_, ((t223 != 0)), (t224), (t225), (by first | rfl | (simp; done) | (simp [*]; done)), H', ⟨by have := HJ14.out; have := HK2.out; first | omega | exact Nat.le_refl _⟩, ⟨Goto.rk HO_171000⟩, ⟨Goto.bx BK170⟩, ⟨Goto.bx BK182⟩, ⟨Goto.hx HB⟩⟩
              ·
               replace c56 := Bool.eq_false_iff.mpr c56
               subst c56
               rw [if_neg (show ¬ (false = true) by decide)] at H
               have H' := Goto.m0 H
               clear H
               have p202 : 0 ≤ (x7_2 : Int) := Goto.od
               have q202 : x7_2 < (l1.length : Int) := Goto.od
               obtain ⟨ad202, e202, hx202_0, hx202_1⟩ := at_T46 HR1.out x7_2 p202 q202
               cases e202
               replace hx202_0 := Goto.kc HB.out hx202_0
               replace hx202_1 := Goto.kc HB.out hx202_1
               replace p202 := eq_true p202; replace q202 := eq_true q202
               have p215 : 0 ≤ (x7_2 : Int) := Goto.od
               have q215 : x7_2 < (l1.length : Int) := Goto.od
               obtain ⟨ad215, e215, hx215_0, hx215_1⟩ := at_T46 HR1.out x7_2 p215 q215
               obtain rfl : ad202 = ad215 := (by injection e215)
               replace hx215_0 := Goto.kc HB.out hx215_0
               replace hx215_1 := Goto.kc HB.out hx215_1
               replace p215 := eq_true p215; replace q215 := eq_true q215
               go_wp2_with (first | (go_at_call 16; (with_reducible refine (wire_Reader_Bits.calls k2 gb182 x183000_2 x183001_2 t216 t217 t218 w _ ?side1 ?side2 ?side3 A52.out).mono ?_); (case side1 => exact by (with_reducible repeat first | refine blk_drewN ?_ _ | refine blk_drew ?_ | refine blk_alloc ?_ _); exact BK182.out); (case side2 => exact GE182.out); (case side3 => repeat (first | (with_reducible first | exact HB.out | apply below_alloc | apply pw_below_drewN | apply below_drew1 | refine below_set ?_ GE170.out | refine below_set ?_ GE182.out) | exact HB.out)); rintro e w61 ⟨rfl, hi, hb, hkp⟩; replace HO_171000 := Goto.m0 (Kd.R_mono (ok' := fun k_ => True) (Kd.R_keptB ((Kd.R_types HO_171000.out BK182.out (by decide))) hkp (fun k_ hk_ hs_ => Or.elim hs_ (fun hs_ => False.elim (show False from hs_)) (fun e_ => (hk_.2) e_))) (fun k_ hk_ => trivial)); replace BK170 := Goto.m0 (blk_kept (Goto.bx BK170) hkp (fun hs_ => Or.elim hs_ (fun hs_ => False.elim (show False from hs_)) (fun e_ => NB170_182.out e_))); replace BK182 := Goto.m0 (hi); replace HB := Goto.m0 (hb); (try clear hb); (try clear hkp); (try simp only [errW_none, errW_some])) | (go_at_call 18; (with_reducible refine (wire_Reader_Err.calls gb182 t217 t218 t219 t220 t221 w _ ?side1 ?side2 ?side3 A54.out).mono ?_); (case side1 => exact by (with_reducible repeat first | refine blk_drewN ?_ _ | refine blk_drew ?_ | refine blk_alloc ?_ _); exact BK182.out); (case side2 => exact GE182.out); (case side3 => repeat (first | (with_reducible first | exact HB.out | apply below_alloc | apply pw_below_drewN | apply below_drew1 | refine below_set ?_ GE170.out | refine below_set ?_ GE182.out) | exact HB.out)); rintro e w62 ⟨rfl, hi, hb, hkp⟩; replace HO_171000 := Goto.m0 (Kd.R_mono (ok' := fun k_ => True) (Kd.R_keptB ((Kd.R_types HO_171000.out BK182.out (by decide))) hkp (fun k_ hk_ hs_ => Or.elim hs_ (fun hs_ => False.elim (show False from hs_)) (fun e_ => (hk_.2) e_))) (fun k_ hk_ => trivial)); replace BK170 := Goto.m0 (blk_kept (Goto.bx BK170) hkp (fun hs_ => Or.elim hs_ (fun hs_ => False.elim (show False from hs_)) (fun e_ => NB170_182.out e_))); replace BK182 := Goto.m0 (hi); replace HB := Goto.m0 (hb); (try clear hb); (try clear hkp); (try simp only [errW_none, errW_some]); have CA55 := fun W => errors_Is.calls t219 (some 11) false W A55.out; try simp only [errW_none, errW_some] at CA55) | (go_at_call 19; (with_reducible refine (CA55 _).mono ?_); rintro e w' ⟨rfl, ⟨nd, rfl⟩⟩))
               go_meet
               case rel => exact ⟨_, (true), (t220), (t221), (by first | rfl | (simp; done) | (simp [*]; done)), H', ⟨by have := HJ14.out; have := HK2.out; first | omega | exact Nat.le_refl _⟩, ⟨Goto.rk HO_171000⟩, ⟨Goto.bx BK170⟩, ⟨Goto.bx BK182⟩, ⟨Goto.hx HB⟩⟩
             ·
              rw [if_neg c53] at H
              have c53b0 : (t216 == 0) = false := beq_eq_false_iff_ne.mpr c53
              have c53b1 : (t216 != 0) = true := bne_iff_ne.mpr c53
              have H' := Goto.m0 H
              clear H
              have p202 : 0 ≤ (x7_2 : Int) := Goto.od
              have q202 : x7_2 < (l1.length : Int) := Goto.od
              obtain ⟨ad202, e202, hx202_0, hx202_1⟩ := at_T46 HR1.out x7_2 p202 q202
              cases e202
              replace hx202_0 := Goto.kc HB.out hx202_0
              replace hx202_1 := Goto.kc HB.out hx202_1
              replace p202 := eq_true p202; replace q202 := eq_true q202
              have p215 : 0 ≤ (x7_2 : Int) := Goto.od
              have q215 : x7_2 < (l1.length : Int) := Goto.od
              obtain ⟨ad215, e215, hx215_0, hx215_1⟩ := at_T46 HR1.out x7_2 p215 q215
              obtain rfl : ad202 = ad215 := (by injection e215)
              replace hx215_0 := Goto.kc HB.out hx215_0
              replace hx215_1 := Goto.kc HB.out hx215_1
              replace p215 := eq_true p215; replace q215 := eq_true q215
              go_wp2_with (first | (go_at_call 16; (with_reducible refine (wire_Reader_Bits.calls k2 gb182 x183000_2 x183001_2 t216 t217 t218 w _ ?side1 ?side2 ?side3 A52.out).mono ?_); (case side1 => exact by (with_reducible repeat first | refine blk_drewN ?_ _ | refine blk_drew ?_ | refine blk_alloc ?_ _); exact BK182.out); (case side2 => exact GE182.out); (case side3 => repeat (first | (with_reducible first | exact HB.out | apply below_alloc | apply pw_below_drewN | apply below_drew1 | refine below_set ?_ GE170.out | refine below_set ?_ GE182.out) | exact HB.out)); rintro e w63 ⟨rfl, hi, hb, hkp⟩; replace HO_171000 := Goto.m0 (Kd.R_mono (ok' := fun k_ => True) (Kd.R_keptB ((Kd.R_types HO_171000.out BK182.out (by decide))) hkp (fun k_ hk_ hs_ => Or.elim hs_ (fun hs_ => False.elim (show False from hs_)) (fun e_ => (hk_.2) e_))) (fun k_ hk_ => trivial)); replace BK170 := Goto.m0 (blk_kept (Goto.bx BK170) hkp (fun hs_ => Or.elim hs_ (fun hs_ => False.elim (show False from hs_)) (fun e_ => NB170_182.out e_))); replace BK182 := Goto.m0 (hi); replace HB := Goto.m0 (hb); (try clear hb); (try clear hkp); (try simp only [errW_none, errW_some])))
              go_meet
              case rel => exact ⟨_, (true), (t217), (t218), (by first | rfl | (simp; done) | (simp [*]; done)), H', ⟨by have := HJ14.out; have := HK2.out; first | omega | exact Nat.le_refl _⟩, ⟨Goto.rk HO_171000⟩, ⟨Goto.bx BK170⟩, ⟨Goto.bx BK182⟩, ⟨Goto.hx HB⟩⟩
           ·
            rw [if_neg c38] at H
            exact absurd H (by simp)
          case rest =>
           clear HC37; try clear c1; try clear q1; try clear c2; try clear p2; try clear q2; try clear hx2; try clear c3; try clear c4; try clear c5; try clear c5b0; try clear c5b1; try clear p6; try clear c9; try clear c10; try clear c11; try clear c12; try clear c13; try clear c13b0; try clear c13b1; try clear c14; try clear c15; try clear c16; try clear c18; try clear q19; try clear p20; try clear q20; try clear hx20; try clear p21; try clear q21; try clear hx21; try clear c26; try clear c26b0; try clear c26b1; try clear c35; try clear c36; try clear c36b0; try clear c38; try clear c38b0; try clear c39; try clear c39b0; try clear c39b1; try clear c41; try clear c41b0; try clear c41b1; try clear c44; try clear c53; try clear c53b0; try clear c53b1; try clear c56; try clear hx202_0; try clear hx202_1; try clear hx203_0; try clear hx203_1; try clear hx207_0; try clear hx207_1; try clear hx215_0; try clear hx215_1; try clear p2; try clear p202; try clear p203; try clear p207; try clear p215; try clear p6; try clear q1; try clear q19; try clear q194; try clear q202; try clear q203; try clear q207; try clear q215
           obtain ⟨kq, x93_36, x183000_36, x183001_36, rfl, HA, HJ36, HO_171000, BK170, BK182, HB⟩ := hcut
           cases kq with
           | zero => exact absurd HA.out (by simp [tontinelaw2_WireStops.j2])
           | succ kj36 =>
            have H := HA.out; clear HA
            simp only [tontinelaw2_WireStops.j2] at H
            by_cases c64 : x93_36 = true
            ·
             subst c64
             rw [if_pos rfl] at H
             exact absurd ((Option.some.inj H).trans HRT.out) (by decide)
            ·
             replace c64 := Bool.eq_false_iff.mpr c64
             subst c64
             rw [if_neg (show ¬ (false = true) by decide)] at H
             have H' := Goto.m0 H
             clear H
             go_wp2
             go_roundg kj36
             case measure => have := HJ14.out; have := HK2.out; have := HJ36.out; omega
             case rel => exact ⟨(wrap64 (x7_2 + 1)), (x183000_36), (x183001_36), (by first | rfl | (simp; done) | (simp [*]; done)), H', ⟨by have := HJ14.out; have := HK2.out; have := HJ36.out; omega⟩, ⟨Goto.rk HO_171000⟩, ⟨Goto.bx BK170⟩, ⟨Goto.bx BK182⟩, ⟨Goto.hx HB⟩⟩
         ·
          rw [if_neg c36] at H
          have c36b0 : decide (x7_2 < (l1.length : Int)) = false := decide_eq_false c36
          clear c36
          obtain rfl := Option.some.inj H
          go_wp2
          go_ret
          exact ⟨Goto.er, by repeat (first | (with_reducible first | exact HB.out | apply below_alloc | apply pw_below_drewN | apply below_drew1 | refine below_set ?_ GE170.out | refine below_set ?_ GE182.out) | exact HB.out)⟩
   ·
    rw [if_neg c13] at H
    have c13b0 : (t185 == (wrap64 (a0))) = false := beq_eq_false_iff_ne.mpr c13
    have c13b1 : (t185 != (wrap64 (a0))) = true := bne_iff_ne.mpr c13
    exact absurd ((Option.some.inj H).trans HRT.out) (by decide)
 ·
  replace c4 := Bool.eq_false_iff.mpr c4
  subst c4
  rw [if_neg (show ¬ (false = true) by decide)] at H
  exact absurd ((Option.some.inj H).trans HRT.out) (by decide)

end Go.Proofs.Ytiejhnijfgdapaa.P
