/- Printed by a program of this workplace (a turned copy of the kit's optional print), out of the translation; not trusted: Lean checks it. -/
import Derived.Test.YtpbcamdjcnokfaaPx0
import Derived.Test.YtpbcamdjcnokfaaPx1
import Derived.Test.YtpbcamdjcnokfaaPx2
import Derived.Test.YtpbcamdjcnokfaaPx3
import Derived.Test.YtpbcamdjcnokfaaPx4
namespace Go.Proofs.Ytpbcamdjcnokfaa.P
open Go.RowKit Go.Proofs.YtpbcamdjcnokfaaW.PrintWords Go.Proofs.YtpbcamdjcnokfaaW.PrintLast Go.Proofs.YtpbcamdjcnokfaaW.PrintMore
attribute [local go_sem] max2_int min2_int max_two min_two max_three min_three max_four min_four   -- for this text's walks alone
set_option linter.unusedVariables false
set_option linter.unusedSimpArgs false

attribute [local go_sem high] eqA63
/-! ### tontinelaw19_known: function 37 -/
def tontinelaw19_known.f (k : Nat)  : Option (Bool) := (mail_New.f 1).bind fun bt117 => ((mail_Quota.f 2).bind fun bt121 => ((mail_Box_Put.f k bt117.1 bt117.2 1 5).bind fun bt124 => ((mail_Box_Put.f k bt124.2 bt117.2 1 6).bind fun bt128 => ((mail_Box_Put.f k bt128.2 bt117.2 2 7).bind fun bt132 => ((mail_Box_Take.f bt132.2 bt117.2).bind fun bt136 => ((mail_Purse_Spend.f bt121.1 bt121.2).bind fun bt143 => ((mail_Purse_Spend.f bt143.2.1 bt143.2.2).bind fun bt146 => ((mail_Purse_Spend.f bt146.2.1 bt146.2.2).bind fun bt149 => ((mail_Purse_Fill.f bt149.2.1 bt149.2.2).bind fun bt152 => (if bt124.1 = true then (if bt128.1 = true then (some false) else (if bt132.1 = true then (if bt136.2.2.1 = true then (if (bt136.1 == 1 && (bt136.2.1 == 5)) = true then ((mail_Box_Len.f bt136.2.2.2 bt117.2).bind fun bt154 => (if bt154.1 = 1 then ((mail_Box_Waits.f k bt154.2 bt117.2 2).bind fun bt156 => (if bt156.1 = 1 then (if bt143.1 = true then (if bt146.1 = true then (if bt149.1 = true then (some false) else ((mail_Purse_Left.f bt152.1 bt152.2).bind fun bt158 => (some (bt158.1 == 2)))) else (some false)) else (some false)) else (some false))) else (some false))) else (some false)) else (some false)) else (some false))) else (some false)))))))))))
theorem tontinelaw19_known.mono : ∀ k, LeO (tontinelaw19_known.f k ) (tontinelaw19_known.f (k + 1) ) := by
 intro  k
 unfold tontinelaw19_known.f
 repeat' first
   | (with_reducible exact mail_Box_Put.mono _ _ _ _ _)
   | (with_reducible exact mail_Box_Waits.mono _ _ _ _)
   | (with_reducible exact LeO.refl _)
   | (with_reducible exact LeO.none _)
   | (with_reducible refine LeO.ite ?_ ?_)
   | (with_reducible refine LeO.bind ?_ (fun _ => ?_))
   | exact mail_Box_Put.mono _ _ _ _ _
   | exact mail_Box_Waits.mono _ _ _ _
   | exact LeO.none _
   | refine LeO.ite ?_ ?_
   | refine LeO.bind ?_ (fun _ => ?_)
set_option maxHeartbeats 8000000 in
set_option maxRecDepth 100000 in
theorem tontinelaw19_known.calls (k : Nat)  (r : Bool) (hrt : r = true) (w : World) (h : tontinelaw19_known.f k  = some r) :
    Calls Try.prog 37 #[] w fun e w' => e = .returned (.bool r) ∧ Below w.heap.size w w' := by
 have hu63 := Try.underlying63
 have HB := Goto.m0 (Below.refl w.heap.size w)
 have HRT := Goto.m0 hrt
 clear hrt
 have H : ((mail_New.f 1).bind fun bt117 => ((mail_Quota.f 2).bind fun bt121 => ((mail_Box_Put.f k bt117.1 bt117.2 1 5).bind fun bt124 => ((mail_Box_Put.f k bt124.2 bt117.2 1 6).bind fun bt128 => ((mail_Box_Put.f k bt128.2 bt117.2 2 7).bind fun bt132 => ((mail_Box_Take.f bt132.2 bt117.2).bind fun bt136 => ((mail_Purse_Spend.f bt121.1 bt121.2).bind fun bt143 => ((mail_Purse_Spend.f bt143.2.1 bt143.2.2).bind fun bt146 => ((mail_Purse_Spend.f bt146.2.1 bt146.2.2).bind fun bt149 => ((mail_Purse_Fill.f bt149.2.1 bt149.2.2).bind fun bt152 => (if bt124.1 = true then (if bt128.1 = true then (some false) else (if bt132.1 = true then (if bt136.2.2.1 = true then (if (bt136.1 == 1 && (bt136.2.1 == 5)) = true then ((mail_Box_Len.f bt136.2.2.2 bt117.2).bind fun bt154 => (if bt154.1 = 1 then ((mail_Box_Waits.f k bt154.2 bt117.2 2).bind fun bt156 => (if bt156.1 = 1 then (if bt143.1 = true then (if bt146.1 = true then (if bt149.1 = true then (some false) else ((mail_Purse_Left.f bt152.1 bt152.2).bind fun bt158 => (some (bt158.1 == 2)))) else (some false)) else (some false)) else (some false))) else (some false))) else (some false)) else (some false)) else (some false))) else (some false)))))))))))) = some r := h
 clear h
 replace H := Option.bind_eq_some_iff.mp H
 obtain ⟨⟨t117, t120⟩, A10, H⟩ := H
 replace H : ((mail_Quota.f 2).bind fun bt121 => ((mail_Box_Put.f k t117 t120 1 5).bind fun bt124 => ((mail_Box_Put.f k bt124.2 t120 1 6).bind fun bt128 => ((mail_Box_Put.f k bt128.2 t120 2 7).bind fun bt132 => ((mail_Box_Take.f bt132.2 t120).bind fun bt136 => ((mail_Purse_Spend.f bt121.1 bt121.2).bind fun bt143 => ((mail_Purse_Spend.f bt143.2.1 bt143.2.2).bind fun bt146 => ((mail_Purse_Spend.f bt146.2.1 bt146.2.2).bind fun bt149 => ((mail_Purse_Fill.f bt149.2.1 bt149.2.2).bind fun bt152 => (if bt124.1 = true then (if bt128.1 = true then (some false) else (if bt132.1 = true then (if bt136.2.2.1 = true then (if (bt136.1 == 1 && (bt136.2.1 == 5)) = true then ((mail_Box_Len.f bt136.2.2.2 t120).bind fun bt154 => (if bt154.1 = 1 then ((mail_Box_Waits.f k bt154.2 t120 2).bind fun bt156 => (if bt156.1 = 1 then (if bt143.1 = true then (if bt146.1 = true then (if bt149.1 = true then (some false) else ((mail_Purse_Left.f bt152.1 bt152.2).bind fun bt158 => (some (bt158.1 == 2)))) else (some false)) else (some false)) else (some false))) else (some false))) else (some false)) else (some false)) else (some false))) else (some false))))))))))) = some r := H
 have A1 := Goto.m0 A10
 clear A10
 replace H := Option.bind_eq_some_iff.mp H
 obtain ⟨⟨t121, t122⟩, A20, H⟩ := H
 replace H : ((mail_Box_Put.f k t117 t120 1 5).bind fun bt124 => ((mail_Box_Put.f k bt124.2 t120 1 6).bind fun bt128 => ((mail_Box_Put.f k bt128.2 t120 2 7).bind fun bt132 => ((mail_Box_Take.f bt132.2 t120).bind fun bt136 => ((mail_Purse_Spend.f t121 t122).bind fun bt143 => ((mail_Purse_Spend.f bt143.2.1 bt143.2.2).bind fun bt146 => ((mail_Purse_Spend.f bt146.2.1 bt146.2.2).bind fun bt149 => ((mail_Purse_Fill.f bt149.2.1 bt149.2.2).bind fun bt152 => (if bt124.1 = true then (if bt128.1 = true then (some false) else (if bt132.1 = true then (if bt136.2.2.1 = true then (if (bt136.1 == 1 && (bt136.2.1 == 5)) = true then ((mail_Box_Len.f bt136.2.2.2 t120).bind fun bt154 => (if bt154.1 = 1 then ((mail_Box_Waits.f k bt154.2 t120 2).bind fun bt156 => (if bt156.1 = 1 then (if bt143.1 = true then (if bt146.1 = true then (if bt149.1 = true then (some false) else ((mail_Purse_Left.f bt152.1 bt152.2).bind fun bt158 => (some (bt158.1 == 2)))) else (some false)) else (some false)) else (some false))) else (some false))) else (some false)) else (some false)) else (some false))) else (some false)))))))))) = some r := H
 have A2 := Goto.m0 A20
 clear A20
 replace H := Option.bind_eq_some_iff.mp H
 obtain ⟨⟨t124, t125⟩, A30, H⟩ := H
 replace H : ((mail_Box_Put.f k t125 t120 1 6).bind fun bt128 => ((mail_Box_Put.f k bt128.2 t120 2 7).bind fun bt132 => ((mail_Box_Take.f bt132.2 t120).bind fun bt136 => ((mail_Purse_Spend.f t121 t122).bind fun bt143 => ((mail_Purse_Spend.f bt143.2.1 bt143.2.2).bind fun bt146 => ((mail_Purse_Spend.f bt146.2.1 bt146.2.2).bind fun bt149 => ((mail_Purse_Fill.f bt149.2.1 bt149.2.2).bind fun bt152 => (if t124 = true then (if bt128.1 = true then (some false) else (if bt132.1 = true then (if bt136.2.2.1 = true then (if (bt136.1 == 1 && (bt136.2.1 == 5)) = true then ((mail_Box_Len.f bt136.2.2.2 t120).bind fun bt154 => (if bt154.1 = 1 then ((mail_Box_Waits.f k bt154.2 t120 2).bind fun bt156 => (if bt156.1 = 1 then (if bt143.1 = true then (if bt146.1 = true then (if bt149.1 = true then (some false) else ((mail_Purse_Left.f bt152.1 bt152.2).bind fun bt158 => (some (bt158.1 == 2)))) else (some false)) else (some false)) else (some false))) else (some false))) else (some false)) else (some false)) else (some false))) else (some false))))))))) = some r := H
 have A3 := Goto.m0 A30
 clear A30
 replace H := Option.bind_eq_some_iff.mp H
 obtain ⟨⟨t128, t129⟩, A40, H⟩ := H
 replace H : ((mail_Box_Put.f k t129 t120 2 7).bind fun bt132 => ((mail_Box_Take.f bt132.2 t120).bind fun bt136 => ((mail_Purse_Spend.f t121 t122).bind fun bt143 => ((mail_Purse_Spend.f bt143.2.1 bt143.2.2).bind fun bt146 => ((mail_Purse_Spend.f bt146.2.1 bt146.2.2).bind fun bt149 => ((mail_Purse_Fill.f bt149.2.1 bt149.2.2).bind fun bt152 => (if t124 = true then (if t128 = true then (some false) else (if bt132.1 = true then (if bt136.2.2.1 = true then (if (bt136.1 == 1 && (bt136.2.1 == 5)) = true then ((mail_Box_Len.f bt136.2.2.2 t120).bind fun bt154 => (if bt154.1 = 1 then ((mail_Box_Waits.f k bt154.2 t120 2).bind fun bt156 => (if bt156.1 = 1 then (if bt143.1 = true then (if bt146.1 = true then (if bt149.1 = true then (some false) else ((mail_Purse_Left.f bt152.1 bt152.2).bind fun bt158 => (some (bt158.1 == 2)))) else (some false)) else (some false)) else (some false))) else (some false))) else (some false)) else (some false)) else (some false))) else (some false)))))))) = some r := H
 have A4 := Goto.m0 A40
 clear A40
 replace H := Option.bind_eq_some_iff.mp H
 obtain ⟨⟨t132, t133⟩, A50, H⟩ := H
 replace H : ((mail_Box_Take.f t133 t120).bind fun bt136 => ((mail_Purse_Spend.f t121 t122).bind fun bt143 => ((mail_Purse_Spend.f bt143.2.1 bt143.2.2).bind fun bt146 => ((mail_Purse_Spend.f bt146.2.1 bt146.2.2).bind fun bt149 => ((mail_Purse_Fill.f bt149.2.1 bt149.2.2).bind fun bt152 => (if t124 = true then (if t128 = true then (some false) else (if t132 = true then (if bt136.2.2.1 = true then (if (bt136.1 == 1 && (bt136.2.1 == 5)) = true then ((mail_Box_Len.f bt136.2.2.2 t120).bind fun bt154 => (if bt154.1 = 1 then ((mail_Box_Waits.f k bt154.2 t120 2).bind fun bt156 => (if bt156.1 = 1 then (if bt143.1 = true then (if bt146.1 = true then (if bt149.1 = true then (some false) else ((mail_Purse_Left.f bt152.1 bt152.2).bind fun bt158 => (some (bt158.1 == 2)))) else (some false)) else (some false)) else (some false))) else (some false))) else (some false)) else (some false)) else (some false))) else (some false))))))) = some r := H
 have A5 := Goto.m0 A50
 clear A50
 replace H := Option.bind_eq_some_iff.mp H
 obtain ⟨⟨t136, t137, t138, t139⟩, A60, H⟩ := H
 replace H : ((mail_Purse_Spend.f t121 t122).bind fun bt143 => ((mail_Purse_Spend.f bt143.2.1 bt143.2.2).bind fun bt146 => ((mail_Purse_Spend.f bt146.2.1 bt146.2.2).bind fun bt149 => ((mail_Purse_Fill.f bt149.2.1 bt149.2.2).bind fun bt152 => (if t124 = true then (if t128 = true then (some false) else (if t132 = true then (if t138 = true then (if (t136 == 1 && (t137 == 5)) = true then ((mail_Box_Len.f t139 t120).bind fun bt154 => (if bt154.1 = 1 then ((mail_Box_Waits.f k bt154.2 t120 2).bind fun bt156 => (if bt156.1 = 1 then (if bt143.1 = true then (if bt146.1 = true then (if bt149.1 = true then (some false) else ((mail_Purse_Left.f bt152.1 bt152.2).bind fun bt158 => (some (bt158.1 == 2)))) else (some false)) else (some false)) else (some false))) else (some false))) else (some false)) else (some false)) else (some false))) else (some false)))))) = some r := H
 have A6 := Goto.m0 A60
 clear A60
 replace H := Option.bind_eq_some_iff.mp H
 obtain ⟨⟨t143, t144, t145⟩, A70, H⟩ := H
 replace H : ((mail_Purse_Spend.f t144 t145).bind fun bt146 => ((mail_Purse_Spend.f bt146.2.1 bt146.2.2).bind fun bt149 => ((mail_Purse_Fill.f bt149.2.1 bt149.2.2).bind fun bt152 => (if t124 = true then (if t128 = true then (some false) else (if t132 = true then (if t138 = true then (if (t136 == 1 && (t137 == 5)) = true then ((mail_Box_Len.f t139 t120).bind fun bt154 => (if bt154.1 = 1 then ((mail_Box_Waits.f k bt154.2 t120 2).bind fun bt156 => (if bt156.1 = 1 then (if t143 = true then (if bt146.1 = true then (if bt149.1 = true then (some false) else ((mail_Purse_Left.f bt152.1 bt152.2).bind fun bt158 => (some (bt158.1 == 2)))) else (some false)) else (some false)) else (some false))) else (some false))) else (some false)) else (some false)) else (some false))) else (some false))))) = some r := H
 have A7 := Goto.m0 A70
 clear A70
 replace H := Option.bind_eq_some_iff.mp H
 obtain ⟨⟨t146, t147, t148⟩, A80, H⟩ := H
 replace H : ((mail_Purse_Spend.f t147 t148).bind fun bt149 => ((mail_Purse_Fill.f bt149.2.1 bt149.2.2).bind fun bt152 => (if t124 = true then (if t128 = true then (some false) else (if t132 = true then (if t138 = true then (if (t136 == 1 && (t137 == 5)) = true then ((mail_Box_Len.f t139 t120).bind fun bt154 => (if bt154.1 = 1 then ((mail_Box_Waits.f k bt154.2 t120 2).bind fun bt156 => (if bt156.1 = 1 then (if t143 = true then (if t146 = true then (if bt149.1 = true then (some false) else ((mail_Purse_Left.f bt152.1 bt152.2).bind fun bt158 => (some (bt158.1 == 2)))) else (some false)) else (some false)) else (some false))) else (some false))) else (some false)) else (some false)) else (some false))) else (some false)))) = some r := H
 have A8 := Goto.m0 A80
 clear A80
 replace H := Option.bind_eq_some_iff.mp H
 obtain ⟨⟨t149, t150, t151⟩, A90, H⟩ := H
 replace H : ((mail_Purse_Fill.f t150 t151).bind fun bt152 => (if t124 = true then (if t128 = true then (some false) else (if t132 = true then (if t138 = true then (if (t136 == 1 && (t137 == 5)) = true then ((mail_Box_Len.f t139 t120).bind fun bt154 => (if bt154.1 = 1 then ((mail_Box_Waits.f k bt154.2 t120 2).bind fun bt156 => (if bt156.1 = 1 then (if t143 = true then (if t146 = true then (if t149 = true then (some false) else ((mail_Purse_Left.f bt152.1 bt152.2).bind fun bt158 => (some (bt158.1 == 2)))) else (some false)) else (some false)) else (some false))) else (some false))) else (some false)) else (some false)) else (some false))) else (some false))) = some r := H
 have A9 := Goto.m0 A90
 clear A90
 replace H := Option.bind_eq_some_iff.mp H
 obtain ⟨⟨t152, t153⟩, A100, H⟩ := H
 replace H : (if t124 = true then (if t128 = true then (some false) else (if t132 = true then (if t138 = true then (if (t136 == 1 && (t137 == 5)) = true then ((mail_Box_Len.f t139 t120).bind fun bt154 => (if bt154.1 = 1 then ((mail_Box_Waits.f k bt154.2 t120 2).bind fun bt156 => (if bt156.1 = 1 then (if t143 = true then (if t146 = true then (if t149 = true then (some false) else ((mail_Purse_Left.f t152 t153).bind fun bt158 => (some (bt158.1 == 2)))) else (some false)) else (some false)) else (some false))) else (some false))) else (some false)) else (some false)) else (some false))) else (some false)) = some r := H
 have A10 := Goto.m0 A100
 clear A100
 by_cases c11 : t124 = true
 ·
  subst c11
  rw [if_pos rfl] at H
  by_cases c12 : t128 = true
  ·
   subst c12
   rw [if_pos rfl] at H
   exact absurd ((Option.some.inj H).trans HRT.out) (by decide)
  ·
   replace c12 := Bool.eq_false_iff.mpr c12
   subst c12
   rw [if_neg (show ¬ (false = true) by decide)] at H
   by_cases c13 : t132 = true
   ·
    subst c13
    rw [if_pos rfl] at H
    by_cases c14 : t138 = true
    ·
     subst c14
     rw [if_pos rfl] at H
     by_cases c15 : (t136 == 1 && (t137 == 5)) = true
     ·
      rw [if_pos c15] at H
      have c15b0 : (t136 == 1 && (t137 == 5)) = true := c15
      (try (have c15b1 : decide (t136 = 1 && (t137 == 5)) = true := by simpa using c15))
      (try (have c15b2 : (t136 == 1 && (t137 == 5)) = true := by simpa using c15))
      clear c15
      replace H := Option.bind_eq_some_iff.mp H
      obtain ⟨⟨t154, t155⟩, A160, H⟩ := H
      replace H : (if t154 = 1 then ((mail_Box_Waits.f k t155 t120 2).bind fun bt156 => (if bt156.1 = 1 then (if t143 = true then (if t146 = true then (if t149 = true then (some false) else ((mail_Purse_Left.f t152 t153).bind fun bt158 => (some (bt158.1 == 2)))) else (some false)) else (some false)) else (some false))) else (some false)) = some r := H
      have A16 := Goto.m0 A160
      clear A160
      by_cases c17 : t154 = 1
      ·
       rw [if_pos c17] at H
       have c17b0 : (t154 == 1) = true := beq_iff_eq.mpr c17
       have c17b1 : (t154 != 1) = false := bne_eq_false_iff_eq.mpr c17
       clear c17
       replace H := Option.bind_eq_some_iff.mp H
       obtain ⟨⟨t156, t157⟩, A180, H⟩ := H
       replace H : (if t156 = 1 then (if t143 = true then (if t146 = true then (if t149 = true then (some false) else ((mail_Purse_Left.f t152 t153).bind fun bt158 => (some (bt158.1 == 2)))) else (some false)) else (some false)) else (some false)) = some r := H
       have A18 := Goto.m0 A180
       clear A180
       by_cases c19 : t156 = 1
       ·
        rw [if_pos c19] at H
        have c19b0 : (t156 == 1) = true := beq_iff_eq.mpr c19
        have c19b1 : (t156 != 1) = false := bne_eq_false_iff_eq.mpr c19
        clear c19
        by_cases c20 : t143 = true
        ·
         subst c20
         rw [if_pos rfl] at H
         by_cases c21 : t146 = true
         ·
          subst c21
          rw [if_pos rfl] at H
          by_cases c22 : t149 = true
          ·
           subst c22
           rw [if_pos rfl] at H
           exact absurd ((Option.some.inj H).trans HRT.out) (by decide)
          ·
           replace c22 := Bool.eq_false_iff.mpr c22
           subst c22
           rw [if_neg (show ¬ (false = true) by decide)] at H
           replace H := Option.bind_eq_some_iff.mp H
           obtain ⟨⟨t158, t159, t160⟩, A230, H⟩ := H
           replace H : (some (t158 == 2)) = some r := H
           have A23 := Goto.m0 A230
           clear A230
           obtain rfl := Option.some.inj H
           go_enter Try.func37, Try.ntmps37
           go_wp2_with (first | ((with_reducible refine gate_callee (f := 38) rfl ?_); refine goesL_ (some 11) rfl rfl Try.func38 (by kernel_rfl) rfl #[.int .i64 1] rfl (by (try simp only [List.map_toArray, List.map_cons, List.map_nil]); first | done | rfl | (simp only [List.length_drop, List.length_take]; rfl)) ?_; (with_reducible refine (mail_New.calls 1 t117 t120 _ A1.out).mono ?_); rintro e w24 ⟨v118, gb116, rfl, ho0, hi, hge, hb⟩; refine ⟨_, rfl, ?_⟩; have HO119 := Goto.m0 (Kd.R_lower ho0 (below_size (Goto.hx HB))); have BK116 := Goto.m0 (hi); have GW116 := Goto.m0 ((Nat.le_trans (below_size (Goto.hx HB)) hge : w.heap.size ≤ gb116)); have GE116 := Goto.m0 ((Nat.le_trans (below_size (Goto.hx HB)) hge : w.heap.size ≤ gb116)); replace HB := Goto.hs HB hb; (try clear hb); (try clear hi); (try clear hge); (try clear ho0)) | ((with_reducible refine gate_callee (f := 47) rfl ?_); refine goesL_ (some 12) rfl rfl Try.func47 (by kernel_rfl) rfl #[.int .i64 2] rfl (by (try simp only [List.map_toArray, List.map_cons, List.map_nil]); first | done | rfl | (simp only [List.length_drop, List.length_take]; rfl)) ?_; (with_reducible refine (mail_Quota.calls 2 t121 t122 w _ ?side1 A2.out).mono ?_); (case side1 => repeat (first | (with_reducible first | exact HB.out | apply below_alloc | apply pw_below_drewN | apply below_drew1 | refine below_set ?_ GE116.out) | exact HB.out)); rintro e w25 ⟨g123, rfl, hi, hb, hb2⟩; refine ⟨_, rfl, ?_⟩; have HI123 := Goto.m0 (hi); have NB123_116 := Goto.m0 (IsS86.ne_blk hi (blk_below (g := gb116) (o := .cells #[v118, .int .i64 t120] 83 (0, 0)) (Goto.bx BK116) hb2) (by decide)); have NB116_123 := Goto.m0 (Ne.symm (IsS86.ne_blk hi (blk_below (g := gb116) (o := .cells #[v118, .int .i64 t120] 83 (0, 0)) (Goto.bx BK116) hb2) (by decide))); replace HO119 := Goto.m0 (Kd.R_below (by (with_reducible repeat (first | apply Kd.R_alloc | apply Kd.R_drewN | apply Kd.R_drew)); exact HO119.out) hb2); replace BK116 := Goto.m0 (blk_below (g := gb116) (o := .cells #[v118, .int .i64 t120] 83 (0, 0)) (Goto.bx BK116) hb2); replace HB := Goto.m0 (hb); (try clear hb); (try clear hb2); (try clear hk); (try clear hi)) | ((with_reducible refine gate_callee (f := 40) rfl ?_); refine goesL_ (some 21) rfl rfl Try.func40 (by kernel_rfl) rfl #[.pointer (some ⟨gb116, 0, none⟩), .agg #[.int .i64 1, .int .i64 5]] rfl (by (try simp only [List.map_toArray, List.map_cons, List.map_nil]); first | done | rfl | (simp only [List.length_drop, List.length_take]; rfl)) ?_; (with_reducible refine (mail_Box_Put.calls k gb116 (fun k_ => some k_ = (v118 : Value).ownBlock) v118 t117 t120 1 5 true t125 w _ ?side1 ?side2 ?side3 ?side4 A3.out).mono ?_); (case side1 => exact by (with_reducible repeat first | refine blk_drewN ?_ _ | refine blk_drew ?_ | refine blk_alloc ?_ _); exact BK116.out); (case side2 => exact GE116.out); (case side3 => repeat (first | (with_reducible first | exact HB.out | apply below_alloc | apply pw_below_drewN | apply below_drew1 | refine below_set ?_ (IsS86.ge HI123.out) | refine below_set ?_ GE116.out) | exact HB.out)); (case side4 => exact Kd.R_tight rfl HO119.out); rintro e w26 ⟨v126, rfl, ho0, hi, hb, hkp⟩; refine ⟨_, rfl, ?_⟩; have n0_ := Goto.m0 (hi); have n1_ := Goto.m0 (IsS86.kept (by repeat (first | (with_reducible first | exact HI123.out | apply IsS86.alloc | apply IsS86.drewN | apply IsS86.drew | apply IsS86.set_0 | apply IsS86.set_1 | refine IsS86.far ?_ NB123_116.out _) | exact HI123.out)) hkp (fun hs_ => Or.elim hs_ (fun hs_ => (fun e_ => (IsS86.own_ne HI123.out HO119.out (by decide)) e_) hs_) (fun e_ => (IsS86.ne_blk HI123.out BK116.out (by decide)) e_))); have n2_ := Goto.m0 (Kd.R_mono (ok' := fun k_ => True) ho0 (fun k_ hk_ => trivial)); have n3_ := Goto.m0 (hb); clear BK116; clear HI123; clear HB; clear HO119; have BK116 := n0_; have HI123 := n1_; have HO127 := n2_; have HB := n3_; clear n0_ n1_ n2_ n3_; (try clear hb); (try clear hkp); (try clear ho0)) | ((with_reducible refine gate_callee (f := 40) rfl ?_); refine goesL_ (some 24) rfl rfl Try.func40 (by kernel_rfl) rfl #[.pointer (some ⟨gb116, 0, none⟩), .agg #[.int .i64 1, .int .i64 6]] rfl (by (try simp only [List.map_toArray, List.map_cons, List.map_nil]); first | done | rfl | (simp only [List.length_drop, List.length_take]; rfl)) ?_; (with_reducible refine (mail_Box_Put.calls k gb116 (fun k_ => some k_ = (v126 : Value).ownBlock) v126 t125 t120 1 6 false t129 w _ ?side1 ?side2 ?side3 ?side4 A4.out).mono ?_); (case side1 => exact by (with_reducible repeat first | refine blk_drewN ?_ _ | refine blk_drew ?_ | refine blk_alloc ?_ _); exact BK116.out); (case side2 => exact GE116.out); (case side3 => repeat (first | (with_reducible first | exact HB.out | apply below_alloc | apply pw_below_drewN | apply below_drew1 | refine below_set ?_ (IsS86.ge HI123.out) | refine below_set ?_ GE116.out) | exact HB.out)); (case side4 => exact Kd.R_tight rfl HO127.out); rintro e w27 ⟨v130, rfl, ho0, hi, hb, hkp⟩; refine ⟨_, rfl, ?_⟩; have n0_ := Goto.m0 (hi); have n1_ := Goto.m0 (IsS86.kept (by repeat (first | (with_reducible first | exact HI123.out | apply IsS86.alloc | apply IsS86.drewN | apply IsS86.drew | apply IsS86.set_0 | apply IsS86.set_1 | refine IsS86.far ?_ NB123_116.out _) | exact HI123.out)) hkp (fun hs_ => Or.elim hs_ (fun hs_ => (fun e_ => (IsS86.own_ne HI123.out HO127.out (by decide)) e_) hs_) (fun e_ => (IsS86.ne_blk HI123.out BK116.out (by decide)) e_))); have n2_ := Goto.m0 (Kd.R_mono (ok' := fun k_ => True) ho0 (fun k_ hk_ => trivial)); have n3_ := Goto.m0 (hb); clear BK116; clear HI123; clear HB; clear HO127; have BK116 := n0_; have HI123 := n1_; have HO131 := n2_; have HB := n3_; clear n0_ n1_ n2_ n3_; (try clear hb); (try clear hkp); (try clear ho0)) | ((with_reducible refine gate_callee (f := 40) rfl ?_); refine goesL_ (some 27) rfl rfl Try.func40 (by kernel_rfl) rfl #[.pointer (some ⟨gb116, 0, none⟩), .agg #[.int .i64 2, .int .i64 7]] rfl (by (try simp only [List.map_toArray, List.map_cons, List.map_nil]); first | done | rfl | (simp only [List.length_drop, List.length_take]; rfl)) ?_; (with_reducible refine (mail_Box_Put.calls k gb116 (fun k_ => some k_ = (v130 : Value).ownBlock) v130 t129 t120 2 7 true t133 w _ ?side1 ?side2 ?side3 ?side4 A5.out).mono ?_); (case side1 => exact by (with_reducible repeat first | refine blk_drewN ?_ _ | refine blk_drew ?_ | refine blk_alloc ?_ _); exact BK116.out); (case side2 => exact GE116.out); (case side3 => repeat (first | (with_reducible first | exact HB.out | apply below_alloc | apply pw_below_drewN | apply below_drew1 | refine below_set ?_ (IsS86.ge HI123.out) | refine below_set ?_ GE116.out) | exact HB.out)); (case side4 => exact Kd.R_tight rfl HO131.out); rintro e w28 ⟨v134, rfl, ho0, hi, hb, hkp⟩; refine ⟨_, rfl, ?_⟩; have n0_ := Goto.m0 (hi); have n1_ := Goto.m0 (IsS86.kept (by repeat (first | (with_reducible first | exact HI123.out | apply IsS86.alloc | apply IsS86.drewN | apply IsS86.drew | apply IsS86.set_0 | apply IsS86.set_1 | refine IsS86.far ?_ NB123_116.out _) | exact HI123.out)) hkp (fun hs_ => Or.elim hs_ (fun hs_ => (fun e_ => (IsS86.own_ne HI123.out HO131.out (by decide)) e_) hs_) (fun e_ => (IsS86.ne_blk HI123.out BK116.out (by decide)) e_))); have n2_ := Goto.m0 (Kd.R_mono (ok' := fun k_ => True) ho0 (fun k_ hk_ => trivial)); have n3_ := Goto.m0 (hb); clear BK116; clear HI123; clear HB; clear HO131; have BK116 := n0_; have HI123 := n1_; have HO135 := n2_; have HB := n3_; clear n0_ n1_ n2_ n3_; (try clear hb); (try clear hkp); (try clear ho0)) | ((with_reducible refine gate_callee (f := 42) rfl ?_); refine goesL_ (some 30) rfl rfl Try.func42 (by kernel_rfl) rfl #[.pointer (some ⟨gb116, 0, none⟩)] rfl (by (try simp only [List.map_toArray, List.map_cons, List.map_nil]); first | done | rfl | (simp only [List.length_drop, List.length_take]; rfl)) ?_; (with_reducible refine (mail_Box_Take.calls gb116 (fun k_ => some k_ = (v134 : Value).ownBlock) v134 t133 t120 t136 t137 true t139 w _ ?side1 ?side2 ?side3 ?side4 A6.out).mono ?_); (case side1 => exact by (with_reducible repeat first | refine blk_drewN ?_ _ | refine blk_drew ?_ | refine blk_alloc ?_ _); exact BK116.out); (case side2 => exact GE116.out); (case side3 => repeat (first | (with_reducible first | exact HB.out | apply below_alloc | apply pw_below_drewN | apply below_drew1 | refine below_set ?_ (IsS86.ge HI123.out) | refine below_set ?_ GE116.out) | exact HB.out)); (case side4 => exact Kd.R_tight rfl HO135.out); rintro e w29 ⟨v140, rfl, ho0, hi, hb, hkp⟩; refine ⟨_, rfl, ?_⟩; have n0_ := Goto.m0 (hi); have n1_ := Goto.m0 (IsS86.kept (by repeat (first | (with_reducible first | exact HI123.out | apply IsS86.alloc | apply IsS86.drewN | apply IsS86.drew | apply IsS86.set_0 | apply IsS86.set_1 | refine IsS86.far ?_ NB123_116.out _) | exact HI123.out)) hkp (fun hs_ => Or.elim hs_ (fun hs_ => (fun e_ => (IsS86.own_ne HI123.out HO135.out (by decide)) e_) hs_) (fun e_ => (IsS86.ne_blk HI123.out BK116.out (by decide)) e_))); have n2_ := Goto.m0 (Kd.R_mono (ok' := fun k_ => True) ho0 (fun k_ hk_ => trivial)); have n3_ := Goto.m0 (hb); clear BK116; clear HI123; clear HB; clear HO135; have BK116 := n0_; have HI123 := n1_; have HO141 := n2_; have HB := n3_; clear n0_ n1_ n2_ n3_; (try clear hb); (try clear hkp); (try clear ho0)) | ((with_reducible refine gate_dst (N := 6) rfl ?_); refine box_event ?hg (N := 6) ?hd (cs := #[.int .i64 0, .int .i64 0]) (t := 63) ?hr ?_; (case hd => rfl); (case hg => rfl); (case hr => first | (go_simp; done) | (go_simp; rfl)); intro gb142 hg w30 hbox hb; have BK142 := Goto.m0 (hbox); have GW142 := Goto.m0 ((by rw [hg]; exact (below_size (by repeat (first | (with_reducible first | exact HB.out | apply below_alloc | apply pw_below_drewN | apply below_drew1 | refine below_set ?_ (IsS86.ge HI123.out) | refine below_set ?_ GE116.out) | exact HB.out))) : w.heap.size ≤ gb142)); have GE142 := Goto.m0 ((by rw [hg]; exact (below_size (by repeat (first | (with_reducible first | exact HB.out | apply below_alloc | apply pw_below_drewN | apply below_drew1 | refine below_set ?_ (IsS86.ge HI123.out) | refine below_set ?_ GE116.out) | exact HB.out))) : w.heap.size ≤ gb142)); have NB116_142 := Goto.nl BK116 hg; have NB142_116 := Goto.nr BK116 hg; have NB123_142 := Goto.m0 ((by rw [hg]; exact Nat.ne_of_lt (IsS86.lt (show IsS86 w _ g123 t121 t122 from by repeat (first | (with_reducible first | exact HI123.out | apply IsS86.alloc | apply IsS86.drewN | apply IsS86.drew | apply IsS86.set_0 | apply IsS86.set_1 | refine IsS86.far ?_ NB123_116.out _) | exact HI123.out))) : g123 ≠ gb142)); have NB142_123 := Goto.m0 ((by rw [hg]; exact Nat.ne_of_gt (IsS86.lt (show IsS86 w _ g123 t121 t122 from by repeat (first | (with_reducible first | exact HI123.out | apply IsS86.alloc | apply IsS86.drewN | apply IsS86.drew | apply IsS86.set_0 | apply IsS86.set_1 | refine IsS86.far ?_ NB123_116.out _) | exact HI123.out))) : gb142 ≠ g123)); replace HO141 := Goto.m0 (Kd.R_below (Kd.R_elderB (by (with_reducible repeat (first | apply Kd.R_alloc | apply Kd.R_drewN | apply Kd.R_drew)); exact HO141.out) gb142 (Nat.le_of_eq hg.symm)) hb); replace BK116 := Goto.bb BK116 hb; replace HB := Goto.m0 (below_step (by repeat (first | (with_reducible first | exact HB.out | apply below_alloc | apply pw_below_drewN | apply below_drew1 | refine below_set ?_ (IsS86.ge HI123.out) | refine below_set ?_ GE116.out) | exact HB.out)) hb); replace HI123 := Goto.m0 (IsS86.below (by repeat (first | (with_reducible first | exact HI123.out | apply IsS86.alloc | apply IsS86.drewN | apply IsS86.drew | apply IsS86.set_0 | apply IsS86.set_1 | refine IsS86.far ?_ NB123_116.out _) | exact HI123.out)) hb); clear hb hbox hg; have hnb31 := NB142_116.out; have hnc31 := NB116_142.out; have hnb32 := NB142_123.out; have hnc32 := NB123_142.out; have hcz33_0 : w30.cell? ⟨gb142, 0, none⟩ = some (.int .i64 0) := (blk_cell BK142.out 0).trans rfl; have hcz33_1 : w30.cell? ⟨gb142, 1, none⟩ = some (.int .i64 0) := (blk_cell BK142.out 1).trans rfl; have hfz33_0 := blk_frozen BK142.out 0; have hfz33_1 := blk_frozen BK142.out 1) | ((with_reducible refine gate_callee (f := 49) rfl ?_); refine goesL_ (some 34) rfl rfl Try.func49 (by kernel_rfl) rfl #[.pointer (some ⟨g123, 0, none⟩)] rfl (by (try simp only [List.map_toArray, List.map_cons, List.map_nil]); first | done | rfl | (simp only [List.length_drop, List.length_take]; rfl)) ?_; (with_reducible refine (mail_Purse_Spend.calls g123 t121 t122 true t144 t145 w _ ?side1 ?side2 A7.out).mono ?_); (case side1 => repeat (first | (with_reducible first | exact HI123.out | apply IsS86.alloc | apply IsS86.drewN | apply IsS86.drew | apply IsS86.set_0 | apply IsS86.set_1 | refine IsS86.far ?_ NB123_116.out _ | refine IsS86.far ?_ NB123_142.out _) | exact HI123.out)); (case side2 => repeat (first | (with_reducible first | exact HB.out | apply below_alloc | apply pw_below_drewN | apply below_drew1 | refine below_set ?_ (IsS86.ge HI123.out) | refine below_set ?_ GE116.out | refine below_set ?_ GE142.out) | exact HB.out)); rintro e w34 ⟨rfl, hi, hb, hk⟩; refine ⟨_, rfl, ?_⟩; replace BK116 := Goto.m0 (KeepBut.blk hk (g' := gb116) (o := .cells #[v140, .int .i64 t120] 83 (0, 0)) (Goto.bx BK116) NB116_123.out (by simp)); replace HO141 := Goto.m0 (Kd.R_mono (Kd.R_keep (IsS86.apart (show IsS86 w _ g123 t121 t122 from by repeat (first | (with_reducible first | exact HI123.out | apply IsS86.alloc | apply IsS86.drewN | apply IsS86.drew | apply IsS86.set_0 | apply IsS86.set_1 | refine IsS86.far ?_ NB123_116.out _ | refine IsS86.far ?_ NB123_142.out _) | exact HI123.out)) (by (with_reducible repeat (first | apply Kd.R_alloc | apply Kd.R_drewN | apply Kd.R_drew)); exact (Kd.R_mono (Kd.R_far (p := ⟨gb142, 1, none⟩) (Kd.R_far (p := ⟨gb142, 0, none⟩) (Goto.nx gb142 HO141.out (fun k_ hk => hk.2)) (fun _ hk => hk.2) (.int .i64 t136)) (fun _ hk => hk.2) (.int .i64 t137)) (fun _ h_ => h_.1))) (by decide)) hk (fun _ h => h.2)) (fun _ h => h.1)); replace BK142 := Goto.m0 (KeepBut.blk hk (g' := gb142) (o := .cells #[.int .i64 t136, .int .i64 t137] 63 (0, 0)) (Goto.bx BK142) NB142_123.out (by simp)); replace HB := Goto.m0 (hb); replace HI123 := Goto.m0 (hi); (try clear hb); (try clear hb2); (try clear hk); (try clear hi)) | ((with_reducible refine gate_callee (f := 49) rfl ?_); refine goesL_ (some 36) rfl rfl Try.func49 (by kernel_rfl) rfl #[.pointer (some ⟨g123, 0, none⟩)] rfl (by (try simp only [List.map_toArray, List.map_cons, List.map_nil]); first | done | rfl | (simp only [List.length_drop, List.length_take]; rfl)) ?_; (with_reducible refine (mail_Purse_Spend.calls g123 t144 t145 true t147 t148 w _ ?side1 ?side2 A8.out).mono ?_); (case side1 => repeat (first | (with_reducible first | exact HI123.out | apply IsS86.alloc | apply IsS86.drewN | apply IsS86.drew | apply IsS86.set_0 | apply IsS86.set_1 | refine IsS86.far ?_ NB123_116.out _ | refine IsS86.far ?_ NB123_142.out _) | exact HI123.out)); (case side2 => repeat (first | (with_reducible first | exact HB.out | apply below_alloc | apply pw_below_drewN | apply below_drew1 | refine below_set ?_ (IsS86.ge HI123.out) | refine below_set ?_ GE116.out | refine below_set ?_ GE142.out) | exact HB.out)); rintro e w35 ⟨rfl, hi, hb, hk⟩; refine ⟨_, rfl, ?_⟩; replace BK116 := Goto.m0 (KeepBut.blk hk (g' := gb116) (o := .cells #[v140, .int .i64 t120] 83 (0, 0)) (Goto.bx BK116) NB116_123.out (by simp)); replace HO141 := Goto.m0 (Kd.R_mono (Kd.R_keep (IsS86.apart (show IsS86 w _ g123 t144 t145 from by repeat (first | (with_reducible first | exact HI123.out | apply IsS86.alloc | apply IsS86.drewN | apply IsS86.drew | apply IsS86.set_0 | apply IsS86.set_1 | refine IsS86.far ?_ NB123_116.out _ | refine IsS86.far ?_ NB123_142.out _) | exact HI123.out)) (by (with_reducible repeat (first | apply Kd.R_alloc | apply Kd.R_drewN | apply Kd.R_drew)); exact HO141.out) (by decide)) hk (fun _ h => h.2)) (fun _ h => h.1)); replace BK142 := Goto.m0 (KeepBut.blk hk (g' := gb142) (o := .cells #[.int .i64 t136, .int .i64 t137] 63 (0, 0)) (Goto.bx BK142) NB142_123.out (by simp)); replace HB := Goto.m0 (hb); replace HI123 := Goto.m0 (hi); (try clear hb); (try clear hb2); (try clear hk); (try clear hi)) | ((with_reducible refine gate_callee (f := 49) rfl ?_); refine goesL_ (some 38) rfl rfl Try.func49 (by kernel_rfl) rfl #[.pointer (some ⟨g123, 0, none⟩)] rfl (by (try simp only [List.map_toArray, List.map_cons, List.map_nil]); first | done | rfl | (simp only [List.length_drop, List.length_take]; rfl)) ?_; (with_reducible refine (mail_Purse_Spend.calls g123 t147 t148 false t150 t151 w _ ?side1 ?side2 A9.out).mono ?_); (case side1 => repeat (first | (with_reducible first | exact HI123.out | apply IsS86.alloc | apply IsS86.drewN | apply IsS86.drew | apply IsS86.set_0 | apply IsS86.set_1 | refine IsS86.far ?_ NB123_116.out _ | refine IsS86.far ?_ NB123_142.out _) | exact HI123.out)); (case side2 => repeat (first | (with_reducible first | exact HB.out | apply below_alloc | apply pw_below_drewN | apply below_drew1 | refine below_set ?_ (IsS86.ge HI123.out) | refine below_set ?_ GE116.out | refine below_set ?_ GE142.out) | exact HB.out)); rintro e w36 ⟨rfl, hi, hb, hk⟩; refine ⟨_, rfl, ?_⟩; replace BK116 := Goto.m0 (KeepBut.blk hk (g' := gb116) (o := .cells #[v140, .int .i64 t120] 83 (0, 0)) (Goto.bx BK116) NB116_123.out (by simp)); replace HO141 := Goto.m0 (Kd.R_mono (Kd.R_keep (IsS86.apart (show IsS86 w _ g123 t147 t148 from by repeat (first | (with_reducible first | exact HI123.out | apply IsS86.alloc | apply IsS86.drewN | apply IsS86.drew | apply IsS86.set_0 | apply IsS86.set_1 | refine IsS86.far ?_ NB123_116.out _ | refine IsS86.far ?_ NB123_142.out _) | exact HI123.out)) (by (with_reducible repeat (first | apply Kd.R_alloc | apply Kd.R_drewN | apply Kd.R_drew)); exact HO141.out) (by decide)) hk (fun _ h => h.2)) (fun _ h => h.1)); replace BK142 := Goto.m0 (KeepBut.blk hk (g' := gb142) (o := .cells #[.int .i64 t136, .int .i64 t137] 63 (0, 0)) (Goto.bx BK142) NB142_123.out (by simp)); replace HB := Goto.m0 (hb); replace HI123 := Goto.m0 (hi); (try clear hb); (try clear hb2); (try clear hk); (try clear hi)) | ((with_reducible refine gate_callee (f := 48) rfl ?_); refine goesL_ (some 40) rfl rfl Try.func48 (by kernel_rfl) rfl #[.pointer (some ⟨g123, 0, none⟩)] rfl (by (try simp only [List.map_toArray, List.map_cons, List.map_nil]); first | done | rfl | (simp only [List.length_drop, List.length_take]; rfl)) ?_; (with_reducible refine (mail_Purse_Fill.calls g123 t150 t151 t152 t153 w _ ?side1 ?side2 A10.out).mono ?_); (case side1 => repeat (first | (with_reducible first | exact HI123.out | apply IsS86.alloc | apply IsS86.drewN | apply IsS86.drew | apply IsS86.set_0 | apply IsS86.set_1 | refine IsS86.far ?_ NB123_116.out _ | refine IsS86.far ?_ NB123_142.out _) | exact HI123.out)); (case side2 => repeat (first | (with_reducible first | exact HB.out | apply below_alloc | apply pw_below_drewN | apply below_drew1 | refine below_set ?_ (IsS86.ge HI123.out) | refine below_set ?_ GE116.out | refine below_set ?_ GE142.out) | exact HB.out)); rintro e w37 ⟨rfl, hi, hb, hk⟩; refine ⟨_, rfl, ?_⟩; replace BK116 := Goto.m0 (KeepBut.blk hk (g' := gb116) (o := .cells #[v140, .int .i64 t120] 83 (0, 0)) (Goto.bx BK116) NB116_123.out (by simp)); replace HO141 := Goto.m0 (Kd.R_mono (Kd.R_keep (IsS86.apart (show IsS86 w _ g123 t150 t151 from by repeat (first | (with_reducible first | exact HI123.out | apply IsS86.alloc | apply IsS86.drewN | apply IsS86.drew | apply IsS86.set_0 | apply IsS86.set_1 | refine IsS86.far ?_ NB123_116.out _ | refine IsS86.far ?_ NB123_142.out _) | exact HI123.out)) (by (with_reducible repeat (first | apply Kd.R_alloc | apply Kd.R_drewN | apply Kd.R_drew)); exact HO141.out) (by decide)) hk (fun _ h => h.2)) (fun _ h => h.1)); replace BK142 := Goto.m0 (KeepBut.blk hk (g' := gb142) (o := .cells #[.int .i64 t136, .int .i64 t137] 63 (0, 0)) (Goto.bx BK142) NB142_123.out (by simp)); replace HB := Goto.m0 (hb); replace HI123 := Goto.m0 (hi); (try clear hb); (try clear hb2); (try clear hk); (try clear hi); have hcz38_0 : w37.cell? ⟨gb142, 0, none⟩ = some (.int .i64 t136) := (blk_cell BK142.out 0).trans rfl; have hcz38_1 : w37.cell? ⟨gb142, 1, none⟩ = some (.int .i64 t137) := (blk_cell BK142.out 1).trans rfl; have hfz38_0 := blk_frozen BK142.out 0; have hfz38_1 := blk_frozen BK142.out 1) | (go_at_call 44; (with_reducible refine (mail_Box_Len.calls gb116 (fun k_ => some k_ = (v140 : Value).ownBlock) v140 t139 t120 t154 t155 w _ ?side1 ?side2 ?side3 ?side4 A16.out).mono ?_); (case side1 => exact by (with_reducible repeat first | refine blk_drewN ?_ _ | refine blk_drew ?_ | refine blk_alloc ?_ _); exact BK116.out); (case side2 => exact GE116.out); (case side3 => repeat (first | (with_reducible first | exact HB.out | apply below_alloc | apply pw_below_drewN | apply below_drew1 | refine below_set ?_ (IsS86.ge HI123.out) | refine below_set ?_ GE116.out | refine below_set ?_ GE142.out) | exact HB.out)); (case side4 => exact Kd.R_tight rfl HO141.out); rintro e w39 ⟨rfl, hi, hy0, hb, hkp⟩; replace HI123 := Goto.m0 (IsS86.kept (by repeat (first | (with_reducible first | exact HI123.out | apply IsS86.alloc | apply IsS86.drewN | apply IsS86.drew | apply IsS86.set_0 | apply IsS86.set_1 | refine IsS86.far ?_ NB123_116.out _ | refine IsS86.far ?_ NB123_142.out _) | exact HI123.out)) hkp (fun hs_ => Or.elim hs_ (fun hs_ => (fun e_ => (IsS86.own_ne HI123.out HO141.out (by decide)) e_) hs_) (fun e_ => (IsS86.ne_blk HI123.out BK116.out (by decide)) e_))); replace BK116 := Goto.m0 (hi); replace BK142 := Goto.m0 (blk_kept (Goto.bx BK142) hkp (fun hs_ => Or.elim hs_ (fun hs_ => (fun e_ => (Kd.R_away HO141.out (fun _ hk => hk.2)) e_) hs_) (fun e_ => NB142_116.out e_))); replace HO141 := Goto.m0 (Kd.R_reok rfl hy0 (fun k_ e_ => HO141.out.1 k_ e_)); replace HB := Goto.m0 (hb); (try clear hb); (try clear hkp); (try clear hy0)) | (go_at_call 45; (with_reducible refine (mail_Box_Waits.calls k gb116 (fun k_ => some k_ = (v140 : Value).ownBlock) v140 t155 t120 2 t156 t157 w _ ?side1 ?side2 ?side3 ?side4 A18.out).mono ?_); (case side1 => exact by (with_reducible repeat first | refine blk_drewN ?_ _ | refine blk_drew ?_ | refine blk_alloc ?_ _); exact BK116.out); (case side2 => exact GE116.out); (case side3 => repeat (first | (with_reducible first | exact HB.out | apply below_alloc | apply pw_below_drewN | apply below_drew1 | refine below_set ?_ (IsS86.ge HI123.out) | refine below_set ?_ GE116.out | refine below_set ?_ GE142.out) | exact HB.out)); (case side4 => exact Kd.R_tight rfl HO141.out); rintro e w40 ⟨rfl, hi, hy0, hb, hkp⟩; replace HI123 := Goto.m0 (IsS86.kept (by repeat (first | (with_reducible first | exact HI123.out | apply IsS86.alloc | apply IsS86.drewN | apply IsS86.drew | apply IsS86.set_0 | apply IsS86.set_1 | refine IsS86.far ?_ NB123_116.out _ | refine IsS86.far ?_ NB123_142.out _) | exact HI123.out)) hkp (fun hs_ => Or.elim hs_ (fun hs_ => (fun e_ => (IsS86.own_ne HI123.out HO141.out (by decide)) e_) hs_) (fun e_ => (IsS86.ne_blk HI123.out BK116.out (by decide)) e_))); replace BK116 := Goto.m0 (hi); replace BK142 := Goto.m0 (blk_kept (Goto.bx BK142) hkp (fun hs_ => Or.elim hs_ (fun hs_ => (fun e_ => (Kd.R_away HO141.out (fun _ hk => hk.2)) e_) hs_) (fun e_ => NB142_116.out e_))); replace HO141 := Goto.m0 (Kd.R_reok rfl hy0 (fun k_ e_ => HO141.out.1 k_ e_)); replace HB := Goto.m0 (hb); (try clear hb); (try clear hkp); (try clear hy0)) | (go_at_call 50; (with_reducible refine (mail_Purse_Left.calls g123 t152 t153 t158 t159 t160 w _ ?side1 ?side2 A23.out).mono ?_); (case side1 => repeat (first | (with_reducible first | exact HI123.out | apply IsS86.alloc | apply IsS86.drewN | apply IsS86.drew | apply IsS86.set_0 | apply IsS86.set_1 | refine IsS86.far ?_ NB123_116.out _ | refine IsS86.far ?_ NB123_142.out _) | exact HI123.out)); (case side2 => repeat (first | (with_reducible first | exact HB.out | apply below_alloc | apply pw_below_drewN | apply below_drew1 | refine below_set ?_ (IsS86.ge HI123.out) | refine below_set ?_ GE116.out | refine below_set ?_ GE142.out) | exact HB.out)); rintro e w41 ⟨rfl, hi, hb, hk⟩; replace BK116 := Goto.m0 (KeepBut.blk hk (g' := gb116) (o := .cells #[v140, .int .i64 t120] 83 (0, 0)) (Goto.bx BK116) NB116_123.out (by simp)); replace HO141 := Goto.m0 (Kd.R_mono (Kd.R_keep (IsS86.apart (show IsS86 w _ g123 t152 t153 from by repeat (first | (with_reducible first | exact HI123.out | apply IsS86.alloc | apply IsS86.drewN | apply IsS86.drew | apply IsS86.set_0 | apply IsS86.set_1 | refine IsS86.far ?_ NB123_116.out _ | refine IsS86.far ?_ NB123_142.out _) | exact HI123.out)) (by (with_reducible repeat (first | apply Kd.R_alloc | apply Kd.R_drewN | apply Kd.R_drew)); exact HO141.out) (by decide)) hk (fun _ h => h.2)) (fun _ h => h.1)); replace BK142 := Goto.m0 (KeepBut.blk hk (g' := gb142) (o := .cells #[.int .i64 t136, .int .i64 t137] 63 (0, 0)) (Goto.bx BK142) NB142_123.out (by simp)); replace HB := Goto.m0 (hb); replace HI123 := Goto.m0 (hi); (try clear hb); (try clear hb2); (try clear hk); (try clear hi)))
           go_ret
           exact ⟨by first | rfl | (simp [errW_none, errW_some] <;> rfl) | (simp [*, errW_none, errW_some] <;> rfl), by repeat (first | (with_reducible first | exact HB.out | apply below_alloc | apply pw_below_drewN | apply below_drew1 | refine below_set ?_ (IsS86.ge HI123.out) | refine below_set ?_ GE116.out | refine below_set ?_ GE142.out) | exact HB.out)⟩
         ·
          replace c21 := Bool.eq_false_iff.mpr c21
          subst c21
          rw [if_neg (show ¬ (false = true) by decide)] at H
          exact absurd ((Option.some.inj H).trans HRT.out) (by decide)
        ·
         replace c20 := Bool.eq_false_iff.mpr c20
         subst c20
         rw [if_neg (show ¬ (false = true) by decide)] at H
         exact absurd ((Option.some.inj H).trans HRT.out) (by decide)
       ·
        rw [if_neg c19] at H
        have c19b0 : (t156 == 1) = false := beq_eq_false_iff_ne.mpr c19
        have c19b1 : (t156 != 1) = true := bne_iff_ne.mpr c19
        exact absurd ((Option.some.inj H).trans HRT.out) (by decide)
      ·
       rw [if_neg c17] at H
       have c17b0 : (t154 == 1) = false := beq_eq_false_iff_ne.mpr c17
       have c17b1 : (t154 != 1) = true := bne_iff_ne.mpr c17
       exact absurd ((Option.some.inj H).trans HRT.out) (by decide)
     ·
      rw [if_neg c15] at H
      have c15b0 : (t136 == 1 && (t137 == 5)) = false := by simpa using c15
      (try (have c15b1 : decide (t136 = 1 && (t137 == 5)) = false := by simpa using c15))
      (try (have c15b2 : (t136 == 1 && (t137 == 5)) = false := by simpa using c15))
      (try (have c15b3 : ¬ (t136 = 1 && (t137 == 5)) := by simpa using c15))
      clear c15
      exact absurd ((Option.some.inj H).trans HRT.out) (by decide)
    ·
     replace c14 := Bool.eq_false_iff.mpr c14
     subst c14
     rw [if_neg (show ¬ (false = true) by decide)] at H
     exact absurd ((Option.some.inj H).trans HRT.out) (by decide)
   ·
    replace c13 := Bool.eq_false_iff.mpr c13
    subst c13
    rw [if_neg (show ¬ (false = true) by decide)] at H
    exact absurd ((Option.some.inj H).trans HRT.out) (by decide)
 ·
  replace c11 := Bool.eq_false_iff.mpr c11
  subst c11
  rw [if_neg (show ¬ (false = true) by decide)] at H
  exact absurd ((Option.some.inj H).trans HRT.out) (by decide)

/-! ### tontineref15_NewBox: function 39 -/
def tontineref15_NewBox.f (a0 : Int) : Option (Int × (List (S63))) := some (mx 1 (mn a0 8), ([] : List (S63)))
set_option maxHeartbeats 8000000 in
set_option maxRecDepth 100000 in
theorem tontineref15_NewBox.calls (a0 : Int) (r1 : Int) (r2 : List (S63)) (w : World) (h : tontineref15_NewBox.f a0 = some (r1, r2)) :
    Calls Try.prog 39 #[.int .i64 a0] w fun e w' => ∃ v1_ : Value, ∃ g_ : Nat, e = .returned (.pointer (some ⟨g_, 0, none⟩)) ∧ Kd.Q k63 63 w' w.heap.size (fun _ => True) v1_ r2 ∧ w'.heap[g_]? = some (.cells #[.int .i64 r1, v1_] 69 (0, 0)) ∧ w.heap.size ≤ g_ ∧ Below w.heap.size w w' := by
 have hu69 := Try.underlying69
 have HB := Goto.m0 (Below.refl w.heap.size w)
 have H : (some (mx 1 (mn a0 8), ([] : List (S63)))) = some (r1, r2) := h
 clear h
 obtain ⟨ji2, hji2⟩ : ∃ j_ : Int, (mn a0 8) = j_ := ⟨_, rfl⟩
 replace H : (some (mx 1 (ji2), ([] : List (S63)))) = some (r1, r2) := by first | (rw [hji2] at H; exact H) | (simp only [hji2] at H ⊢; exact H)
 (try (have hji2h : ji2 ≤ 8 := by (rw [← hji2]; unfold mn; (repeat' split) <;> omega)))
 (try (have hji2g : ji2 ≤ 64 := by omega))
 have hji2_ : (if 8 < a0 then 8 else a0) = ji2 := hji2
 obtain ⟨ji3, hji3⟩ : ∃ j_ : Int, (mx 1 (ji2)) = j_ := ⟨_, rfl⟩
 (try rw [hji3] at hji2)
 (try rw [hji3] at hji2w)
 replace H : (some (ji3, ([] : List (S63)))) = some (r1, r2) := by first | (rw [hji3] at H; exact H) | (simp only [hji3] at H ⊢; exact H)
 have hji3_ : (if 1 < (ji2) then (ji2) else 1) = ji3 := hji3
 simp only [Option.some.injEq, Prod.mk.injEq] at H
 obtain ⟨rfl, rfl⟩ := H
 go_enter Try.func39, Try.ntmps39
 go_wp2_with (first | ((with_reducible refine gate_dst (N := 7) rfl ?_); refine box_event ?hg (N := 7) ?hd (cs := #[.int .i64 ji3, .slice none 0 0]) (t := 69) ?hr ?_; (case hd => rfl); (case hg => rfl); (case hr => first | (go_simp; done) | (go_simp; rfl)); intro gb161 hg w4 hbox hb; have BK161 := Goto.m0 (hbox); have GW161 := Goto.gs HB hg; have GE161 := Goto.gs HB hg; replace HB := Goto.hs HB hb; clear hb hbox hg))
 go_ret
 exact ⟨_, _, by first | rfl | (simp [errW_none, errW_some] <;> rfl) | (simp only [← hji2, ← hji3]; first | rfl | (simp [errW_none, errW_some] <;> rfl)) | (simp [*, errW_none, errW_some] <;> rfl), Kd.Q_of_R (by first | exact Kd.R_nil _ _ _ _ _ | exact Kd.N_nil _ _ _ _ _ | exact Kd.V_nil _ _ _ _ _ | exact Kd.Q_nil _ _ _ _ _ | exact Kd.S_nil _ _ _ _ _), by (with_reducible repeat first | refine blk_drewN ?_ _ | refine blk_drew ?_ | refine blk_alloc ?_ _); exact BK161.out, GW161.out, by repeat (first | (with_reducible first | exact HB.out | apply below_alloc | apply pw_below_drewN | apply below_drew1 | refine below_set ?_ GE161.out) | exact HB.out)⟩

/-! ### tontineref15_Box_Waits: function 46 -/
def tontineref15_Box_Waits.l0 : Nat → Int → Int → Int → Int → List (S63) → Option (Int × (List (S63)))
  | 0, _, _, _, _, _ => none
  | k + 1, x1, x5, x6, x1000, x1001 => if x6 < (x1001.length : Int) then (if 0 ≤ x6 then (if ((rd_T63 x1001 x6).f0) = x1 then (tontineref15_Box_Waits.l0 k x1 (wrap64 (x5 + 1)) (wrap64 (x6 + 1)) x1000 x1001) else (tontineref15_Box_Waits.l0 k x1 x5 (wrap64 (x6 + 1)) x1000 x1001)) else (none)) else (some (x5, x1001))
def tontineref15_Box_Waits.f (k : Nat) (a0_0 : Int) (l0_1 : List (S63)) (a1 : Int) : Option (Int × (List (S63))) := tontineref15_Box_Waits.l0 k a1 0 0 a0_0 l0_1
theorem tontineref15_Box_Waits.mono_l : ∀ k, (∀ y0 y1 y2 y3 y4, LeO (tontineref15_Box_Waits.l0 k y0 y1 y2 y3 y4) (tontineref15_Box_Waits.l0 (k + 1) y0 y1 y2 y3 y4))
  | 0 => fun _ _ _ _ _ r h => by simp [tontineref15_Box_Waits.l0] at h
  | k + 1 => by
    have ih0 := tontineref15_Box_Waits.mono_l k
    · intro y0 y1 y2 y3 y4
      unfold tontineref15_Box_Waits.l0
      repeat' first
      | (with_reducible exact ih0 _ _ _ _ _)
      | (with_reducible exact LeO.refl _)
      | (with_reducible exact LeO.none _)
      | (with_reducible refine LeO.ite ?_ ?_)
      | (with_reducible refine LeO.bind ?_ (fun _ => ?_))
      | exact ih0 _ _ _ _ _
      | exact LeO.none _
      | refine LeO.ite ?_ ?_
      | refine LeO.bind ?_ (fun _ => ?_)
theorem tontineref15_Box_Waits.mono : ∀ a0 a1 a2 k, LeO (tontineref15_Box_Waits.f k a0 a1 a2) (tontineref15_Box_Waits.f (k + 1) a0 a1 a2) := by
 intro a0 a1 a2 k
 have ih0 := tontineref15_Box_Waits.mono_l k
 unfold tontineref15_Box_Waits.f
 repeat' first
   | (with_reducible exact ih0 _ _ _ _ _)
   | (with_reducible exact LeO.refl _)
   | (with_reducible exact LeO.none _)
   | (with_reducible refine LeO.ite ?_ ?_)
   | (with_reducible refine LeO.bind ?_ (fun _ => ?_))
   | exact ih0 _ _ _ _ _
   | exact LeO.none _
   | refine LeO.ite ?_ ?_
   | refine LeO.bind ?_ (fun _ => ?_)
set_option maxHeartbeats 8000000 in
set_option maxRecDepth 100000 in
theorem tontineref15_Box_Waits.calls (k : Nat) (g : Nat) (a0_0 : Int) (P0_1_ : Nat → Prop) (u9000_ : Value) (l0_1 : List (S63)) (a1 : Int) (r1 : Int) (r2 : List (S63)) (w0 w : World) (hI : w.heap[g]? = some (.cells #[.int .i64 a0_0, u9000_] 69 (0, 0))) (hG : w0.heap.size ≤ g) (hB : Below w0.heap.size w0 w) (ho0_1 : Kd.Q k63 63 w w0.heap.size P0_1_ u9000_ l0_1) (h : tontineref15_Box_Waits.f k a0_0 l0_1 a1 = some (r1, r2)) :
    Calls Try.prog 46 #[.pointer (some ⟨g, 0, none⟩), .int .i64 a1] w fun e w' => e = .returned (.int .i64 r1) ∧ w'.heap[g]? = some (.cells #[.int .i64 a0_0, u9000_] 69 (0, 0)) ∧ Kd.Q k63 63 w' w0.heap.size (fun k_ => (P0_1_ k_ ∨ w.heap.size ≤ k_)) u9000_ r2 ∧ Below w0.heap.size w0 w' ∧ Kept w w' (fun k_ => (P0_1_ k_) ∨ k_ = g) := by
 have HO0_1 := Goto.m0 (show Kd.Q k63 63 w w0.heap.size (fun k_ => (P0_1_ k_ ∨ w.heap.size ≤ k_)) u9000_ l0_1 from Kd.Q_mono ho0_1 (fun k_ hk => (.inl hk)))
 have BK0 := Goto.m0 hI
 have GE0 := Goto.m0 hG
 clear hI hG
 have HK := Goto.m0 (Kept.refl w (fun k_ => (P0_1_ k_) ∨ k_ = g))
 have HW0 := Goto.m0 hB.size
 have HB := Goto.m0 hB
 clear hB
 have H : (tontineref15_Box_Waits.l0 k a1 0 0 a0_0 l0_1) = some (r1, r2) := h
 clear h
 have H' := Goto.m0 H
 clear H
 go_enter Try.func46, Try.ntmps46
 go_wp2
 go_loopg [5, 6] k (fun kq v5 v6 w' => ∃ (x5_1 : Int) (x6_1 : Int), v5 = .int .i64 x5_1 ∧ v6 = .int .i64 x6_1 ∧ Aside0 (tontineref15_Box_Waits.l0 kq a1 x5_1 x6_1 a0_0 l0_1 = some (r1, r2)) ∧ Aside0 (kq ≤ k) ∧ Aside0 (Kd.Q k63 63 w' w0.heap.size (fun k_ => (P0_1_ k_ ∨ w.heap.size ≤ k_)) u9000_ l0_1) ∧ Aside0 (w'.heap[g]? = some (.cells #[.int .i64 a0_0, u9000_] 69 (0, 0))) ∧ Aside0 (Kept w w' (fun k_ => (P0_1_ k_) ∨ k_ = g)) ∧ Aside0 (Below w0.heap.size w0 w'))
 case atStart => exact ⟨(0), (0), (by first | rfl | (simp; done) | (simp [*]; done)), (by first | rfl | (simp; done) | (simp [*]; done)), H', ⟨Nat.le_refl _⟩, ⟨by (with_reducible repeat (first | apply Kd.Q_alloc | apply Kd.Q_drewN | apply Kd.Q_drew)); exact HO0_1.out⟩, ⟨Goto.bx BK0⟩, ⟨by repeat (first | (with_reducible first | exact HK.out | apply Kept.alloc | apply Kept.drewN | apply Kept.drew | refine Kept.setCell ?_ (.inl (.inr rfl)) _) | exact HK.out)⟩, ⟨Goto.hx HB⟩⟩
 case round =>
  clear H'
  try clear p2
  obtain ⟨x5_1, x6_1, rfl, rfl, HA, HK1, HO_1001, BK0, HK, HB⟩ := hrel
  cases gk with
  | zero => exact absurd HA.out (by simp [tontineref15_Box_Waits.l0])
  | succ k1 =>
   have H := HA.out; clear HA
   simp only [tontineref15_Box_Waits.l0] at H
   by_cases c3 : x6_1 < (l0_1.length : Int)
   ·
    rw [if_pos c3] at H
    have c3b0 : decide (x6_1 < (l0_1.length : Int)) = true := decide_eq_true c3
    clear c3
    by_cases c4 : 0 ≤ x6_1
    ·
     rw [if_pos c4] at H
     have c4b0 : decide (0 ≤ x6_1) = true := decide_eq_true c4
     clear c4
     by_cases c5 : ((rd_T63 l0_1 x6_1).f0) = a1
     ·
      rw [if_pos c5] at H
      have c5b0 : (((rd_T63 l0_1 x6_1).f0) == a1) = true := beq_iff_eq.mpr c5
      have c5b1 : (((rd_T63 l0_1 x6_1).f0) != a1) = false := bne_eq_false_iff_eq.mpr c5
      clear c5
      have H' := Goto.m0 H
      clear H; have hcz6_0 : wr.cell? ⟨g, 0, none⟩ = some (.int .i64 a0_0) := (blk_cell BK0.out 0).trans rfl; have hcz6_1 : wr.cell? ⟨g, 1, none⟩ = some (u9000_) := (blk_cell BK0.out 1).trans rfl; have hfz6_0 := blk_frozen BK0.out 0; have hfz6_1 := blk_frozen BK0.out 1
      obtain ⟨Ao7, co7, eo7, _⟩ := Kd.Q_slice HO_1001.out
      subst eo7
      have p162 : 0 ≤ (x6_1 : Int) := of_decide_eq_true (by first | (with_reducible assumption) | assumption)
      have q162 : x6_1 < (l0_1.length : Int) := of_decide_eq_true (by first | (with_reducible assumption) | assumption)
      obtain ⟨ad162, e162, hx162_0, hx162_1⟩ := at_T63 (Kd.Q_reads' HO_1001.out).2.2 x6_1 p162 q162
      cases e162
      replace p162 := eq_true p162; replace q162 := eq_true q162
      go_wp2
      go_roundg k1
      case measure => have := HK1.out; omega
      case rel => exact ⟨(wrap64 (x5_1 + 1)), (wrap64 (x6_1 + 1)), (by first | rfl | (simp; done) | (simp [*]; done)), (by first | rfl | (simp; done) | (simp [*]; done)), H', ⟨by have := HK1.out; omega⟩, ⟨by (with_reducible repeat (first | apply Kd.Q_alloc | apply Kd.Q_drewN | apply Kd.Q_drew)); exact HO_1001.out⟩, ⟨Goto.bx BK0⟩, ⟨by repeat (first | (with_reducible first | exact HK.out | apply Kept.alloc | apply Kept.drewN | apply Kept.drew | refine Kept.setCell ?_ (.inl (.inr rfl)) _) | exact HK.out)⟩, ⟨Goto.hx HB⟩⟩
     ·
      rw [if_neg c5] at H
      have c5b0 : (((rd_T63 l0_1 x6_1).f0) == a1) = false := beq_eq_false_iff_ne.mpr c5
      have c5b1 : (((rd_T63 l0_1 x6_1).f0) != a1) = true := bne_iff_ne.mpr c5
      have H' := Goto.m0 H
      clear H; have hcz8_0 : wr.cell? ⟨g, 0, none⟩ = some (.int .i64 a0_0) := (blk_cell BK0.out 0).trans rfl; have hcz8_1 : wr.cell? ⟨g, 1, none⟩ = some (u9000_) := (blk_cell BK0.out 1).trans rfl; have hfz8_0 := blk_frozen BK0.out 0; have hfz8_1 := blk_frozen BK0.out 1
      obtain ⟨Ao9, co9, eo9, _⟩ := Kd.Q_slice HO_1001.out
      subst eo9
      have p162 : 0 ≤ (x6_1 : Int) := of_decide_eq_true (by first | (with_reducible assumption) | assumption)
      have q162 : x6_1 < (l0_1.length : Int) := of_decide_eq_true (by first | (with_reducible assumption) | assumption)
      obtain ⟨ad162, e162, hx162_0, hx162_1⟩ := at_T63 (Kd.Q_reads' HO_1001.out).2.2 x6_1 p162 q162
      cases e162
      replace p162 := eq_true p162; replace q162 := eq_true q162
      go_wp2
      go_roundg k1
      case measure => have := HK1.out; omega
      case rel => exact ⟨(x5_1), (wrap64 (x6_1 + 1)), (by first | rfl | (simp; done) | (simp [*]; done)), (by first | rfl | (simp; done) | (simp [*]; done)), H', ⟨by have := HK1.out; omega⟩, ⟨by (with_reducible repeat (first | apply Kd.Q_alloc | apply Kd.Q_drewN | apply Kd.Q_drew)); exact HO_1001.out⟩, ⟨Goto.bx BK0⟩, ⟨by repeat (first | (with_reducible first | exact HK.out | apply Kept.alloc | apply Kept.drewN | apply Kept.drew | refine Kept.setCell ?_ (.inl (.inr rfl)) _) | exact HK.out)⟩, ⟨Goto.hx HB⟩⟩
    ·
     rw [if_neg c4] at H
     exact absurd H (by simp)
   ·
    rw [if_neg c3] at H
    have c3b0 : decide (x6_1 < (l0_1.length : Int)) = false := decide_eq_false c3
    clear c3
    simp only [Option.some.injEq, Prod.mk.injEq] at H
    obtain ⟨rfl, rfl⟩ := H
    have hcz10_0 : wr.cell? ⟨g, 0, none⟩ = some (.int .i64 a0_0) := (blk_cell BK0.out 0).trans rfl; have hcz10_1 : wr.cell? ⟨g, 1, none⟩ = some (u9000_) := (blk_cell BK0.out 1).trans rfl; have hfz10_0 := blk_frozen BK0.out 0; have hfz10_1 := blk_frozen BK0.out 1
    obtain ⟨Ao11, co11, eo11, _⟩ := Kd.Q_slice HO_1001.out
    subst eo11
    go_wp2
    go_ret
    (try simp only [← exists_and_left])
    exact ⟨by first | rfl | (simp [errW_none, errW_some] <;> rfl) | (simp [*, errW_none, errW_some] <;> rfl), by (with_reducible repeat first | refine blk_drewN ?_ _ | refine blk_drew ?_ | refine blk_alloc ?_ _); exact BK0.out, by (with_reducible repeat (first | apply Kd.Q_alloc | apply Kd.Q_drewN | apply Kd.Q_drew)); exact HO_1001.out, by repeat (first | (with_reducible first | exact HB.out | apply below_alloc | apply pw_below_drewN | apply below_drew1 | refine below_set ?_ GE0.out) | exact HB.out), by repeat (first | (with_reducible first | exact HK.out | apply Kept.alloc | apply Kept.drewN | apply Kept.drew | refine Kept.setCell ?_ (.inl (.inr rfl)) _) | exact HK.out)⟩

end Go.Proofs.Ytpbcamdjcnokfaa.P
