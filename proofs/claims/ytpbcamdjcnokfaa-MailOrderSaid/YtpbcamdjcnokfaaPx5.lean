/- Printed by a program of this workplace (a turned copy of the kit's optional print), out of the translation; not trusted: Lean checks it. -/
import Derived.Test.YtpbcamdjcnokfaaPx0
import Derived.Test.YtpbcamdjcnokfaaPx1
import Derived.Test.YtpbcamdjcnokfaaPx2
import Derived.Test.YtpbcamdjcnokfaaPx3
import Derived.Test.YtpbcamdjcnokfaaPx4
namespace Go.Proofs.Ytpbcamdjcnokfaa.P
open Go.RowKit Go.Proofs.YtpbcamdjcnokfaaW.PrintWords Go.Proofs.YtpbcamdjcnokfaaW.PrintLast Go.Proofs.YtpbcamdjcnokfaaW.PrintMore
attribute [local go_sem] max2_int min2_int max_two min_two max_three min_three max_four min_four   -- for this text's walks alone
set_option linter.unusedVariables false
set_option linter.unusedSimpArgs false

attribute [local go_sem high] eqA63
/-! ### tontinelaw19_known: function 37 -/
def tontinelaw19_known.f (k : Nat)  : Option (Bool) := (mail_New.f 1).bind fun bt119 => ((mail_Quota.f 2).bind fun bt123 => ((mail_Box_Put.f k bt119.1 bt119.2 1 5).bind fun bt126 => ((mail_Box_Put.f k bt126.2 bt119.2 1 6).bind fun bt130 => ((mail_Box_Put.f k bt130.2 bt119.2 2 7).bind fun bt134 => ((mail_Box_Take.f bt134.2 bt119.2).bind fun bt138 => ((mail_Purse_Spend.f bt123.1 bt123.2).bind fun bt145 => ((mail_Purse_Spend.f bt145.2.1 bt145.2.2).bind fun bt148 => ((mail_Purse_Spend.f bt148.2.1 bt148.2.2).bind fun bt151 => ((mail_Purse_Fill.f bt151.2.1 bt151.2.2).bind fun bt154 => (if bt126.1 = true then (if bt130.1 = true then (some false) else (if bt134.1 = true then (if bt138.2.2.1 = true then (if (bt138.1 == 1 && (bt138.2.1 == 5)) = true then ((mail_Box_Len.f bt138.2.2.2 bt119.2).bind fun bt156 => (if bt156.1 = 1 then ((mail_Box_Waits.f k bt156.2 bt119.2 2).bind fun bt160 => (if bt160.1 = 1 then (if bt145.1 = true then (if bt148.1 = true then (if bt151.1 = true then (some false) else ((mail_Purse_Left.f bt154.1 bt154.2).bind fun bt164 => (some (bt164.1 == 2)))) else (some false)) else (some false)) else (some false))) else (some false))) else (some false)) else (some false)) else (some false))) else (some false)))))))))))
theorem tontinelaw19_known.mono : ∀ k, LeO (tontinelaw19_known.f k ) (tontinelaw19_known.f (k + 1) ) := by
 intro  k
 unfold tontinelaw19_known.f
 repeat' first
   | (with_reducible exact mail_Box_Put.mono _ _ _ _ _)
   | (with_reducible exact mail_Box_Waits.mono _ _ _ _)
   | (with_reducible exact LeO.refl _)
   | (with_reducible exact LeO.none _)
   | (with_reducible refine LeO.ite ?_ ?_)
   | (with_reducible refine LeO.bind ?_ (fun _ => ?_))
   | exact mail_Box_Put.mono _ _ _ _ _
   | exact mail_Box_Waits.mono _ _ _ _
   | exact LeO.none _
   | refine LeO.ite ?_ ?_
   | refine LeO.bind ?_ (fun _ => ?_)
set_option maxHeartbeats 8000000 in
set_option maxRecDepth 100000 in
theorem tontinelaw19_known.calls (k : Nat)  (r : Bool) (hrt : r = true) (w : World) (h : tontinelaw19_known.f k  = some r) :
    Calls Try.prog 37 #[] w fun e w' => e = .returned (.bool r) ∧ Below w.heap.size w w' := by
 have hu63 := Try.underlying63
 have HB := Goto.m0 (Below.refl w.heap.size w)
 have HRT := Goto.m0 hrt
 clear hrt
 have H : ((mail_New.f 1).bind fun bt119 => ((mail_Quota.f 2).bind fun bt123 => ((mail_Box_Put.f k bt119.1 bt119.2 1 5).bind fun bt126 => ((mail_Box_Put.f k bt126.2 bt119.2 1 6).bind fun bt130 => ((mail_Box_Put.f k bt130.2 bt119.2 2 7).bind fun bt134 => ((mail_Box_Take.f bt134.2 bt119.2).bind fun bt138 => ((mail_Purse_Spend.f bt123.1 bt123.2).bind fun bt145 => ((mail_Purse_Spend.f bt145.2.1 bt145.2.2).bind fun bt148 => ((mail_Purse_Spend.f bt148.2.1 bt148.2.2).bind fun bt151 => ((mail_Purse_Fill.f bt151.2.1 bt151.2.2).bind fun bt154 => (if bt126.1 = true then (if bt130.1 = true then (some false) else (if bt134.1 = true then (if bt138.2.2.1 = true then (if (bt138.1 == 1 && (bt138.2.1 == 5)) = true then ((mail_Box_Len.f bt138.2.2.2 bt119.2).bind fun bt156 => (if bt156.1 = 1 then ((mail_Box_Waits.f k bt156.2 bt119.2 2).bind fun bt160 => (if bt160.1 = 1 then (if bt145.1 = true then (if bt148.1 = true then (if bt151.1 = true then (some false) else ((mail_Purse_Left.f bt154.1 bt154.2).bind fun bt164 => (some (bt164.1 == 2)))) else (some false)) else (some false)) else (some false))) else (some false))) else (some false)) else (some false)) else (some false))) else (some false)))))))))))) = some r := h
 clear h
 replace H := Option.bind_eq_some_iff.mp H
 obtain ⟨⟨t119, t122⟩, A10, H⟩ := H
 replace H : ((mail_Quota.f 2).bind fun bt123 => ((mail_Box_Put.f k t119 t122 1 5).bind fun bt126 => ((mail_Box_Put.f k bt126.2 t122 1 6).bind fun bt130 => ((mail_Box_Put.f k bt130.2 t122 2 7).bind fun bt134 => ((mail_Box_Take.f bt134.2 t122).bind fun bt138 => ((mail_Purse_Spend.f bt123.1 bt123.2).bind fun bt145 => ((mail_Purse_Spend.f bt145.2.1 bt145.2.2).bind fun bt148 => ((mail_Purse_Spend.f bt148.2.1 bt148.2.2).bind fun bt151 => ((mail_Purse_Fill.f bt151.2.1 bt151.2.2).bind fun bt154 => (if bt126.1 = true then (if bt130.1 = true then (some false) else (if bt134.1 = true then (if bt138.2.2.1 = true then (if (bt138.1 == 1 && (bt138.2.1 == 5)) = true then ((mail_Box_Len.f bt138.2.2.2 t122).bind fun bt156 => (if bt156.1 = 1 then ((mail_Box_Waits.f k bt156.2 t122 2).bind fun bt160 => (if bt160.1 = 1 then (if bt145.1 = true then (if bt148.1 = true then (if bt151.1 = true then (some false) else ((mail_Purse_Left.f bt154.1 bt154.2).bind fun bt164 => (some (bt164.1 == 2)))) else (some false)) else (some false)) else (some false))) else (some false))) else (some false)) else (some false)) else (some false))) else (some false))))))))))) = some r := H
 have A1 := Goto.m0 A10
 clear A10
 replace H := Option.bind_eq_some_iff.mp H
 obtain ⟨⟨t123, t124⟩, A20, H⟩ := H
 replace H : ((mail_Box_Put.f k t119 t122 1 5).bind fun bt126 => ((mail_Box_Put.f k bt126.2 t122 1 6).bind fun bt130 => ((mail_Box_Put.f k bt130.2 t122 2 7).bind fun bt134 => ((mail_Box_Take.f bt134.2 t122).bind fun bt138 => ((mail_Purse_Spend.f t123 t124).bind fun bt145 => ((mail_Purse_Spend.f bt145.2.1 bt145.2.2).bind fun bt148 => ((mail_Purse_Spend.f bt148.2.1 bt148.2.2).bind fun bt151 => ((mail_Purse_Fill.f bt151.2.1 bt151.2.2).bind fun bt154 => (if bt126.1 = true then (if bt130.1 = true then (some false) else (if bt134.1 = true then (if bt138.2.2.1 = true then (if (bt138.1 == 1 && (bt138.2.1 == 5)) = true then ((mail_Box_Len.f bt138.2.2.2 t122).bind fun bt156 => (if bt156.1 = 1 then ((mail_Box_Waits.f k bt156.2 t122 2).bind fun bt160 => (if bt160.1 = 1 then (if bt145.1 = true then (if bt148.1 = true then (if bt151.1 = true then (some false) else ((mail_Purse_Left.f bt154.1 bt154.2).bind fun bt164 => (some (bt164.1 == 2)))) else (some false)) else (some false)) else (some false))) else (some false))) else (some false)) else (some false)) else (some false))) else (some false)))))))))) = some r := H
 have A2 := Goto.m0 A20
 clear A20
 replace H := Option.bind_eq_some_iff.mp H
 obtain ⟨⟨t126, t127⟩, A30, H⟩ := H
 replace H : ((mail_Box_Put.f k t127 t122 1 6).bind fun bt130 => ((mail_Box_Put.f k bt130.2 t122 2 7).bind fun bt134 => ((mail_Box_Take.f bt134.2 t122).bind fun bt138 => ((mail_Purse_Spend.f t123 t124).bind fun bt145 => ((mail_Purse_Spend.f bt145.2.1 bt145.2.2).bind fun bt148 => ((mail_Purse_Spend.f bt148.2.1 bt148.2.2).bind fun bt151 => ((mail_Purse_Fill.f bt151.2.1 bt151.2.2).bind fun bt154 => (if t126 = true then (if bt130.1 = true then (some false) else (if bt134.1 = true then (if bt138.2.2.1 = true then (if (bt138.1 == 1 && (bt138.2.1 == 5)) = true then ((mail_Box_Len.f bt138.2.2.2 t122).bind fun bt156 => (if bt156.1 = 1 then ((mail_Box_Waits.f k bt156.2 t122 2).bind fun bt160 => (if bt160.1 = 1 then (if bt145.1 = true then (if bt148.1 = true then (if bt151.1 = true then (some false) else ((mail_Purse_Left.f bt154.1 bt154.2).bind fun bt164 => (some (bt164.1 == 2)))) else (some false)) else (some false)) else (some false))) else (some false))) else (some false)) else (some false)) else (some false))) else (some false))))))))) = some r := H
 have A3 := Goto.m0 A30
 clear A30
 replace H := Option.bind_eq_some_iff.mp H
 obtain ⟨⟨t130, t131⟩, A40, H⟩ := H
 replace H : ((mail_Box_Put.f k t131 t122 2 7).bind fun bt134 => ((mail_Box_Take.f bt134.2 t122).bind fun bt138 => ((mail_Purse_Spend.f t123 t124).bind fun bt145 => ((mail_Purse_Spend.f bt145.2.1 bt145.2.2).bind fun bt148 => ((mail_Purse_Spend.f bt148.2.1 bt148.2.2).bind fun bt151 => ((mail_Purse_Fill.f bt151.2.1 bt151.2.2).bind fun bt154 => (if t126 = true then (if t130 = true then (some false) else (if bt134.1 = true then (if bt138.2.2.1 = true then (if (bt138.1 == 1 && (bt138.2.1 == 5)) = true then ((mail_Box_Len.f bt138.2.2.2 t122).bind fun bt156 => (if bt156.1 = 1 then ((mail_Box_Waits.f k bt156.2 t122 2).bind fun bt160 => (if bt160.1 = 1 then (if bt145.1 = true then (if bt148.1 = true then (if bt151.1 = true then (some false) else ((mail_Purse_Left.f bt154.1 bt154.2).bind fun bt164 => (some (bt164.1 == 2)))) else (some false)) else (some false)) else (some false))) else (some false))) else (some false)) else (some false)) else (some false))) else (some false)))))))) = some r := H
 have A4 := Goto.m0 A40
 clear A40
 replace H := Option.bind_eq_some_iff.mp H
 obtain ⟨⟨t134, t135⟩, A50, H⟩ := H
 replace H : ((mail_Box_Take.f t135 t122).bind fun bt138 => ((mail_Purse_Spend.f t123 t124).bind fun bt145 => ((mail_Purse_Spend.f bt145.2.1 bt145.2.2).bind fun bt148 => ((mail_Purse_Spend.f bt148.2.1 bt148.2.2).bind fun bt151 => ((mail_Purse_Fill.f bt151.2.1 bt151.2.2).bind fun bt154 => (if t126 = true then (if t130 = true then (some false) else (if t134 = true then (if bt138.2.2.1 = true then (if (bt138.1 == 1 && (bt138.2.1 == 5)) = true then ((mail_Box_Len.f bt138.2.2.2 t122).bind fun bt156 => (if bt156.1 = 1 then ((mail_Box_Waits.f k bt156.2 t122 2).bind fun bt160 => (if bt160.1 = 1 then (if bt145.1 = true then (if bt148.1 = true then (if bt151.1 = true then (some false) else ((mail_Purse_Left.f bt154.1 bt154.2).bind fun bt164 => (some (bt164.1 == 2)))) else (some false)) else (some false)) else (some false))) else (some false))) else (some false)) else (some false)) else (some false))) else (some false))))))) = some r := H
 have A5 := Goto.m0 A50
 clear A50
 replace H := Option.bind_eq_some_iff.mp H
 obtain ⟨⟨t138, t139, t140, t141⟩, A60, H⟩ := H
 replace H : ((mail_Purse_Spend.f t123 t124).bind fun bt145 => ((mail_Purse_Spend.f bt145.2.1 bt145.2.2).bind fun bt148 => ((mail_Purse_Spend.f bt148.2.1 bt148.2.2).bind fun bt151 => ((mail_Purse_Fill.f bt151.2.1 bt151.2.2).bind fun bt154 => (if t126 = true then (if t130 = true then (some false) else (if t134 = true then (if t140 = true then (if (t138 == 1 && (t139 == 5)) = true then ((mail_Box_Len.f t141 t122).bind fun bt156 => (if bt156.1 = 1 then ((mail_Box_Waits.f k bt156.2 t122 2).bind fun bt160 => (if bt160.1 = 1 then (if bt145.1 = true then (if bt148.1 = true then (if bt151.1 = true then (some false) else ((mail_Purse_Left.f bt154.1 bt154.2).bind fun bt164 => (some (bt164.1 == 2)))) else (some false)) else (some false)) else (some false))) else (some false))) else (some false)) else (some false)) else (some false))) else (some false)))))) = some r := H
 have A6 := Goto.m0 A60
 clear A60
 replace H := Option.bind_eq_some_iff.mp H
 obtain ⟨⟨t145, t146, t147⟩, A70, H⟩ := H
 replace H : ((mail_Purse_Spend.f t146 t147).bind fun bt148 => ((mail_Purse_Spend.f bt148.2.1 bt148.2.2).bind fun bt151 => ((mail_Purse_Fill.f bt151.2.1 bt151.2.2).bind fun bt154 => (if t126 = true then (if t130 = true then (some false) else (if t134 = true then (if t140 = true then (if (t138 == 1 && (t139 == 5)) = true then ((mail_Box_Len.f t141 t122).bind fun bt156 => (if bt156.1 = 1 then ((mail_Box_Waits.f k bt156.2 t122 2).bind fun bt160 => (if bt160.1 = 1 then (if t145 = true then (if bt148.1 = true then (if bt151.1 = true then (some false) else ((mail_Purse_Left.f bt154.1 bt154.2).bind fun bt164 => (some (bt164.1 == 2)))) else (some false)) else (some false)) else (some false))) else (some false))) else (some false)) else (some false)) else (some false))) else (some false))))) = some r := H
 have A7 := Goto.m0 A70
 clear A70
 replace H := Option.bind_eq_some_iff.mp H
 obtain ⟨⟨t148, t149, t150⟩, A80, H⟩ := H
 replace H : ((mail_Purse_Spend.f t149 t150).bind fun bt151 => ((mail_Purse_Fill.f bt151.2.1 bt151.2.2).bind fun bt154 => (if t126 = true then (if t130 = true then (some false) else (if t134 = true then (if t140 = true then (if (t138 == 1 && (t139 == 5)) = true then ((mail_Box_Len.f t141 t122).bind fun bt156 => (if bt156.1 = 1 then ((mail_Box_Waits.f k bt156.2 t122 2).bind fun bt160 => (if bt160.1 = 1 then (if t145 = true then (if t148 = true then (if bt151.1 = true then (some false) else ((mail_Purse_Left.f bt154.1 bt154.2).bind fun bt164 => (some (bt164.1 == 2)))) else (some false)) else (some false)) else (some false))) else (some false))) else (some false)) else (some false)) else (some false))) else (some false)))) = some r := H
 have A8 := Goto.m0 A80
 clear A80
 replace H := Option.bind_eq_some_iff.mp H
 obtain ⟨⟨t151, t152, t153⟩, A90, H⟩ := H
 replace H : ((mail_Purse_Fill.f t152 t153).bind fun bt154 => (if t126 = true then (if t130 = true then (some false) else (if t134 = true then (if t140 = true then (if (t138 == 1 && (t139 == 5)) = true then ((mail_Box_Len.f t141 t122).bind fun bt156 => (if bt156.1 = 1 then ((mail_Box_Waits.f k bt156.2 t122 2).bind fun bt160 => (if bt160.1 = 1 then (if t145 = true then (if t148 = true then (if t151 = true then (some false) else ((mail_Purse_Left.f bt154.1 bt154.2).bind fun bt164 => (some (bt164.1 == 2)))) else (some false)) else (some false)) else (some false))) else (some false))) else (some false)) else (some false)) else (some false))) else (some false))) = some r := H
 have A9 := Goto.m0 A90
 clear A90
 replace H := Option.bind_eq_some_iff.mp H
 obtain ⟨⟨t154, t155⟩, A100, H⟩ := H
 replace H : (if t126 = true then (if t130 = true then (some false) else (if t134 = true then (if t140 = true then (if (t138 == 1 && (t139 == 5)) = true then ((mail_Box_Len.f t141 t122).bind fun bt156 => (if bt156.1 = 1 then ((mail_Box_Waits.f k bt156.2 t122 2).bind fun bt160 => (if bt160.1 = 1 then (if t145 = true then (if t148 = true then (if t151 = true then (some false) else ((mail_Purse_Left.f t154 t155).bind fun bt164 => (some (bt164.1 == 2)))) else (some false)) else (some false)) else (some false))) else (some false))) else (some false)) else (some false)) else (some false))) else (some false)) = some r := H
 have A10 := Goto.m0 A100
 clear A100
 by_cases c11 : t126 = true
 ·
  subst c11
  rw [if_pos rfl] at H
  by_cases c12 : t130 = true
  ·
   subst c12
   rw [if_pos rfl] at H
   exact absurd ((Option.some.inj H).trans HRT.out) (by decide)
  ·
   replace c12 := Bool.eq_false_iff.mpr c12
   subst c12
   rw [if_neg (show ¬ (false = true) by decide)] at H
   by_cases c13 : t134 = true
   ·
    subst c13
    rw [if_pos rfl] at H
    by_cases c14 : t140 = true
    ·
     subst c14
     rw [if_pos rfl] at H
     by_cases c15 : (t138 == 1 && (t139 == 5)) = true
     ·
      rw [if_pos c15] at H
      have c15b0 : (t138 == 1 && (t139 == 5)) = true := c15
      (try (have c15b1 : decide (t138 = 1 && (t139 == 5)) = true := by simpa using c15))
      (try (have c15b2 : (t138 == 1 && (t139 == 5)) = true := by simpa using c15))
      clear c15
      replace H := Option.bind_eq_some_iff.mp H
      obtain ⟨⟨t156, t157⟩, A160, H⟩ := H
      replace H : (if t156 = 1 then ((mail_Box_Waits.f k t157 t122 2).bind fun bt160 => (if bt160.1 = 1 then (if t145 = true then (if t148 = true then (if t151 = true then (some false) else ((mail_Purse_Left.f t154 t155).bind fun bt164 => (some (bt164.1 == 2)))) else (some false)) else (some false)) else (some false))) else (some false)) = some r := H
      have A16 := Goto.m0 A160
      clear A160
      by_cases c17 : t156 = 1
      ·
       rw [if_pos c17] at H
       have c17b0 : (t156 == 1) = true := beq_iff_eq.mpr c17
       have c17b1 : (t156 != 1) = false := bne_eq_false_iff_eq.mpr c17
       clear c17
       replace H := Option.bind_eq_some_iff.mp H
       obtain ⟨⟨t160, t161⟩, A180, H⟩ := H
       replace H : (if t160 = 1 then (if t145 = true then (if t148 = true then (if t151 = true then (some false) else ((mail_Purse_Left.f t154 t155).bind fun bt164 => (some (bt164.1 == 2)))) else (some false)) else (some false)) else (some false)) = some r := H
       have A18 := Goto.m0 A180
       clear A180
       by_cases c19 : t160 = 1
       ·
        rw [if_pos c19] at H
        have c19b0 : (t160 == 1) = true := beq_iff_eq.mpr c19
        have c19b1 : (t160 != 1) = false := bne_eq_false_iff_eq.mpr c19
        clear c19
        by_cases c20 : t145 = true
        ·
         subst c20
         rw [if_pos rfl] at H
         by_cases c21 : t148 = true
         ·
          subst c21
          rw [if_pos rfl] at H
          by_cases c22 : t151 = true
          ·
           subst c22
           rw [if_pos rfl] at H
           exact absurd ((Option.some.inj H).trans HRT.out) (by decide)
          ·
           replace c22 := Bool.eq_false_iff.mpr c22
           subst c22
           rw [if_neg (show ¬ (false = true) by decide)] at H
           replace H := Option.bind_eq_some_iff.mp H
           obtain ⟨⟨t164, t165, t166⟩, A230, H⟩ := H
           replace H : (some (t164 == 2)) = some r := H
           have A23 := Goto.m0 A230
           clear A230
           obtain rfl := Option.some.inj H
           go_enter Try.func37, Try.ntmps37
           go_wp2_with (first | ((with_reducible refine gate_callee (f := 38) rfl ?_); refine goesL_ (some 11) rfl rfl Try.func38 (by kernel_rfl) rfl #[.int .i64 1] rfl (by (try simp only [List.map_toArray, List.map_cons, List.map_nil]); first | done | rfl | (simp only [List.length_drop, List.length_take]; rfl)) ?_; (with_reducible refine (mail_New.calls 1 t119 t122 _ A1.out).mono ?_); rintro e w24 ⟨v120, gb118, rfl, ho0, hi, hge, hb⟩; refine ⟨_, rfl, ?_⟩; have HO121 := Goto.m0 (Kd.R_lower ho0 (below_size (Goto.hx HB))); have BK118 := Goto.m0 (hi); have GW118 := Goto.m0 ((Nat.le_trans (below_size (Goto.hx HB)) hge : w.heap.size ≤ gb118)); have GE118 := Goto.m0 ((Nat.le_trans (below_size (Goto.hx HB)) hge : w.heap.size ≤ gb118)); replace HB := Goto.hs HB hb; (try clear hb); (try clear hi); (try clear hge); (try clear ho0)) | ((with_reducible refine gate_callee (f := 47) rfl ?_); refine goesL_ (some 12) rfl rfl Try.func47 (by kernel_rfl) rfl #[.int .i64 2] rfl (by (try simp only [List.map_toArray, List.map_cons, List.map_nil]); first | done | rfl | (simp only [List.length_drop, List.length_take]; rfl)) ?_; (with_reducible refine (mail_Quota.calls 2 t123 t124 w _ ?side1 A2.out).mono ?_); (case side1 => repeat (first | (with_reducible first | exact HB.out | apply below_alloc | apply pw_below_drewN | apply below_drew1 | refine below_set ?_ GE118.out) | exact HB.out)); rintro e w25 ⟨g125, rfl, hi, hb, hb2⟩; refine ⟨_, rfl, ?_⟩; have HI125 := Goto.m0 (hi); have NB125_118 := Goto.m0 (IsS86.ne_blk hi (blk_below (g := gb118) (o := .cells #[v120, .int .i64 t122] 83 (0, 0)) (Goto.bx BK118) hb2) (by decide)); have NB118_125 := Goto.m0 (Ne.symm (IsS86.ne_blk hi (blk_below (g := gb118) (o := .cells #[v120, .int .i64 t122] 83 (0, 0)) (Goto.bx BK118) hb2) (by decide))); replace HO121 := Goto.m0 (Kd.R_below (by (with_reducible repeat (first | apply Kd.R_alloc | apply Kd.R_drewN | apply Kd.R_drew)); exact HO121.out) hb2); replace BK118 := Goto.m0 (blk_below (g := gb118) (o := .cells #[v120, .int .i64 t122] 83 (0, 0)) (Goto.bx BK118) hb2); replace HB := Goto.m0 (hb); (try clear hb); (try clear hb2); (try clear hk); (try clear hi)) | ((with_reducible refine gate_callee (f := 40) rfl ?_); refine goesL_ (some 21) rfl rfl Try.func40 (by kernel_rfl) rfl #[.pointer (some ⟨gb118, 0, none⟩), .agg #[.int .i64 1, .int .i64 5]] rfl (by (try simp only [List.map_toArray, List.map_cons, List.map_nil]); first | done | rfl | (simp only [List.length_drop, List.length_take]; rfl)) ?_; (with_reducible refine (mail_Box_Put.calls k gb118 (fun k_ => some k_ = (v120 : Value).ownBlock) v120 t119 t122 1 5 true t127 w _ ?side1 ?side2 ?side3 ?side4 A3.out).mono ?_); (case side1 => exact by (with_reducible repeat first | refine blk_drewN ?_ _ | refine blk_drew ?_ | refine blk_alloc ?_ _); exact BK118.out); (case side2 => exact GE118.out); (case side3 => repeat (first | (with_reducible first | exact HB.out | apply below_alloc | apply pw_below_drewN | apply below_drew1 | refine below_set ?_ (IsS86.ge HI125.out) | refine below_set ?_ GE118.out) | exact HB.out)); (case side4 => exact Kd.R_tight rfl HO121.out); rintro e w26 ⟨v128, rfl, ho0, hi, hb, hkp⟩; refine ⟨_, rfl, ?_⟩; have n0_ := Goto.m0 (hi); have n1_ := Goto.m0 (IsS86.kept (by repeat (first | (with_reducible first | exact HI125.out | apply IsS86.alloc | apply IsS86.drewN | apply IsS86.drew | apply IsS86.set_0 | apply IsS86.set_1 | refine IsS86.far ?_ NB125_118.out _) | exact HI125.out)) hkp (fun hs_ => Or.elim hs_ (fun hs_ => (fun e_ => (IsS86.own_ne HI125.out HO121.out (by decide)) e_) hs_) (fun e_ => (IsS86.ne_blk HI125.out BK118.out (by decide)) e_))); have n2_ := Goto.m0 (Kd.R_mono (ok' := fun k_ => True) ho0 (fun k_ hk_ => trivial)); have n3_ := Goto.m0 (hb); clear BK118; clear HI125; clear HB; clear HO121; have BK118 := n0_; have HI125 := n1_; have HO129 := n2_; have HB := n3_; clear n0_ n1_ n2_ n3_; (try clear hb); (try clear hkp); (try clear ho0)) | ((with_reducible refine gate_callee (f := 40) rfl ?_); refine goesL_ (some 24) rfl rfl Try.func40 (by kernel_rfl) rfl #[.pointer (some ⟨gb118, 0, none⟩), .agg #[.int .i64 1, .int .i64 6]] rfl (by (try simp only [List.map_toArray, List.map_cons, List.map_nil]); first | done | rfl | (simp only [List.length_drop, List.length_take]; rfl)) ?_; (with_reducible refine (mail_Box_Put.calls k gb118 (fun k_ => some k_ = (v128 : Value).ownBlock) v128 t127 t122 1 6 false t131 w _ ?side1 ?side2 ?side3 ?side4 A4.out).mono ?_); (case side1 => exact by (with_reducible repeat first | refine blk_drewN ?_ _ | refine blk_drew ?_ | refine blk_alloc ?_ _); exact BK118.out); (case side2 => exact GE118.out); (case side3 => repeat (first | (with_reducible first | exact HB.out | apply below_alloc | apply pw_below_drewN | apply below_drew1 | refine below_set ?_ (IsS86.ge HI125.out) | refine below_set ?_ GE118.out) | exact HB.out)); (case side4 => exact Kd.R_tight rfl HO129.out); rintro e w27 ⟨v132, rfl, ho0, hi, hb, hkp⟩; refine ⟨_, rfl, ?_⟩; have n0_ := Goto.m0 (hi); have n1_ := Goto.m0 (IsS86.kept (by repeat (first | (with_reducible first | exact HI125.out | apply IsS86.alloc | apply IsS86.drewN | apply IsS86.drew | apply IsS86.set_0 | apply IsS86.set_1 | refine IsS86.far ?_ NB125_118.out _) | exact HI125.out)) hkp (fun hs_ => Or.elim hs_ (fun hs_ => (fun e_ => (IsS86.own_ne HI125.out HO129.out (by decide)) e_) hs_) (fun e_ => (IsS86.ne_blk HI125.out BK118.out (by decide)) e_))); have n2_ := Goto.m0 (Kd.R_mono (ok' := fun k_ => True) ho0 (fun k_ hk_ => trivial)); have n3_ := Goto.m0 (hb); clear BK118; clear HI125; clear HB; clear HO129; have BK118 := n0_; have HI125 := n1_; have HO133 := n2_; have HB := n3_; clear n0_ n1_ n2_ n3_; (try clear hb); (try clear hkp); (try clear ho0)) | ((with_reducible refine gate_callee (f := 40) rfl ?_); refine goesL_ (some 27) rfl rfl Try.func40 (by kernel_rfl) rfl #[.pointer (some ⟨gb118, 0, none⟩), .agg #[.int .i64 2, .int .i64 7]] rfl (by (try simp only [List.map_toArray, List.map_cons, List.map_nil]); first | done | rfl | (simp only [List.length_drop, List.length_take]; rfl)) ?_; (with_reducible refine (mail_Box_Put.calls k gb118 (fun k_ => some k_ = (v132 : Value).ownBlock) v132 t131 t122 2 7 true t135 w _ ?side1 ?side2 ?side3 ?side4 A5.out).mono ?_); (case side1 => exact by (with_reducible repeat first | refine blk_drewN ?_ _ | refine blk_drew ?_ | refine blk_alloc ?_ _); exact BK118.out); (case side2 => exact GE118.out); (case side3 => repeat (first | (with_reducible first | exact HB.out | apply below_alloc | apply pw_below_drewN | apply below_drew1 | refine below_set ?_ (IsS86.ge HI125.out) | refine below_set ?_ GE118.out) | exact HB.out)); (case side4 => exact Kd.R_tight rfl HO133.out); rintro e w28 ⟨v136, rfl, ho0, hi, hb, hkp⟩; refine ⟨_, rfl, ?_⟩; have n0_ := Goto.m0 (hi); have n1_ := Goto.m0 (IsS86.kept (by repeat (first | (with_reducible first | exact HI125.out | apply IsS86.alloc | apply IsS86.drewN | apply IsS86.drew | apply IsS86.set_0 | apply IsS86.set_1 | refine IsS86.far ?_ NB125_118.out _) | exact HI125.out)) hkp (fun hs_ => Or.elim hs_ (fun hs_ => (fun e_ => (IsS86.own_ne HI125.out HO133.out (by decide)) e_) hs_) (fun e_ => (IsS86.ne_blk HI125.out BK118.out (by decide)) e_))); have n2_ := Goto.m0 (Kd.R_mono (ok' := fun k_ => True) ho0 (fun k_ hk_ => trivial)); have n3_ := Goto.m0 (hb); clear BK118; clear HI125; clear HB; clear HO133; have BK118 := n0_; have HI125 := n1_; have HO137 := n2_; have HB := n3_; clear n0_ n1_ n2_ n3_; (try clear hb); (try clear hkp); (try clear ho0)) | ((with_reducible refine gate_callee (f := 42) rfl ?_); refine goesL_ (some 30) rfl rfl Try.func42 (by kernel_rfl) rfl #[.pointer (some ⟨gb118, 0, none⟩)] rfl (by (try simp only [List.map_toArray, List.map_cons, List.map_nil]); first | done | rfl | (simp only [List.length_drop, List.length_take]; rfl)) ?_; (with_reducible refine (mail_Box_Take.calls gb118 (fun k_ => some k_ = (v136 : Value).ownBlock) v136 t135 t122 t138 t139 true t141 w _ ?side1 ?side2 ?side3 ?side4 A6.out).mono ?_); (case side1 => exact by (with_reducible repeat first | refine blk_drewN ?_ _ | refine blk_drew ?_ | refine blk_alloc ?_ _); exact BK118.out); (case side2 => exact GE118.out); (case side3 => repeat (first | (with_reducible first | exact HB.out | apply below_alloc | apply pw_below_drewN | apply below_drew1 | refine below_set ?_ (IsS86.ge HI125.out) | refine below_set ?_ GE118.out) | exact HB.out)); (case side4 => exact Kd.R_tight rfl HO137.out); rintro e w29 ⟨v142, rfl, ho0, hi, hb, hkp⟩; refine ⟨_, rfl, ?_⟩; have n0_ := Goto.m0 (hi); have n1_ := Goto.m0 (IsS86.kept (by repeat (first | (with_reducible first | exact HI125.out | apply IsS86.alloc | apply IsS86.drewN | apply IsS86.drew | apply IsS86.set_0 | apply IsS86.set_1 | refine IsS86.far ?_ NB125_118.out _) | exact HI125.out)) hkp (fun hs_ => Or.elim hs_ (fun hs_ => (fun e_ => (IsS86.own_ne HI125.out HO137.out (by decide)) e_) hs_) (fun e_ => (IsS86.ne_blk HI125.out BK118.out (by decide)) e_))); have n2_ := Goto.m0 (Kd.R_mono (ok' := fun k_ => True) ho0 (fun k_ hk_ => trivial)); have n3_ := Goto.m0 (hb); clear BK118; clear HI125; clear HB; clear HO137; have BK118 := n0_; have HI125 := n1_; have HO143 := n2_; have HB := n3_; clear n0_ n1_ n2_ n3_; (try clear hb); (try clear hkp); (try clear ho0)) | ((with_reducible refine gate_dst (N := 6) rfl ?_); refine box_event ?hg (N := 6) ?hd (cs := #[.int .i64 0, .int .i64 0]) (t := 63) ?hr ?_; (case hd => rfl); (case hg => rfl); (case hr => first | (go_simp; done) | (go_simp; rfl)); intro gb144 hg w30 hbox hb; have BK144 := Goto.m0 (hbox); have GW144 := Goto.m0 ((by rw [hg]; exact (below_size (by repeat (first | (with_reducible first | exact HB.out | apply below_alloc | apply pw_below_drewN | apply below_drew1 | refine below_set ?_ (IsS86.ge HI125.out) | refine below_set ?_ GE118.out) | exact HB.out))) : w.heap.size ≤ gb144)); have GE144 := Goto.m0 ((by rw [hg]; exact (below_size (by repeat (first | (with_reducible first | exact HB.out | apply below_alloc | apply pw_below_drewN | apply below_drew1 | refine below_set ?_ (IsS86.ge HI125.out) | refine below_set ?_ GE118.out) | exact HB.out))) : w.heap.size ≤ gb144)); have NB118_144 := Goto.nl BK118 hg; have NB144_118 := Goto.nr BK118 hg; have NB125_144 := Goto.m0 ((by rw [hg]; exact Nat.ne_of_lt (IsS86.lt (show IsS86 w _ g125 t123 t124 from by repeat (first | (with_reducible first | exact HI125.out | apply IsS86.alloc | apply IsS86.drewN | apply IsS86.drew | apply IsS86.set_0 | apply IsS86.set_1 | refine IsS86.far ?_ NB125_118.out _) | exact HI125.out))) : g125 ≠ gb144)); have NB144_125 := Goto.m0 ((by rw [hg]; exact Nat.ne_of_gt (IsS86.lt (show IsS86 w _ g125 t123 t124 from by repeat (first | (with_reducible first | exact HI125.out | apply IsS86.alloc | apply IsS86.drewN | apply IsS86.drew | apply IsS86.set_0 | apply IsS86.set_1 | refine IsS86.far ?_ NB125_118.out _) | exact HI125.out))) : gb144 ≠ g125)); replace HO143 := Goto.m0 (Kd.R_below (Kd.R_elderB (by (with_reducible repeat (first | apply Kd.R_alloc | apply Kd.R_drewN | apply Kd.R_drew)); exact HO143.out) gb144 (Nat.le_of_eq hg.symm)) hb); replace BK118 := Goto.bb BK118 hb; replace HB := Goto.m0 (below_step (by repeat (first | (with_reducible first | exact HB.out | apply below_alloc | apply pw_below_drewN | apply below_drew1 | refine below_set ?_ (IsS86.ge HI125.out) | refine below_set ?_ GE118.out) | exact HB.out)) hb); replace HI125 := Goto.m0 (IsS86.below (by repeat (first | (with_reducible first | exact HI125.out | apply IsS86.alloc | apply IsS86.drewN | apply IsS86.drew | apply IsS86.set_0 | apply IsS86.set_1 | refine IsS86.far ?_ NB125_118.out _) | exact HI125.out)) hb); clear hb hbox hg; have hnb31 := NB144_118.out; have hnc31 := NB118_144.out; have hnb32 := NB144_125.out; have hnc32 := NB125_144.out; have hcz33_0 : w30.cell? ⟨gb144, 0, none⟩ = some (.int .i64 0) := (blk_cell BK144.out 0).trans rfl; have hcz33_1 : w30.cell? ⟨gb144, 1, none⟩ = some (.int .i64 0) := (blk_cell BK144.out 1).trans rfl; have hfz33_0 := blk_frozen BK144.out 0; have hfz33_1 := blk_frozen BK144.out 1) | ((with_reducible refine gate_callee (f := 49) rfl ?_); refine goesL_ (some 34) rfl rfl Try.func49 (by kernel_rfl) rfl #[.pointer (some ⟨g125, 0, none⟩)] rfl (by (try simp only [List.map_toArray, List.map_cons, List.map_nil]); first | done | rfl | (simp only [List.length_drop, List.length_take]; rfl)) ?_; (with_reducible refine (mail_Purse_Spend.calls g125 t123 t124 true t146 t147 w _ ?side1 ?side2 A7.out).mono ?_); (case side1 => repeat (first | (with_reducible first | exact HI125.out | apply IsS86.alloc | apply IsS86.drewN | apply IsS86.drew | apply IsS86.set_0 | apply IsS86.set_1 | refine IsS86.far ?_ NB125_118.out _ | refine IsS86.far ?_ NB125_144.out _) | exact HI125.out)); (case side2 => repeat (first | (with_reducible first | exact HB.out | apply below_alloc | apply pw_below_drewN | apply below_drew1 | refine below_set ?_ (IsS86.ge HI125.out) | refine below_set ?_ GE118.out | refine below_set ?_ GE144.out) | exact HB.out)); rintro e w34 ⟨rfl, hi, hb, hk⟩; refine ⟨_, rfl, ?_⟩; replace BK118 := Goto.m0 (KeepBut.blk hk (g' := gb118) (o := .cells #[v142, .int .i64 t122] 83 (0, 0)) (Goto.bx BK118) NB118_125.out (by simp)); replace HO143 := Goto.m0 (Kd.R_mono (Kd.R_keep (IsS86.apart (show IsS86 w _ g125 t123 t124 from by repeat (first | (with_reducible first | exact HI125.out | apply IsS86.alloc | apply IsS86.drewN | apply IsS86.drew | apply IsS86.set_0 | apply IsS86.set_1 | refine IsS86.far ?_ NB125_118.out _ | refine IsS86.far ?_ NB125_144.out _) | exact HI125.out)) (by (with_reducible repeat (first | apply Kd.R_alloc | apply Kd.R_drewN | apply Kd.R_drew)); exact (Kd.R_mono (Kd.R_far (p := ⟨gb144, 1, none⟩) (Kd.R_far (p := ⟨gb144, 0, none⟩) (Goto.nx gb144 HO143.out (fun k_ hk => hk.2)) (fun _ hk => hk.2) (.int .i64 t138)) (fun _ hk => hk.2) (.int .i64 t139)) (fun _ h_ => h_.1))) (by decide)) hk (fun _ h => h.2)) (fun _ h => h.1)); replace BK144 := Goto.m0 (KeepBut.blk hk (g' := gb144) (o := .cells #[.int .i64 t138, .int .i64 t139] 63 (0, 0)) (Goto.bx BK144) NB144_125.out (by simp)); replace HB := Goto.m0 (hb); replace HI125 := Goto.m0 (hi); (try clear hb); (try clear hb2); (try clear hk); (try clear hi)) | ((with_reducible refine gate_callee (f := 49) rfl ?_); refine goesL_ (some 36) rfl rfl Try.func49 (by kernel_rfl) rfl #[.pointer (some ⟨g125, 0, none⟩)] rfl (by (try simp only [List.map_toArray, List.map_cons, List.map_nil]); first | done | rfl | (simp only [List.length_drop, List.length_take]; rfl)) ?_; (with_reducible refine (mail_Purse_Spend.calls g125 t146 t147 true t149 t150 w _ ?side1 ?side2 A8.out).mono ?_); (case side1 => repeat (first | (with_reducible first | exact HI125.out | apply IsS86.alloc | apply IsS86.drewN | apply IsS86.drew | apply IsS86.set_0 | apply IsS86.set_1 | refine IsS86.far ?_ NB125_118.out _ | refine IsS86.far ?_ NB125_144.out _) | exact HI125.out)); (case side2 => repeat (first | (with_reducible first | exact HB.out | apply below_alloc | apply pw_below_drewN | apply below_drew1 | refine below_set ?_ (IsS86.ge HI125.out) | refine below_set ?_ GE118.out | refine below_set ?_ GE144.out) | exact HB.out)); rintro e w35 ⟨rfl, hi, hb, hk⟩; refine ⟨_, rfl, ?_⟩; replace BK118 := Goto.m0 (KeepBut.blk hk (g' := gb118) (o := .cells #[v142, .int .i64 t122] 83 (0, 0)) (Goto.bx BK118) NB118_125.out (by simp)); replace HO143 := Goto.m0 (Kd.R_mono (Kd.R_keep (IsS86.apart (show IsS86 w _ g125 t146 t147 from by repeat (first | (with_reducible first | exact HI125.out | apply IsS86.alloc | apply IsS86.drewN | apply IsS86.drew | apply IsS86.set_0 | apply IsS86.set_1 | refine IsS86.far ?_ NB125_118.out _ | refine IsS86.far ?_ NB125_144.out _) | exact HI125.out)) (by (with_reducible repeat (first | apply Kd.R_alloc | apply Kd.R_drewN | apply Kd.R_drew)); exact HO143.out) (by decide)) hk (fun _ h => h.2)) (fun _ h => h.1)); replace BK144 := Goto.m0 (KeepBut.blk hk (g' := gb144) (o := .cells #[.int .i64 t138, .int .i64 t139] 63 (0, 0)) (Goto.bx BK144) NB144_125.out (by simp)); replace HB := Goto.m0 (hb); replace HI125 := Goto.m0 (hi); (try clear hb); (try clear hb2); (try clear hk); (try clear hi)) | ((with_reducible refine gate_callee (f := 49) rfl ?_); refine goesL_ (some 38) rfl rfl Try.func49 (by kernel_rfl) rfl #[.pointer (some ⟨g125, 0, none⟩)] rfl (by (try simp only [List.map_toArray, List.map_cons, List.map_nil]); first | done | rfl | (simp only [List.length_drop, List.length_take]; rfl)) ?_; (with_reducible refine (mail_Purse_Spend.calls g125 t149 t150 false t152 t153 w _ ?side1 ?side2 A9.out).mono ?_); (case side1 => repeat (first | (with_reducible first | exact HI125.out | apply IsS86.alloc | apply IsS86.drewN | apply IsS86.drew | apply IsS86.set_0 | apply IsS86.set_1 | refine IsS86.far ?_ NB125_118.out _ | refine IsS86.far ?_ NB125_144.out _) | exact HI125.out)); (case side2 => repeat (first | (with_reducible first | exact HB.out | apply below_alloc | apply pw_below_drewN | apply below_drew1 | refine below_set ?_ (IsS86.ge HI125.out) | refine below_set ?_ GE118.out | refine below_set ?_ GE144.out) | exact HB.out)); rintro e w36 ⟨rfl, hi, hb, hk⟩; refine ⟨_, rfl, ?_⟩; replace BK118 := Goto.m0 (KeepBut.blk hk (g' := gb118) (o := .cells #[v142, .int .i64 t122] 83 (0, 0)) (Goto.bx BK118) NB118_125.out (by simp)); replace HO143 := Goto.m0 (Kd.R_mono (Kd.R_keep (IsS86.apart (show IsS86 w _ g125 t149 t150 from by repeat (first | (with_reducible first | exact HI125.out | apply IsS86.alloc | apply IsS86.drewN | apply IsS86.drew | apply IsS86.set_0 | apply IsS86.set_1 | refine IsS86.far ?_ NB125_118.out _ | refine IsS86.far ?_ NB125_144.out _) | exact HI125.out)) (by (with_reducible repeat (first | apply Kd.R_alloc | apply Kd.R_drewN | apply Kd.R_drew)); exact HO143.out) (by decide)) hk (fun _ h => h.2)) (fun _ h => h.1)); replace BK144 := Goto.m0 (KeepBut.blk hk (g' := gb144) (o := .cells #[.int .i64 t138, .int .i64 t139] 63 (0, 0)) (Goto.bx BK144) NB144_125.out (by simp)); replace HB := Goto.m0 (hb); replace HI125 := Goto.m0 (hi); (try clear hb); (try clear hb2); (try clear hk); (try clear hi)) | ((with_reducible refine gate_callee (f := 48) rfl ?_); refine goesL_ (some 40) rfl rfl Try.func48 (by kernel_rfl) rfl #[.pointer (some ⟨g125, 0, none⟩)] rfl (by (try simp only [List.map_toArray, List.map_cons, List.map_nil]); first | done | rfl | (simp only [List.length_drop, List.length_take]; rfl)) ?_; (with_reducible refine (mail_Purse_Fill.calls g125 t152 t153 t154 t155 w _ ?side1 ?side2 A10.out).mono ?_); (case side1 => repeat (first | (with_reducible first | exact HI125.out | apply IsS86.alloc | apply IsS86.drewN | apply IsS86.drew | apply IsS86.set_0 | apply IsS86.set_1 | refine IsS86.far ?_ NB125_118.out _ | refine IsS86.far ?_ NB125_144.out _) | exact HI125.out)); (case side2 => repeat (first | (with_reducible first | exact HB.out | apply below_alloc | apply pw_below_drewN | apply below_drew1 | refine below_set ?_ (IsS86.ge HI125.out) | refine below_set ?_ GE118.out | refine below_set ?_ GE144.out) | exact HB.out)); rintro e w37 ⟨rfl, hi, hb, hk⟩; refine ⟨_, rfl, ?_⟩; replace BK118 := Goto.m0 (KeepBut.blk hk (g' := gb118) (o := .cells #[v142, .int .i64 t122] 83 (0, 0)) (Goto.bx BK118) NB118_125.out (by simp)); replace HO143 := Goto.m0 (Kd.R_mono (Kd.R_keep (IsS86.apart (show IsS86 w _ g125 t152 t153 from by repeat (first | (with_reducible first | exact HI125.out | apply IsS86.alloc | apply IsS86.drewN | apply IsS86.drew | apply IsS86.set_0 | apply IsS86.set_1 | refine IsS86.far ?_ NB125_118.out _ | refine IsS86.far ?_ NB125_144.out _) | exact HI125.out)) (by (with_reducible repeat (first | apply Kd.R_alloc | apply Kd.R_drewN | apply Kd.R_drew)); exact HO143.out) (by decide)) hk (fun _ h => h.2)) (fun _ h => h.1)); replace BK144 := Goto.m0 (KeepBut.blk hk (g' := gb144) (o := .cells #[.int .i64 t138, .int .i64 t139] 63 (0, 0)) (Goto.bx BK144) NB144_125.out (by simp)); replace HB := Goto.m0 (hb); replace HI125 := Goto.m0 (hi); (try clear hb); (try clear hb2); (try clear hk); (try clear hi); have hcz38_0 : w37.cell? ⟨gb144, 0, none⟩ = some (.int .i64 t138) := (blk_cell BK144.out 0).trans rfl; have hcz38_1 : w37.cell? ⟨gb144, 1, none⟩ = some (.int .i64 t139) := (blk_cell BK144.out 1).trans rfl; have hfz38_0 := blk_frozen BK144.out 0; have hfz38_1 := blk_frozen BK144.out 1) | (go_at_call 44; (with_reducible refine (mail_Box_Len.calls gb118 (fun k_ => some k_ = (v142 : Value).ownBlock) v142 t141 t122 t156 t157 w _ ?side1 ?side2 ?side3 ?side4 A16.out).mono ?_); (case side1 => exact by (with_reducible repeat first | refine blk_drewN ?_ _ | refine blk_drew ?_ | refine blk_alloc ?_ _); exact BK118.out); (case side2 => exact GE118.out); (case side3 => repeat (first | (with_reducible first | exact HB.out | apply below_alloc | apply pw_below_drewN | apply below_drew1 | refine below_set ?_ (IsS86.ge HI125.out) | refine below_set ?_ GE118.out | refine below_set ?_ GE144.out) | exact HB.out)); (case side4 => exact Kd.R_tight rfl HO143.out); rintro e w39 ⟨v158, rfl, ho0, hi, hb, hkp⟩; have n0_ := Goto.m0 (hi); have n1_ := Goto.m0 (IsS86.kept (by repeat (first | (with_reducible first | exact HI125.out | apply IsS86.alloc | apply IsS86.drewN | apply IsS86.drew | apply IsS86.set_0 | apply IsS86.set_1 | refine IsS86.far ?_ NB125_118.out _ | refine IsS86.far ?_ NB125_144.out _) | exact HI125.out)) hkp (fun hs_ => Or.elim hs_ (fun hs_ => (fun e_ => (IsS86.own_ne HI125.out HO143.out (by decide)) e_) hs_) (fun e_ => (IsS86.ne_blk HI125.out BK118.out (by decide)) e_))); have n2_ := Goto.m0 (blk_kept (Goto.bx BK144) hkp (fun hs_ => Or.elim hs_ (fun hs_ => (fun e_ => (Kd.R_away HO143.out (fun _ hk => hk.2)) e_) hs_) (fun e_ => NB144_118.out e_))); have n3_ := Goto.m0 (Kd.R_mono (ok' := fun k_ => k_ ≠ gb144) ho0 (fun k_ hk_ => Or.elim hk_ (fun hs_ => fun e_ => (Kd.R_away HO143.out (fun _ hk => hk.2)) (by rw [← e_]; exact hs_)) (fun hn_ => (Kd.freshB (g := gb144) (o := .cells #[.int .i64 t138, .int .i64 t139] 63 (0, 0)) (Goto.bx BK144) k_ hn_)))); have n4_ := Goto.m0 (hb); clear BK118; clear HI125; clear BK144; clear HB; clear HO143; have BK118 := n0_; have HI125 := n1_; have BK144 := n2_; have HO159 := n3_; have HB := n4_; clear n0_ n1_ n2_ n3_ n4_; (try clear hb); (try clear hkp); (try clear ho0)) | (go_at_call 45; (with_reducible refine (mail_Box_Waits.calls k gb118 (fun k_ => some k_ = (v158 : Value).ownBlock) v158 t157 t122 2 t160 t161 w _ ?side1 ?side2 ?side3 ?side4 A18.out).mono ?_); (case side1 => exact by (with_reducible repeat first | refine blk_drewN ?_ _ | refine blk_drew ?_ | refine blk_alloc ?_ _); exact BK118.out); (case side2 => exact GE118.out); (case side3 => repeat (first | (with_reducible first | exact HB.out | apply below_alloc | apply pw_below_drewN | apply below_drew1 | refine below_set ?_ (IsS86.ge HI125.out) | refine below_set ?_ GE118.out | refine below_set ?_ GE144.out) | exact HB.out)); (case side4 => exact Kd.R_tight rfl HO159.out); rintro e w40 ⟨v162, rfl, ho0, hi, hb, hkp⟩; have n0_ := Goto.m0 (hi); have n1_ := Goto.m0 (IsS86.kept (by repeat (first | (with_reducible first | exact HI125.out | apply IsS86.alloc | apply IsS86.drewN | apply IsS86.drew | apply IsS86.set_0 | apply IsS86.set_1 | refine IsS86.far ?_ NB125_118.out _ | refine IsS86.far ?_ NB125_144.out _) | exact HI125.out)) hkp (fun hs_ => Or.elim hs_ (fun hs_ => (fun e_ => (IsS86.own_ne HI125.out HO159.out (by decide)) e_) hs_) (fun e_ => (IsS86.ne_blk HI125.out BK118.out (by decide)) e_))); have n2_ := Goto.m0 (blk_kept (Goto.bx BK144) hkp (fun hs_ => Or.elim hs_ (fun hs_ => (fun e_ => (Kd.R_away HO159.out (fun _ hk => hk)) e_) hs_) (fun e_ => NB144_118.out e_))); have n3_ := Goto.m0 (Kd.R_mono (ok' := fun k_ => k_ ≠ gb144) ho0 (fun k_ hk_ => Or.elim hk_ (fun hs_ => fun e_ => (Kd.R_away HO159.out (fun _ hk => hk)) (by rw [← e_]; exact hs_)) (fun hn_ => (Kd.freshB (g := gb144) (o := .cells #[.int .i64 t138, .int .i64 t139] 63 (0, 0)) (Goto.bx BK144) k_ hn_)))); have n4_ := Goto.m0 (hb); clear BK118; clear HI125; clear BK144; clear HB; clear HO159; have BK118 := n0_; have HI125 := n1_; have BK144 := n2_; have HO163 := n3_; have HB := n4_; clear n0_ n1_ n2_ n3_ n4_; (try clear hb); (try clear hkp); (try clear ho0)) | (go_at_call 50; (with_reducible refine (mail_Purse_Left.calls g125 t154 t155 t164 t165 t166 w _ ?side1 ?side2 A23.out).mono ?_); (case side1 => repeat (first | (with_reducible first | exact HI125.out | apply IsS86.alloc | apply IsS86.drewN | apply IsS86.drew | apply IsS86.set_0 | apply IsS86.set_1 | refine IsS86.far ?_ NB125_118.out _ | refine IsS86.far ?_ NB125_144.out _) | exact HI125.out)); (case side2 => repeat (first | (with_reducible first | exact HB.out | apply below_alloc | apply pw_below_drewN | apply below_drew1 | refine below_set ?_ (IsS86.ge HI125.out) | refine below_set ?_ GE118.out | refine below_set ?_ GE144.out) | exact HB.out)); rintro e w41 ⟨rfl, hi, hb, hk⟩; replace BK118 := Goto.m0 (KeepBut.blk hk (g' := gb118) (o := .cells #[v162, .int .i64 t122] 83 (0, 0)) (Goto.bx BK118) NB118_125.out (by simp)); replace BK144 := Goto.m0 (KeepBut.blk hk (g' := gb144) (o := .cells #[.int .i64 t138, .int .i64 t139] 63 (0, 0)) (Goto.bx BK144) NB144_125.out (by simp)); replace HO163 := Goto.m0 (Kd.R_mono (Kd.R_keep (IsS86.apart (show IsS86 w _ g125 t154 t155 from by repeat (first | (with_reducible first | exact HI125.out | apply IsS86.alloc | apply IsS86.drewN | apply IsS86.drew | apply IsS86.set_0 | apply IsS86.set_1 | refine IsS86.far ?_ NB125_118.out _ | refine IsS86.far ?_ NB125_144.out _) | exact HI125.out)) (by (with_reducible repeat (first | apply Kd.R_alloc | apply Kd.R_drewN | apply Kd.R_drew)); exact HO163.out) (by decide)) hk (fun _ h => h.2)) (fun _ h => h.1)); replace HB := Goto.m0 (hb); replace HI125 := Goto.m0 (hi); (try clear hb); (try clear hb2); (try clear hk); (try clear hi)))
           go_ret
           exact ⟨by first | rfl | (simp [errW_none, errW_some] <;> rfl) | (simp [*, errW_none, errW_some] <;> rfl), by repeat (first | (with_reducible first | exact HB.out | apply below_alloc | apply pw_below_drewN | apply below_drew1 | refine below_set ?_ (IsS86.ge HI125.out) | refine below_set ?_ GE118.out | refine below_set ?_ GE144.out) | exact HB.out)⟩
         ·
          replace c21 := Bool.eq_false_iff.mpr c21
          subst c21
          rw [if_neg (show ¬ (false = true) by decide)] at H
          exact absurd ((Option.some.inj H).trans HRT.out) (by decide)
        ·
         replace c20 := Bool.eq_false_iff.mpr c20
         subst c20
         rw [if_neg (show ¬ (false = true) by decide)] at H
         exact absurd ((Option.some.inj H).trans HRT.out) (by decide)
       ·
        rw [if_neg c19] at H
        have c19b0 : (t160 == 1) = false := beq_eq_false_iff_ne.mpr c19
        have c19b1 : (t160 != 1) = true := bne_iff_ne.mpr c19
        exact absurd ((Option.some.inj H).trans HRT.out) (by decide)
      ·
       rw [if_neg c17] at H
       have c17b0 : (t156 == 1) = false := beq_eq_false_iff_ne.mpr c17
       have c17b1 : (t156 != 1) = true := bne_iff_ne.mpr c17
       exact absurd ((Option.some.inj H).trans HRT.out) (by decide)
     ·
      rw [if_neg c15] at H
      have c15b0 : (t138 == 1 && (t139 == 5)) = false := by simpa using c15
      (try (have c15b1 : decide (t138 = 1 && (t139 == 5)) = false := by simpa using c15))
      (try (have c15b2 : (t138 == 1 && (t139 == 5)) = false := by simpa using c15))
      (try (have c15b3 : ¬ (t138 = 1 && (t139 == 5)) := by simpa using c15))
      clear c15
      exact absurd ((Option.some.inj H).trans HRT.out) (by decide)
    ·
     replace c14 := Bool.eq_false_iff.mpr c14
     subst c14
     rw [if_neg (show ¬ (false = true) by decide)] at H
     exact absurd ((Option.some.inj H).trans HRT.out) (by decide)
   ·
    replace c13 := Bool.eq_false_iff.mpr c13
    subst c13
    rw [if_neg (show ¬ (false = true) by decide)] at H
    exact absurd ((Option.some.inj H).trans HRT.out) (by decide)
 ·
  replace c11 := Bool.eq_false_iff.mpr c11
  subst c11
  rw [if_neg (show ¬ (false = true) by decide)] at H
  exact absurd ((Option.some.inj H).trans HRT.out) (by decide)

/-! ### tontineref15_NewBox: function 39 -/
def tontineref15_NewBox.f (a0 : Int) : Option (Int × (List (S63))) := some (mx 1 (mn a0 8), ([] : List (S63)))
set_option maxHeartbeats 8000000 in
set_option maxRecDepth 100000 in
theorem tontineref15_NewBox.calls (a0 : Int) (r1 : Int) (r2 : List (S63)) (w : World) (h : tontineref15_NewBox.f a0 = some (r1, r2)) :
    Calls Try.prog 39 #[.int .i64 a0] w fun e w' => ∃ v1_ : Value, ∃ g_ : Nat, e = .returned (.pointer (some ⟨g_, 0, none⟩)) ∧ Kd.Q k63 63 w' w.heap.size (fun _ => True) v1_ r2 ∧ w'.heap[g_]? = some (.cells #[.int .i64 r1, v1_] 69 (0, 0)) ∧ w.heap.size ≤ g_ ∧ Below w.heap.size w w' := by
 have hu69 := Try.underlying69
 have HB := Goto.m0 (Below.refl w.heap.size w)
 have H : (some (mx 1 (mn a0 8), ([] : List (S63)))) = some (r1, r2) := h
 clear h
 obtain ⟨ji2, hji2⟩ : ∃ j_ : Int, (mn a0 8) = j_ := ⟨_, rfl⟩
 replace H : (some (mx 1 (ji2), ([] : List (S63)))) = some (r1, r2) := by first | (rw [hji2] at H; exact H) | (simp only [hji2] at H ⊢; exact H)
 (try (have hji2h : ji2 ≤ 8 := by (rw [← hji2]; unfold mn; (repeat' split) <;> omega)))
 (try (have hji2g : ji2 ≤ 64 := by omega))
 have hji2_ : (if 8 < a0 then 8 else a0) = ji2 := hji2
 obtain ⟨ji3, hji3⟩ : ∃ j_ : Int, (mx 1 (ji2)) = j_ := ⟨_, rfl⟩
 (try rw [hji3] at hji2)
 (try rw [hji3] at hji2w)
 replace H : (some (ji3, ([] : List (S63)))) = some (r1, r2) := by first | (rw [hji3] at H; exact H) | (simp only [hji3] at H ⊢; exact H)
 have hji3_ : (if 1 < (ji2) then (ji2) else 1) = ji3 := hji3
 simp only [Option.some.injEq, Prod.mk.injEq] at H
 obtain ⟨rfl, rfl⟩ := H
 go_enter Try.func39, Try.ntmps39
 go_wp2_with (first | ((with_reducible refine gate_dst (N := 7) rfl ?_); refine box_event ?hg (N := 7) ?hd (cs := #[.int .i64 ji3, .slice none 0 0]) (t := 69) ?hr ?_; (case hd => rfl); (case hg => rfl); (case hr => first | (go_simp; done) | (go_simp; rfl)); intro gb167 hg w4 hbox hb; have BK167 := Goto.m0 (hbox); have GW167 := Goto.gs HB hg; have GE167 := Goto.gs HB hg; replace HB := Goto.hs HB hb; clear hb hbox hg))
 go_ret
 exact ⟨_, _, by first | rfl | (simp [errW_none, errW_some] <;> rfl) | (simp only [← hji2, ← hji3]; first | rfl | (simp [errW_none, errW_some] <;> rfl)) | (simp [*, errW_none, errW_some] <;> rfl), Kd.Q_of_R (by first | exact Kd.R_nil _ _ _ _ _ | exact Kd.N_nil _ _ _ _ _ | exact Kd.V_nil _ _ _ _ _ | exact Kd.Q_nil _ _ _ _ _ | exact Kd.S_nil _ _ _ _ _), by (with_reducible repeat first | refine blk_drewN ?_ _ | refine blk_drew ?_ | refine blk_alloc ?_ _); exact BK167.out, GW167.out, by repeat (first | (with_reducible first | exact HB.out | apply below_alloc | apply pw_below_drewN | apply below_drew1 | refine below_set ?_ GE167.out) | exact HB.out)⟩

/-! ### tontineref15_Box_Waits: function 46 -/
def tontineref15_Box_Waits.l0 : Nat → Int → Int → Int → Int → List (S63) → Option (Int × (List (S63)))
  | 0, _, _, _, _, _ => none
  | k + 1, x1, x5, x6, x1000, x1001 => if x6 < (x1001.length : Int) then (if 0 ≤ x6 then (if ((rd_T63 x1001 x6).f0) = x1 then (tontineref15_Box_Waits.l0 k x1 (wrap64 (x5 + 1)) (wrap64 (x6 + 1)) x1000 x1001) else (tontineref15_Box_Waits.l0 k x1 x5 (wrap64 (x6 + 1)) x1000 x1001)) else (none)) else (some (x5, x1001))
def tontineref15_Box_Waits.f (k : Nat) (a0_0 : Int) (l0_1 : List (S63)) (a1 : Int) : Option (Int × (List (S63))) := tontineref15_Box_Waits.l0 k a1 0 0 a0_0 l0_1
theorem tontineref15_Box_Waits.mono_l : ∀ k, (∀ y0 y1 y2 y3 y4, LeO (tontineref15_Box_Waits.l0 k y0 y1 y2 y3 y4) (tontineref15_Box_Waits.l0 (k + 1) y0 y1 y2 y3 y4))
  | 0 => fun _ _ _ _ _ r h => by simp [tontineref15_Box_Waits.l0] at h
  | k + 1 => by
    have ih0 := tontineref15_Box_Waits.mono_l k
    · intro y0 y1 y2 y3 y4
      unfold tontineref15_Box_Waits.l0
      repeat' first
      | (with_reducible exact ih0 _ _ _ _ _)
      | (with_reducible exact LeO.refl _)
      | (with_reducible exact LeO.none _)
      | (with_reducible refine LeO.ite ?_ ?_)
      | (with_reducible refine LeO.bind ?_ (fun _ => ?_))
      | exact ih0 _ _ _ _ _
      | exact LeO.none _
      | refine LeO.ite ?_ ?_
      | refine LeO.bind ?_ (fun _ => ?_)
theorem tontineref15_Box_Waits.mono : ∀ a0 a1 a2 k, LeO (tontineref15_Box_Waits.f k a0 a1 a2) (tontineref15_Box_Waits.f (k + 1) a0 a1 a2) := by
 intro a0 a1 a2 k
 have ih0 := tontineref15_Box_Waits.mono_l k
 unfold tontineref15_Box_Waits.f
 repeat' first
   | (with_reducible exact ih0 _ _ _ _ _)
   | (with_reducible exact LeO.refl _)
   | (with_reducible exact LeO.none _)
   | (with_reducible refine LeO.ite ?_ ?_)
   | (with_reducible refine LeO.bind ?_ (fun _ => ?_))
   | exact ih0 _ _ _ _ _
   | exact LeO.none _
   | refine LeO.ite ?_ ?_
   | refine LeO.bind ?_ (fun _ => ?_)
set_option maxHeartbeats 8000000 in
set_option maxRecDepth 100000 in
theorem tontineref15_Box_Waits.calls (k : Nat) (g : Nat) (a0_0 : Int) (P0_1_ : Nat → Prop) (u9000_ : Value) (l0_1 : List (S63)) (a1 : Int) (r1 : Int) (r2 : List (S63)) (w0 w : World) (hI : w.heap[g]? = some (.cells #[.int .i64 a0_0, u9000_] 69 (0, 0))) (hG : w0.heap.size ≤ g) (hB : Below w0.heap.size w0 w) (ho0_1 : Kd.Q k63 63 w w0.heap.size P0_1_ u9000_ l0_1) (h : tontineref15_Box_Waits.f k a0_0 l0_1 a1 = some (r1, r2)) :
    Calls Try.prog 46 #[.pointer (some ⟨g, 0, none⟩), .int .i64 a1] w fun e w' => ∃ v1_ : Value, e = .returned (.int .i64 r1) ∧ Kd.Q k63 63 w' w0.heap.size (fun k_ => (P0_1_ k_ ∨ w.heap.size ≤ k_)) v1_ r2 ∧ w'.heap[g]? = some (.cells #[.int .i64 a0_0, v1_] 69 (0, 0)) ∧ Below w0.heap.size w0 w' ∧ Kept w w' (fun k_ => (P0_1_ k_) ∨ k_ = g) := by
 have HO0_1 := Goto.m0 (show Kd.Q k63 63 w w0.heap.size (fun k_ => (P0_1_ k_ ∨ w.heap.size ≤ k_)) u9000_ l0_1 from Kd.Q_mono ho0_1 (fun k_ hk => (.inl hk)))
 have BK0 := Goto.m0 hI
 have GE0 := Goto.m0 hG
 clear hI hG
 have HK := Goto.m0 (Kept.refl w (fun k_ => (P0_1_ k_) ∨ k_ = g))
 have HW0 := Goto.m0 hB.size
 have HB := Goto.m0 hB
 clear hB
 have H : (tontineref15_Box_Waits.l0 k a1 0 0 a0_0 l0_1) = some (r1, r2) := h
 clear h
 have H' := Goto.m0 H
 clear H
 go_enter Try.func46, Try.ntmps46
 go_wp2
 go_loopg [5, 6] k (fun kq v5 v6 w' => ∃ (x5_1 : Int) (x6_1 : Int), v5 = .int .i64 x5_1 ∧ v6 = .int .i64 x6_1 ∧ Aside0 (tontineref15_Box_Waits.l0 kq a1 x5_1 x6_1 a0_0 l0_1 = some (r1, r2)) ∧ Aside0 (kq ≤ k) ∧ Aside0 (Kd.Q k63 63 w' w0.heap.size (fun k_ => (P0_1_ k_ ∨ w.heap.size ≤ k_)) u9000_ l0_1) ∧ Aside0 (w'.heap[g]? = some (.cells #[.int .i64 a0_0, u9000_] 69 (0, 0))) ∧ Aside0 (Kept w w' (fun k_ => (P0_1_ k_) ∨ k_ = g)) ∧ Aside0 (Below w0.heap.size w0 w'))
 case atStart => exact ⟨(0), (0), (by first | rfl | (simp; done) | (simp [*]; done)), (by first | rfl | (simp; done) | (simp [*]; done)), H', ⟨Nat.le_refl _⟩, ⟨by (with_reducible repeat (first | apply Kd.Q_alloc | apply Kd.Q_drewN | apply Kd.Q_drew)); exact HO0_1.out⟩, ⟨Goto.bx BK0⟩, ⟨by repeat (first | (with_reducible first | exact HK.out | apply Kept.alloc | apply Kept.drewN | apply Kept.drew | refine Kept.setCell ?_ (.inl (.inr rfl)) _) | exact HK.out)⟩, ⟨Goto.hx HB⟩⟩
 case round =>
  clear H'
  try clear p2
  obtain ⟨x5_1, x6_1, rfl, rfl, HA, HK1, HO_1001, BK0, HK, HB⟩ := hrel
  cases gk with
  | zero => exact absurd HA.out (by simp [tontineref15_Box_Waits.l0])
  | succ k1 =>
   have H := HA.out; clear HA
   simp only [tontineref15_Box_Waits.l0] at H
   by_cases c3 : x6_1 < (l0_1.length : Int)
   ·
    rw [if_pos c3] at H
    have c3b0 : decide (x6_1 < (l0_1.length : Int)) = true := decide_eq_true c3
    clear c3
    by_cases c4 : 0 ≤ x6_1
    ·
     rw [if_pos c4] at H
     have c4b0 : decide (0 ≤ x6_1) = true := decide_eq_true c4
     clear c4
     by_cases c5 : ((rd_T63 l0_1 x6_1).f0) = a1
     ·
      rw [if_pos c5] at H
      have c5b0 : (((rd_T63 l0_1 x6_1).f0) == a1) = true := beq_iff_eq.mpr c5
      have c5b1 : (((rd_T63 l0_1 x6_1).f0) != a1) = false := bne_eq_false_iff_eq.mpr c5
      clear c5
      have H' := Goto.m0 H
      clear H; have hcz6_0 : wr.cell? ⟨g, 0, none⟩ = some (.int .i64 a0_0) := (blk_cell BK0.out 0).trans rfl; have hcz6_1 : wr.cell? ⟨g, 1, none⟩ = some (u9000_) := (blk_cell BK0.out 1).trans rfl; have hfz6_0 := blk_frozen BK0.out 0; have hfz6_1 := blk_frozen BK0.out 1
      obtain ⟨Ao7, co7, eo7, _⟩ := Kd.Q_slice HO_1001.out
      subst eo7
      have p168 : 0 ≤ (x6_1 : Int) := of_decide_eq_true (by first | (with_reducible assumption) | assumption)
      have q168 : x6_1 < (l0_1.length : Int) := of_decide_eq_true (by first | (with_reducible assumption) | assumption)
      obtain ⟨ad168, e168, hx168_0, hx168_1⟩ := at_T63 (Kd.Q_reads' HO_1001.out).2.2 x6_1 p168 q168
      cases e168
      replace p168 := eq_true p168; replace q168 := eq_true q168
      go_wp2
      go_roundg k1
      case measure => have := HK1.out; omega
      case rel => exact ⟨(wrap64 (x5_1 + 1)), (wrap64 (x6_1 + 1)), (by first | rfl | (simp; done) | (simp [*]; done)), (by first | rfl | (simp; done) | (simp [*]; done)), H', ⟨by have := HK1.out; omega⟩, ⟨by (with_reducible repeat (first | apply Kd.Q_alloc | apply Kd.Q_drewN | apply Kd.Q_drew)); exact HO_1001.out⟩, ⟨Goto.bx BK0⟩, ⟨by repeat (first | (with_reducible first | exact HK.out | apply Kept.alloc | apply Kept.drewN | apply Kept.drew | refine Kept.setCell ?_ (.inl (.inr rfl)) _) | exact HK.out)⟩, ⟨Goto.hx HB⟩⟩
     ·
      rw [if_neg c5] at H
      have c5b0 : (((rd_T63 l0_1 x6_1).f0) == a1) = false := beq_eq_false_iff_ne.mpr c5
      have c5b1 : (((rd_T63 l0_1 x6_1).f0) != a1) = true := bne_iff_ne.mpr c5
      have H' := Goto.m0 H
      clear H; have hcz8_0 : wr.cell? ⟨g, 0, none⟩ = some (.int .i64 a0_0) := (blk_cell BK0.out 0).trans rfl; have hcz8_1 : wr.cell? ⟨g, 1, none⟩ = some (u9000_) := (blk_cell BK0.out 1).trans rfl; have hfz8_0 := blk_frozen BK0.out 0; have hfz8_1 := blk_frozen BK0.out 1
      obtain ⟨Ao9, co9, eo9, _⟩ := Kd.Q_slice HO_1001.out
      subst eo9
      have p168 : 0 ≤ (x6_1 : Int) := of_decide_eq_true (by first | (with_reducible assumption) | assumption)
      have q168 : x6_1 < (l0_1.length : Int) := of_decide_eq_true (by first | (with_reducible assumption) | assumption)
      obtain ⟨ad168, e168, hx168_0, hx168_1⟩ := at_T63 (Kd.Q_reads' HO_1001.out).2.2 x6_1 p168 q168
      cases e168
      replace p168 := eq_true p168; replace q168 := eq_true q168
      go_wp2
      go_roundg k1
      case measure => have := HK1.out; omega
      case rel => exact ⟨(x5_1), (wrap64 (x6_1 + 1)), (by first | rfl | (simp; done) | (simp [*]; done)), (by first | rfl | (simp; done) | (simp [*]; done)), H', ⟨by have := HK1.out; omega⟩, ⟨by (with_reducible repeat (first | apply Kd.Q_alloc | apply Kd.Q_drewN | apply Kd.Q_drew)); exact HO_1001.out⟩, ⟨Goto.bx BK0⟩, ⟨by repeat (first | (with_reducible first | exact HK.out | apply Kept.alloc | apply Kept.drewN | apply Kept.drew | refine Kept.setCell ?_ (.inl (.inr rfl)) _) | exact HK.out)⟩, ⟨Goto.hx HB⟩⟩
    ·
     rw [if_neg c4] at H
     exact absurd H (by simp)
   ·
    rw [if_neg c3] at H
    have c3b0 : decide (x6_1 < (l0_1.length : Int)) = false := decide_eq_false c3
    clear c3
    simp only [Option.some.injEq, Prod.mk.injEq] at H
    obtain ⟨rfl, rfl⟩ := H
    have hcz10_0 : wr.cell? ⟨g, 0, none⟩ = some (.int .i64 a0_0) := (blk_cell BK0.out 0).trans rfl; have hcz10_1 : wr.cell? ⟨g, 1, none⟩ = some (u9000_) := (blk_cell BK0.out 1).trans rfl; have hfz10_0 := blk_frozen BK0.out 0; have hfz10_1 := blk_frozen BK0.out 1
    obtain ⟨Ao11, co11, eo11, _⟩ := Kd.Q_slice HO_1001.out
    subst eo11
    go_wp2
    go_ret
    (try simp only [← exists_and_left])
    exact ⟨_, by first | rfl | (simp [errW_none, errW_some] <;> rfl) | (simp [*, errW_none, errW_some] <;> rfl), by (with_reducible repeat (first | apply Kd.Q_alloc | apply Kd.Q_drewN | apply Kd.Q_drew)); exact HO_1001.out, by (with_reducible repeat first | refine blk_drewN ?_ _ | refine blk_drew ?_ | refine blk_alloc ?_ _); exact BK0.out, by repeat (first | (with_reducible first | exact HB.out | apply below_alloc | apply pw_below_drewN | apply below_drew1 | refine below_set ?_ GE0.out) | exact HB.out), by repeat (first | (with_reducible first | exact HK.out | apply Kept.alloc | apply Kept.drewN | apply Kept.drew | refine Kept.setCell ?_ (.inl (.inr rfl)) _) | exact HK.out)⟩

end Go.Proofs.Ytpbcamdjcnokfaa.P
