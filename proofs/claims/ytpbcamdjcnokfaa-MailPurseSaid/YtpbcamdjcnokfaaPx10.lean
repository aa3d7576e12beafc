/- Printed by a program of this workplace (a turned copy of the kit's optional print), out of the translation; not trusted: Lean checks it. -/
import Derived.Test.YtpbcamdjcnokfaaPx0
import Derived.Test.YtpbcamdjcnokfaaPx4
import Derived.Test.YtpbcamdjcnokfaaPx5
namespace Go.Proofs.Ytpbcamdjcnokfaa.P
open Go.RowKit Go.Proofs.YtpbcamdjcnokfaaW.PrintWords Go.Proofs.YtpbcamdjcnokfaaW.PrintLast Go.Proofs.YtpbcamdjcnokfaaW.PrintMore
attribute [local go_sem] max2_int min2_int max_two min_two max_three min_three max_four min_four   -- for this text's walks alone
set_option linter.unusedVariables false
set_option linter.unusedSimpArgs false

/-! ### tontinelaw19_MailPurse: function 13 -/
mutual
def tontinelaw19_MailPurse.l0 : Nat → List Bool → Int → Int → Int → Int → Int → Option (Bool)
  | 0, _, _, _, _, _, _ => none
  | k + 1, x1, x6, x7, x8, x275000, x275001 => if x8 < (x1.length : Int) then (if 0 ≤ x8 then (if rdOf false x1 x8 = true then ((mail_Purse_Fill.f x275000 x275001).bind fun bt276 => (tontinelaw19_MailPurse.j1 k x1 x6 x6 x8 bt276.1 bt276.2)) else ((mail_Purse_Spend.f x275000 x275001).bind fun bt278 => (if (bt278.1 != (decide (x7 > 0))) = true then (some false) else (tontinelaw19_MailPurse.j1 k x1 x6 (mx 0 (wrap64 (x7 - 1))) x8 bt278.2.1 bt278.2.2)))) else (none)) else (some true)
def tontinelaw19_MailPurse.j1 : Nat → List Bool → Int → Int → Int → Int → Int → Option (Bool)
  | 0, _, _, _, _, _, _ => none
  | k + 1, x1, x6, x7, x8, x275000, x275001 => (mail_Purse_Left.f x275000 x275001).bind fun bt281 => (if bt281.1 = x7 then (tontinelaw19_MailPurse.l0 k x1 x6 x7 (wrap64 (x8 + 1)) bt281.2.1 bt281.2.2) else (some false))
end
def tontinelaw19_MailPurse.f (k : Nat) (a0 : Int) (l1 : List Bool) : Option (Bool) := (tontinelaw19_known.f k).bind fun t271 => (if t271 = true then (if (l1.length : Int) > 80 then (some true) else ((mail_Quota.f a0).bind fun bt272 => (tontinelaw19_MailPurse.l0 k l1 (mx 0 (mn a0 8)) (mx 0 (mn a0 8)) 0 bt272.1 bt272.2))) else (some false))
theorem tontinelaw19_MailPurse.mono_l : ∀ k, (∀ y0 y1 y2 y3 y4 y5, LeO (tontinelaw19_MailPurse.l0 k y0 y1 y2 y3 y4 y5) (tontinelaw19_MailPurse.l0 (k + 1) y0 y1 y2 y3 y4 y5)) ∧ (∀ y0 y1 y2 y3 y4 y5, LeO (tontinelaw19_MailPurse.j1 k y0 y1 y2 y3 y4 y5) (tontinelaw19_MailPurse.j1 (k + 1) y0 y1 y2 y3 y4 y5))
  | 0 => ⟨fun _ _ _ _ _ _ r h => by simp [tontinelaw19_MailPurse.l0] at h, fun _ _ _ _ _ _ r h => by simp [tontinelaw19_MailPurse.j1] at h⟩
  | k + 1 => by
    obtain ⟨ih0, ih1⟩ := tontinelaw19_MailPurse.mono_l k
    refine ⟨?_, ?_⟩
    · intro y0 y1 y2 y3 y4 y5
      unfold tontinelaw19_MailPurse.l0
      repeat' first
      | (with_reducible exact ih0 _ _ _ _ _ _)
      | (with_reducible exact ih1 _ _ _ _ _ _)
      | (with_reducible exact tontinelaw19_known.mono _)
      | (with_reducible exact LeO.refl _)
      | (with_reducible exact LeO.none _)
      | (with_reducible refine LeO.ite ?_ ?_)
      | (with_reducible refine LeO.bind ?_ (fun _ => ?_))
      | exact ih0 _ _ _ _ _ _
      | exact ih1 _ _ _ _ _ _
      | exact tontinelaw19_known.mono _
      | exact LeO.none _
      | refine LeO.ite ?_ ?_
      | refine LeO.bind ?_ (fun _ => ?_)
    · intro y0 y1 y2 y3 y4 y5
      unfold tontinelaw19_MailPurse.j1
      repeat' first
      | (with_reducible exact ih0 _ _ _ _ _ _)
      | (with_reducible exact ih1 _ _ _ _ _ _)
      | (with_reducible exact tontinelaw19_known.mono _)
      | (with_reducible exact LeO.refl _)
      | (with_reducible exact LeO.none _)
      | (with_reducible refine LeO.ite ?_ ?_)
      | (with_reducible refine LeO.bind ?_ (fun _ => ?_))
      | exact ih0 _ _ _ _ _ _
      | exact ih1 _ _ _ _ _ _
      | exact tontinelaw19_known.mono _
      | exact LeO.none _
      | refine LeO.ite ?_ ?_
      | refine LeO.bind ?_ (fun _ => ?_)
theorem tontinelaw19_MailPurse.mono : ∀ a0 a1 k, LeO (tontinelaw19_MailPurse.f k a0 a1) (tontinelaw19_MailPurse.f (k + 1) a0 a1) := by
 intro a0 a1 k
 obtain ⟨ih0, ih1⟩ := tontinelaw19_MailPurse.mono_l k
 unfold tontinelaw19_MailPurse.f
 repeat' first
   | (with_reducible exact ih0 _ _ _ _ _ _)
   | (with_reducible exact ih1 _ _ _ _ _ _)
   | (with_reducible exact tontinelaw19_known.mono _)
   | (with_reducible exact LeO.refl _)
   | (with_reducible exact LeO.none _)
   | (with_reducible refine LeO.ite ?_ ?_)
   | (with_reducible refine LeO.bind ?_ (fun _ => ?_))
   | exact ih0 _ _ _ _ _ _
   | exact ih1 _ _ _ _ _ _
   | exact tontinelaw19_known.mono _
   | exact LeO.none _
   | refine LeO.ite ?_ ?_
   | refine LeO.bind ?_ (fun _ => ?_)
set_option maxHeartbeats 8000000 in
set_option maxRecDepth 100000 in
theorem tontinelaw19_MailPurse.calls (k : Nat) (a0 : Int) (A1 : Option Addr) (c1 : Nat) (l1 : List Bool) (r : Bool) (hrt : r = true) (w : World) (hr1 : Kd.C Kd.bool w A1 l1.length l1) (hc1 : l1.length ≤ c1) (h : tontinelaw19_MailPurse.f k a0 l1 = some r) :
    Calls Try.prog 13 #[.int .i64 a0, .slice A1 l1.length c1] w fun e w' => e = .returned (.bool r) ∧ Below w.heap.size w w' := by
 have HR1 := Goto.m0 hr1
 have HC1 := Goto.m0 hc1
 clear hr1 hc1
 have HB := Goto.m0 (Below.refl w.heap.size w)
 have HRT := Goto.m0 hrt
 clear hrt
 have H : ((tontinelaw19_known.f k).bind fun t271 => (if t271 = true then (if (l1.length : Int) > 80 then (some true) else ((mail_Quota.f a0).bind fun bt272 => (tontinelaw19_MailPurse.l0 k l1 (mx 0 (mn a0 8)) (mx 0 (mn a0 8)) 0 bt272.1 bt272.2))) else (some false))) = some r := h
 clear h
 replace H := Option.bind_eq_some_iff.mp H
 obtain ⟨t271, A30, H⟩ := H
 have A3 := Goto.m0 A30
 clear A30
 by_cases c4 : t271 = true
 ·
  subst c4
  rw [if_pos rfl] at H
  by_cases c5 : (l1.length : Int) > 80
  ·
   rw [if_pos c5] at H
   have c5b0 : decide (80 < (l1.length : Int)) = true := decide_eq_true c5
   have c5b1 : decide (80 < l1.length) = true := decide_eq_true (by omega)
   clear c5
   obtain rfl := Option.some.inj H
   go_enter Try.func13, Try.ntmps13
   go_wp2_with (first | ((with_reducible refine gate_callee (f := 37) rfl ?_); refine goesL_ (some 9) rfl rfl Try.func37 (by kernel_rfl) rfl #[] rfl (by (try simp only [List.map_toArray, List.map_cons, List.map_nil]); first | done | rfl | (simp only [List.length_drop, List.length_take]; rfl)) ?_; (with_reducible refine (tontinelaw19_known.calls k  true (by first | rfl | assumption | (simp only [Bool.not_eq_true, Bool.not_eq_false] at *; assumption)) _ A3.out).mono ?_); rintro e w6 ⟨rfl, hb⟩; refine ⟨_, rfl, ?_⟩; replace HB := Goto.hs HB hb; (try clear hb); (try clear hb2); (try clear hk); (try clear hi)))
   go_ret
   exact ⟨by first | rfl | (simp [errW_none, errW_some] <;> rfl) | (simp [*, errW_none, errW_some] <;> rfl), by repeat (first | (with_reducible first | exact HB.out | apply below_alloc | apply pw_below_drewN | apply below_drew1) | exact HB.out)⟩
  ·
   rw [if_neg c5] at H
   have c5b0 : decide (80 < (l1.length : Int)) = false := decide_eq_false c5
   have c5b1 : decide (80 < l1.length) = false := decide_eq_false (by omega)
   clear c5
   replace H := Option.bind_eq_some_iff.mp H
   obtain ⟨⟨t272, t273⟩, A70, H⟩ := H
   replace H : (tontinelaw19_MailPurse.l0 k l1 (mx 0 (mn a0 8)) (mx 0 (mn a0 8)) 0 t272 t273) = some r := H
   have A7 := Goto.m0 A70
   clear A70
   obtain ⟨ji8, hji8⟩ : ∃ j_ : Int, (mn a0 8) = j_ := ⟨_, rfl⟩
   replace H : (tontinelaw19_MailPurse.l0 k l1 (mx 0 (ji8)) (mx 0 (ji8)) 0 t272 t273) = some r := by first | (rw [hji8] at H; exact H) | (simp only [hji8] at H ⊢; exact H)
   (try rw [hji8] at A3)
   (try rw [hji8] at A7)
   (try (have hji8h : ji8 ≤ 8 := by (rw [← hji8]; unfold mn; (repeat' split) <;> omega)))
   (try (have hji8g : ji8 ≤ 64 := by omega))
   have hji8_ : (if 8 < a0 then 8 else a0) = ji8 := hji8
   obtain ⟨ji9, hji9⟩ : ∃ j_ : Int, (mx 0 (ji8)) = j_ := ⟨_, rfl⟩
   (try rw [hji9] at hji8)
   (try rw [hji9] at hji8w)
   replace H : (tontinelaw19_MailPurse.l0 k l1 ji9 ji9 0 t272 t273) = some r := by first | (rw [hji9] at H; exact H) | (simp only [hji9] at H ⊢; exact H)
   (try rw [hji9] at A3)
   (try rw [hji9] at A7)
   have hji9_ : (if 0 < (ji8) then (ji8) else 0) = ji9 := hji9
   have H' := Goto.m0 H
   clear H
   go_enter Try.func13, Try.ntmps13
   go_wp2_with (first | ((with_reducible refine gate_callee (f := 37) rfl ?_); refine goesL_ (some 9) rfl rfl Try.func37 (by kernel_rfl) rfl #[] rfl (by (try simp only [List.map_toArray, List.map_cons, List.map_nil]); first | done | rfl | (simp only [List.length_drop, List.length_take]; rfl)) ?_; (with_reducible refine (tontinelaw19_known.calls k  true (by first | rfl | assumption | (simp only [Bool.not_eq_true, Bool.not_eq_false] at *; assumption)) _ A3.out).mono ?_); rintro e w10 ⟨rfl, hb⟩; refine ⟨_, rfl, ?_⟩; replace HB := Goto.hs HB hb; (try clear hb); (try clear hb2); (try clear hk); (try clear hi)) | ((with_reducible refine gate_callee (f := 47) rfl ?_); refine goesL_ (some 15) rfl rfl Try.func47 (by kernel_rfl) rfl #[.int .i64 a0] rfl (by (try simp only [List.map_toArray, List.map_cons, List.map_nil]); first | done | rfl | (simp only [List.length_drop, List.length_take]; rfl)) ?_; (with_reducible refine (mail_Quota.calls a0 t272 t273 w _ ?side1 A7.out).mono ?_); (case side1 => repeat (first | (with_reducible first | exact HB.out | apply below_alloc | apply pw_below_drewN | apply below_drew1) | exact HB.out)); rintro e w11 ⟨g274, rfl, hi, hb, hb2⟩; refine ⟨_, rfl, ?_⟩; have HI274 := Goto.m0 (hi); replace HB := Goto.m0 (hb); (try clear hb); (try clear hb2); (try clear hk); (try clear hi)))
   go_loopg [7, 8] k (fun kq v7 v8 w' => ∃ (x7_1 : Int) (x8_1 : Int) (x275000_1 : Int) (x275001_1 : Int), v7 = .int .i64 x7_1 ∧ v8 = .int .i64 x8_1 ∧ Aside0 (tontinelaw19_MailPurse.l0 kq l1 ji9 x7_1 x8_1 x275000_1 x275001_1 = some r) ∧ Aside0 (kq ≤ k) ∧ Aside0 (IsS86 w w' g274 x275000_1 x275001_1) ∧ Aside0 (Below w.heap.size w w'))
   case atStart => exact ⟨(ji9), (0), (t272), (t273), (by first | rfl | (simp; done) | (simp only [← hji9] <;> (first | rfl | simp)) | (simp [*]; done)), (by first | rfl | (simp; done) | (simp [*]; done)), H', ⟨Nat.le_refl _⟩, ⟨by repeat (first | (with_reducible first | exact HI274.out | apply IsS86.alloc | apply IsS86.drewN | apply IsS86.drew | apply IsS86.set_0 | apply IsS86.set_1) | exact HI274.out)⟩, ⟨by repeat (first | (with_reducible first | exact HB.out | apply below_alloc | apply pw_below_drewN | apply below_drew1 | refine below_set ?_ (IsS86.ge HI274.out)) | exact HB.out)⟩⟩
   case round =>
    clear H'
    try clear c1; try clear p2; try clear c3; try clear c4; try clear c5; try clear c5b0; try clear c5b1
    obtain ⟨x7_1, x8_1, x275000_1, x275001_1, rfl, rfl, HA, HK1, HI274, HB⟩ := hrel
    cases gk with
    | zero => exact absurd HA.out (by simp [tontinelaw19_MailPurse.l0])
    | succ k1 =>
     have H := HA.out; clear HA
     simp only [tontinelaw19_MailPurse.l0] at H
     by_cases c12 : x8_1 < (l1.length : Int)
     ·
      rw [if_pos c12] at H
      have c12b0 : decide (x8_1 < (l1.length : Int)) = true := decide_eq_true c12
      clear c12
      by_cases c13 : 0 ≤ x8_1
      ·
       rw [if_pos c13] at H
       have c13b0 : decide (0 ≤ x8_1) = true := decide_eq_true c13
       clear c13
       have HC14 := Goto.m0 H
       clear H
       have p275 : 0 ≤ (x8_1 : Int) := of_decide_eq_true (by first | (with_reducible assumption) | assumption)
       have q275 : x8_1 < (l1.length : Int) := of_decide_eq_true (by first | (with_reducible assumption) | assumption)
       obtain ⟨ad275, e275, hx275_0⟩ := Kd.at_bool HR1.out x8_1 p275 q275
       cases e275
       replace hx275_0 := Goto.kc HB.out hx275_0
       replace p275 := eq_true p275; replace q275 := eq_true q275
       go_upto_if 29 with (fail)
       go_cut [7] (fun v7 wc => ∃ (kq : Nat) (x7_13 : Int) (x275000_13 : Int) (x275001_13 : Int), v7 = .int .i64 x7_13 ∧ Aside0 (tontinelaw19_MailPurse.j1 kq l1 ji9 x7_13 x8_1 x275000_13 x275001_13 = some r) ∧ Aside0 (kq ≤ k1) ∧ Aside0 (IsS86 w wc g274 x275000_13 x275001_13) ∧ Aside0 (Below w.heap.size w wc))
       case first =>
        have H := HC14.out; clear HC14
        obtain ⟨bq15, hbq15⟩ : ∃ b_ : Bool, b_ = (rdOf false l1 x8_1) := ⟨_, rfl⟩
        replace H : (if bq15 = true then ((mail_Purse_Fill.f x275000_1 x275001_1).bind fun bt276 => (tontinelaw19_MailPurse.j1 k1 l1 ji9 ji9 x8_1 bt276.1 bt276.2)) else ((mail_Purse_Spend.f x275000_1 x275001_1).bind fun bt278 => (if (bt278.1 != (decide (x7_1 > 0))) = true then (some false) else (tontinelaw19_MailPurse.j1 k1 l1 ji9 (mx 0 (wrap64 (x7_1 - 1))) x8_1 bt278.2.1 bt278.2.2)))) = some r := by rw [← hbq15] at H; exact H
        have Nbq15 := Goto.m0 hbq15
        clear hbq15
        (try rw [← Nbq15.out])
        by_cases c16 : bq15 = true
        ·
         subst c16
         rw [if_pos rfl] at H
         replace H := Option.bind_eq_some_iff.mp H
         obtain ⟨⟨t276, t277⟩, A170, H⟩ := H
         replace H : (tontinelaw19_MailPurse.j1 k1 l1 ji9 ji9 x8_1 t276 t277) = some r := H
         have A17 := Goto.m0 A170
         clear A170
         have H' := Goto.m0 H
         clear H
         go_wp2_with (first | ((with_reducible refine gate_callee (f := 48) rfl ?_); refine goesL_ (some 31) rfl rfl Try.func48 (by kernel_rfl) rfl #[.pointer (some ⟨g274, 0, none⟩)] rfl (by (try simp only [List.map_toArray, List.map_cons, List.map_nil]); first | done | rfl | (simp only [List.length_drop, List.length_take]; rfl)) ?_; (with_reducible refine (mail_Purse_Fill.calls g274 x275000_1 x275001_1 t276 t277 w _ ?side1 ?side2 A17.out).mono ?_); (case side1 => repeat (first | (with_reducible first | exact HI274.out | apply IsS86.alloc | apply IsS86.drewN | apply IsS86.drew | apply IsS86.set_0 | apply IsS86.set_1) | exact HI274.out)); (case side2 => repeat (first | (with_reducible first | exact HB.out | apply below_alloc | apply pw_below_drewN | apply below_drew1 | refine below_set ?_ (IsS86.ge HI274.out)) | exact HB.out)); rintro e w18 ⟨rfl, hi, hb, hk⟩; refine ⟨_, rfl, ?_⟩; replace HB := Goto.m0 (hb); replace HI274 := Goto.m0 (hi); (try clear hb); (try clear hb2); (try clear hk); (try clear hi)))
         go_meet
         case rel => exact ⟨_, (ji9), (t276), (t277), (by first | rfl | (simp; done) | (simp only [← hji9] <;> (first | rfl | simp)) | (simp [*]; done)), H', ⟨by have := HK1.out; first | omega | exact Nat.le_refl _⟩, ⟨by repeat (first | (with_reducible first | exact HI274.out | apply IsS86.alloc | apply IsS86.drewN | apply IsS86.drew | apply IsS86.set_0 | apply IsS86.set_1) | exact HI274.out)⟩, ⟨by repeat (first | (with_reducible first | exact HB.out | apply below_alloc | apply pw_below_drewN | apply below_drew1 | refine below_set ?_ (IsS86.ge HI274.out)) | exact HB.out)⟩⟩
        ·
         replace c16 := Bool.eq_false_iff.mpr c16
         subst c16
         rw [if_neg (show ¬ (false = true) by decide)] at H
         replace H := Option.bind_eq_some_iff.mp H
         obtain ⟨⟨t278, t279, t280⟩, A190, H⟩ := H
         replace H : (if (t278 != (decide (x7_1 > 0))) = true then (some false) else (tontinelaw19_MailPurse.j1 k1 l1 ji9 (mx 0 (wrap64 (x7_1 - 1))) x8_1 t279 t280)) = some r := H
         have A19 := Goto.m0 A190
         clear A190
         by_cases c20 : (t278 != (decide (x7_1 > 0))) = true
         ·
          rw [if_pos c20] at H
          have c20b0 : (t278 != (decide (x7_1 > 0))) = true := c20
          (try (have c20b1 : decide (t278 = (decide (x7_1 > 0))) = false := by simpa using c20))
          (try (have c20b2 : (t278 == (decide (x7_1 > 0))) = false := by simpa using c20))
          (try (have c20b3 : ¬ (t278 = (decide (x7_1 > 0))) := by simpa using c20))
          clear c20
          exact absurd ((Option.some.inj H).trans HRT.out) (by decide)
         ·
          rw [if_neg c20] at H
          have c20b0 : (t278 != (decide (x7_1 > 0))) = false := by simpa using c20
          (try (have c20b1 : decide (t278 = (decide (x7_1 > 0))) = true := by simpa using c20))
          (try (have c20b2 : (t278 == (decide (x7_1 > 0))) = true := by simpa using c20))
          clear c20
          obtain ⟨ji21, hji21⟩ : ∃ j_ : Int, (mx 0 (wrap64 (x7_1 - 1))) = j_ := ⟨_, rfl⟩
          (try rw [hji21] at hji8)
          (try rw [hji21] at hji8w)
          (try rw [hji21] at hji9)
          (try rw [hji21] at hji9w)
          replace H : (tontinelaw19_MailPurse.j1 k1 l1 ji9 ji21 x8_1 t279 t280) = some r := by first | (rw [hji21] at H; exact H) | (simp only [hji21] at H ⊢; exact H)
          (try rw [hji21] at A19)
          have hji21_ : (if 0 < (wrap64 (x7_1 - 1)) then (wrap64 (x7_1 - 1)) else 0) = ji21 := hji21
          have H' := Goto.m0 H
          clear H
          go_wp2_with (first | ((with_reducible refine gate_callee (f := 49) rfl ?_); refine goesL_ (some 34) rfl rfl Try.func49 (by kernel_rfl) rfl #[.pointer (some ⟨g274, 0, none⟩)] rfl (by (try simp only [List.map_toArray, List.map_cons, List.map_nil]); first | done | rfl | (simp only [List.length_drop, List.length_take]; rfl)) ?_; (with_reducible refine (mail_Purse_Spend.calls g274 x275000_1 x275001_1 t278 t279 t280 w _ ?side1 ?side2 A19.out).mono ?_); (case side1 => repeat (first | (with_reducible first | exact HI274.out | apply IsS86.alloc | apply IsS86.drewN | apply IsS86.drew | apply IsS86.set_0 | apply IsS86.set_1) | exact HI274.out)); (case side2 => repeat (first | (with_reducible first | exact HB.out | apply below_alloc | apply pw_below_drewN | apply below_drew1 | refine below_set ?_ (IsS86.ge HI274.out)) | exact HB.out)); rintro e w22 ⟨rfl, hi, hb, hk⟩; refine ⟨_, rfl, ?_⟩; replace HB := Goto.m0 (hb); replace HI274 := Goto.m0 (hi); (try clear hb); (try clear hb2); (try clear hk); (try clear hi)))
          go_meet
          case rel => exact ⟨_, (ji21), (t279), (t280), (by first | rfl | (simp; done) | (simp only [← hji21] <;> (first | rfl | simp)) | (simp [*]; done)), H', ⟨by have := HK1.out; first | omega | exact Nat.le_refl _⟩, ⟨by repeat (first | (with_reducible first | exact HI274.out | apply IsS86.alloc | apply IsS86.drewN | apply IsS86.drew | apply IsS86.set_0 | apply IsS86.set_1) | exact HI274.out)⟩, ⟨by repeat (first | (with_reducible first | exact HB.out | apply below_alloc | apply pw_below_drewN | apply below_drew1 | refine below_set ?_ (IsS86.ge HI274.out)) | exact HB.out)⟩⟩
       case rest =>
        clear HC14; try clear c1; try clear q1; try clear c2; try clear p2; try clear q2; try clear hx2; try clear c3; try clear c4; try clear c5; try clear c5b0; try clear c5b1; try clear p6; try clear c12; try clear c12b0; try clear c13; try clear c13b0; try clear q15; try clear c16; try clear c20; try clear c20b0; try clear c20b1; try clear c20b2; try clear hx275_0; try clear p2; try clear p275; try clear q275
        obtain ⟨kq, x7_13, x275000_13, x275001_13, rfl, HA, HJ13, HI274, HB⟩ := hcut
        cases kq with
        | zero => exact absurd HA.out (by simp [tontinelaw19_MailPurse.j1])
        | succ kj13 =>
         have H := HA.out; clear HA
         simp only [tontinelaw19_MailPurse.j1] at H
         replace H := Option.bind_eq_some_iff.mp H
         obtain ⟨⟨t281, t282, t283⟩, A230, H⟩ := H
         replace H : (if t281 = x7_13 then (tontinelaw19_MailPurse.l0 kj13 l1 ji9 x7_13 (wrap64 (x8_1 + 1)) t282 t283) else (some false)) = some r := H
         have A23 := Goto.m0 A230
         clear A230
         by_cases c24 : t281 = x7_13
         ·
          rw [if_pos c24] at H
          have c24b0 : (t281 == x7_13) = true := beq_iff_eq.mpr c24
          have c24b1 : (t281 != x7_13) = false := bne_eq_false_iff_eq.mpr c24
          clear c24
          have H' := Goto.m0 H
          clear H
          go_wp2_with (first | ((with_reducible refine gate_callee (f := 50) rfl ?_); refine goesL_ (some 42) rfl rfl Try.func50 (by kernel_rfl) rfl #[.pointer (some ⟨g274, 0, none⟩)] rfl (by (try simp only [List.map_toArray, List.map_cons, List.map_nil]); first | done | rfl | (simp only [List.length_drop, List.length_take]; rfl)) ?_; (with_reducible refine (mail_Purse_Left.calls g274 x275000_13 x275001_13 t281 t282 t283 w _ ?side1 ?side2 A23.out).mono ?_); (case side1 => repeat (first | (with_reducible first | exact HI274.out | apply IsS86.alloc | apply IsS86.drewN | apply IsS86.drew | apply IsS86.set_0 | apply IsS86.set_1) | exact HI274.out)); (case side2 => repeat (first | (with_reducible first | exact HB.out | apply below_alloc | apply pw_below_drewN | apply below_drew1 | refine below_set ?_ (IsS86.ge HI274.out)) | exact HB.out)); rintro e w25 ⟨rfl, hi, hb, hk⟩; refine ⟨_, rfl, ?_⟩; replace HB := Goto.m0 (hb); replace HI274 := Goto.m0 (hi); (try clear hb); (try clear hb2); (try clear hk); (try clear hi)))
          go_roundg kj13
          case measure => have := HK1.out; have := HJ13.out; omega
          case rel => exact ⟨(x7_13), (wrap64 (x8_1 + 1)), (t282), (t283), (by first | rfl | (simp; done) | (simp [*]; done)), (by first | rfl | (simp; done) | (simp [*]; done)), H', ⟨by have := HK1.out; have := HJ13.out; omega⟩, ⟨by repeat (first | (with_reducible first | exact HI274.out | apply IsS86.alloc | apply IsS86.drewN | apply IsS86.drew | apply IsS86.set_0 | apply IsS86.set_1) | exact HI274.out)⟩, ⟨by repeat (first | (with_reducible first | exact HB.out | apply below_alloc | apply pw_below_drewN | apply below_drew1 | refine below_set ?_ (IsS86.ge HI274.out)) | exact HB.out)⟩⟩
         ·
          rw [if_neg c24] at H
          have c24b0 : (t281 == x7_13) = false := beq_eq_false_iff_ne.mpr c24
          have c24b1 : (t281 != x7_13) = true := bne_iff_ne.mpr c24
          exact absurd ((Option.some.inj H).trans HRT.out) (by decide)
      ·
       rw [if_neg c13] at H
       exact absurd H (by simp)
     ·
      rw [if_neg c12] at H
      have c12b0 : decide (x8_1 < (l1.length : Int)) = false := decide_eq_false c12
      clear c12
      obtain rfl := Option.some.inj H
      go_wp2
      go_ret
      exact ⟨by first | rfl | (simp [errW_none, errW_some] <;> rfl) | (simp only [← hji8, ← hji9]; first | rfl | (simp [errW_none, errW_some] <;> rfl)) | (simp [*, errW_none, errW_some] <;> rfl), by repeat (first | (with_reducible first | exact HB.out | apply below_alloc | apply pw_below_drewN | apply below_drew1 | refine below_set ?_ (IsS86.ge HI274.out)) | exact HB.out)⟩
 ·
  replace c4 := Bool.eq_false_iff.mpr c4
  subst c4
  rw [if_neg (show ¬ (false = true) by decide)] at H
  exact absurd ((Option.some.inj H).trans HRT.out) (by decide)

end Go.Proofs.Ytpbcamdjcnokfaa.P
