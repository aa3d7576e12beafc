/- Printed by a program of this workplace (a turned copy of the kit's optional print), out of the translation; not trusted: Lean checks it. -/
import Derived.Test.YtpbcamdjcnokfaaPx0
import Derived.Test.YtpbcamdjcnokfaaPx1
import Derived.Test.YtpbcamdjcnokfaaPx2
import Derived.Test.YtpbcamdjcnokfaaPx3
import Derived.Test.YtpbcamdjcnokfaaPx4
import Derived.Test.YtpbcamdjcnokfaaPx5
namespace Go.Proofs.Ytpbcamdjcnokfaa.P
open Go.RowKit Go.Proofs.YtpbcamdjcnokfaaW.PrintWords Go.Proofs.YtpbcamdjcnokfaaW.PrintLast Go.Proofs.YtpbcamdjcnokfaaW.PrintMore
attribute [local go_sem] max2_int min2_int max_two min_two max_three min_three max_four min_four   -- for this text's walks alone
set_option linter.unusedVariables false
set_option linter.unusedSimpArgs false

attribute [local go_sem high] eqA63
/-! ### tontinelaw19_MailOrder: function 14 -/
mutual
def tontinelaw19_MailOrder.j0 : Nat → Int → List Int → List Bool → Bool → Option (Bool)
  | 0, _, _, _, _ => none
  | k + 1, x0, x1, x2, x22 => if x22 = true then (some true) else ((mail_New.f (wrap64 ((wrap64 (Int.tmod x0 8)) + 1))).bind fun bt286 => (tontinelaw19_MailOrder.l0 k x1 x2 ([] : List (S63)) 0 bt286.1 bt286.2))
def tontinelaw19_MailOrder.l0 : Nat → List Int → List Bool → List (S63) → Int → List (S63) → Int → Option (Bool)
  | 0, _, _, _, _, _, _ => none
  | k + 1, x1, x2, x8, x9, x286000, x286001 => if x9 < (x1.length : Int) then (if 0 ≤ x9 then ((mail_Box_Put.f k x286000 x286001 (wrap64 (Int.tmod (rd x1 x9) 4)) x9).bind fun bt292 => (if bt292.1 = true then (if x8.length < 8796093022208 then (tontinelaw19_MailOrder.j2 k x1 x2 (x8 ++ [(⟨wrap64 (Int.tmod (rd x1 x9) 4), x9⟩ : S63)]) x9 bt292.2 x286001) else (none)) else (tontinelaw19_MailOrder.j2 k x1 x2 x8 x9 bt292.2 x286001))) else (none)) else (some true)
def tontinelaw19_MailOrder.j2 : Nat → List Int → List Bool → List (S63) → Int → List (S63) → Int → Option (Bool)
  | 0, _, _, _, _, _, _ => none
  | k + 1, x1, x2, x8, x9, x286000, x286001 => if x9 < (x2.length : Int) then (if 0 ≤ x9 then (tontinelaw19_MailOrder.j3 k x1 x2 x8 x9 (rdOf false x2 x9) x286000 x286001) else (none)) else (tontinelaw19_MailOrder.j3 k x1 x2 x8 x9 false x286000 x286001)
def tontinelaw19_MailOrder.j3 : Nat → List Int → List Bool → List (S63) → Int → Bool → List (S63) → Int → Option (Bool)
  | 0, _, _, _, _, _, _, _ => none
  | k + 1, x1, x2, x8, x9, x58, x286000, x286001 => if x58 = true then ((mail_Box_Take.f x286000 x286001).bind fun bt300 => (if (bt300.2.2.1 != (decide ((x8.length : Int) > 0))) = true then (tontinelaw19_MailOrder.j4 k x1 x2 x8 x9 bt300.2.2.1 true bt300.2.2.2 x286001) else (if bt300.2.2.1 = true then (if 0 < (x8.length : Int) then (tontinelaw19_MailOrder.j4 k x1 x2 x8 x9 bt300.2.2.1 (!(bt300.1 == ((rd_T63 x8 0).f0)) || (!(bt300.2.1 == ((rd_T63 x8 0).f1)))) bt300.2.2.2 x286001) else (none)) else (tontinelaw19_MailOrder.j4 k x1 x2 x8 x9 bt300.2.2.1 false bt300.2.2.2 x286001)))) else (tontinelaw19_MailOrder.j5 k x1 x2 x8 x9 x286000 x286001)
def tontinelaw19_MailOrder.j5 : Nat → List Int → List Bool → List (S63) → Int → List (S63) → Int → Option (Bool)
  | 0, _, _, _, _, _, _ => none
  | k + 1, x1, x2, x8, x9, x286000, x286001 => (mail_Box_Len.f x286000 x286001).bind fun bt311 => (if bt311.1 = (x8.length : Int) then (tontinelaw19_MailOrder.l0 k x1 x2 x8 (wrap64 (x9 + 1)) bt311.2 x286001) else (some false))
def tontinelaw19_MailOrder.j4 : Nat → List Int → List Bool → List (S63) → Int → Bool → Bool → List (S63) → Int → Option (Bool)
  | 0, _, _, _, _, _, _, _, _ => none
  | k + 1, x1, x2, x8, x9, x12, x78, x286000, x286001 => if x78 = true then (some false) else (if x12 = true then (if 1 ≤ (x8.length : Int) then (tontinelaw19_MailOrder.j5 k x1 x2 (x8.drop (1 : Int).toNat) x9 x286000 x286001) else (none)) else (tontinelaw19_MailOrder.j5 k x1 x2 x8 x9 x286000 x286001))
end
def tontinelaw19_MailOrder.f (k : Nat) (a0 : Int) (l1 : List Int) (l2 : List Bool) : Option (Bool) := (tontinelaw19_known.f k).bind fun t284 => (if t284 = true then (if (l1.length : Int) > 60 then (tontinelaw19_MailOrder.j0 k a0 l1 l2 true) else (tontinelaw19_MailOrder.j0 k a0 l1 l2 (decide ((l2.length : Int) > 60)))) else (some false))
theorem tontinelaw19_MailOrder.mono_l : ∀ k, (∀ y0 y1 y2 y3, LeO (tontinelaw19_MailOrder.j0 k y0 y1 y2 y3) (tontinelaw19_MailOrder.j0 (k + 1) y0 y1 y2 y3)) ∧ (∀ y0 y1 y2 y3 y4 y5, LeO (tontinelaw19_MailOrder.l0 k y0 y1 y2 y3 y4 y5) (tontinelaw19_MailOrder.l0 (k + 1) y0 y1 y2 y3 y4 y5)) ∧ (∀ y0 y1 y2 y3 y4 y5, LeO (tontinelaw19_MailOrder.j2 k y0 y1 y2 y3 y4 y5) (tontinelaw19_MailOrder.j2 (k + 1) y0 y1 y2 y3 y4 y5)) ∧ (∀ y0 y1 y2 y3 y4 y5 y6, LeO (tontinelaw19_MailOrder.j3 k y0 y1 y2 y3 y4 y5 y6) (tontinelaw19_MailOrder.j3 (k + 1) y0 y1 y2 y3 y4 y5 y6)) ∧ (∀ y0 y1 y2 y3 y4 y5, LeO (tontinelaw19_MailOrder.j5 k y0 y1 y2 y3 y4 y5) (tontinelaw19_MailOrder.j5 (k + 1) y0 y1 y2 y3 y4 y5)) ∧ (∀ y0 y1 y2 y3 y4 y5 y6 y7, LeO (tontinelaw19_MailOrder.j4 k y0 y1 y2 y3 y4 y5 y6 y7) (tontinelaw19_MailOrder.j4 (k + 1) y0 y1 y2 y3 y4 y5 y6 y7))
  | 0 => ⟨fun _ _ _ _ r h => by simp [tontinelaw19_MailOrder.j0] at h, fun _ _ _ _ _ _ r h => by simp [tontinelaw19_MailOrder.l0] at h, fun _ _ _ _ _ _ r h => by simp [tontinelaw19_MailOrder.j2] at h, fun _ _ _ _ _ _ _ r h => by simp [tontinelaw19_MailOrder.j3] at h, fun _ _ _ _ _ _ r h => by simp [tontinelaw19_MailOrder.j5] at h, fun _ _ _ _ _ _ _ _ r h => by simp [tontinelaw19_MailOrder.j4] at h⟩
  | k + 1 => by
    obtain ⟨ih0, ih1, ih2, ih3, ih4, ih5⟩ := tontinelaw19_MailOrder.mono_l k
    refine ⟨?_, ?_, ?_, ?_, ?_, ?_⟩
    · intro y0 y1 y2 y3
      unfold tontinelaw19_MailOrder.j0
      repeat' first
      | (with_reducible exact ih0 _ _ _ _)
      | (with_reducible exact ih1 _ _ _ _ _ _)
      | (with_reducible exact ih2 _ _ _ _ _ _)
      | (with_reducible exact ih3 _ _ _ _ _ _ _)
      | (with_reducible exact ih4 _ _ _ _ _ _)
      | (with_reducible exact ih5 _ _ _ _ _ _ _ _)
      | (with_reducible exact mail_Box_Put.mono _ _ _ _ _)
      | (with_reducible exact tontinelaw19_known.mono _)
      | (with_reducible exact LeO.refl _)
      | (with_reducible exact LeO.none _)
      | (with_reducible refine LeO.ite ?_ ?_)
      | (with_reducible refine LeO.bind ?_ (fun _ => ?_))
      | exact ih0 _ _ _ _
      | exact ih1 _ _ _ _ _ _
      | exact ih2 _ _ _ _ _ _
      | exact ih3 _ _ _ _ _ _ _
      | exact ih4 _ _ _ _ _ _
      | exact ih5 _ _ _ _ _ _ _ _
      | exact mail_Box_Put.mono _ _ _ _ _
      | exact tontinelaw19_known.mono _
      | exact LeO.none _
      | refine LeO.ite ?_ ?_
      | refine LeO.bind ?_ (fun _ => ?_)
    · intro y0 y1 y2 y3 y4 y5
      unfold tontinelaw19_MailOrder.l0
      repeat' first
      | (with_reducible exact ih0 _ _ _ _)
      | (with_reducible exact ih1 _ _ _ _ _ _)
      | (with_reducible exact ih2 _ _ _ _ _ _)
      | (with_reducible exact ih3 _ _ _ _ _ _ _)
      | (with_reducible exact ih4 _ _ _ _ _ _)
      | (with_reducible exact ih5 _ _ _ _ _ _ _ _)
      | (with_reducible exact mail_Box_Put.mono _ _ _ _ _)
      | (with_reducible exact tontinelaw19_known.mono _)
      | (with_reducible exact LeO.refl _)
      | (with_reducible exact LeO.none _)
      | (with_reducible refine LeO.ite ?_ ?_)
      | (with_reducible refine LeO.bind ?_ (fun _ => ?_))
      | exact ih0 _ _ _ _
      | exact ih1 _ _ _ _ _ _
      | exact ih2 _ _ _ _ _ _
      | exact ih3 _ _ _ _ _ _ _
      | exact ih4 _ _ _ _ _ _
      | exact ih5 _ _ _ _ _ _ _ _
      | exact mail_Box_Put.mono _ _ _ _ _
      | exact tontinelaw19_known.mono _
      | exact LeO.none _
      | refine LeO.ite ?_ ?_
      | refine LeO.bind ?_ (fun _ => ?_)
    · intro y0 y1 y2 y3 y4 y5
      unfold tontinelaw19_MailOrder.j2
      repeat' first
      | (with_reducible exact ih0 _ _ _ _)
      | (with_reducible exact ih1 _ _ _ _ _ _)
      | (with_reducible exact ih2 _ _ _ _ _ _)
      | (with_reducible exact ih3 _ _ _ _ _ _ _)
      | (with_reducible exact ih4 _ _ _ _ _ _)
      | (with_reducible exact ih5 _ _ _ _ _ _ _ _)
      | (with_reducible exact mail_Box_Put.mono _ _ _ _ _)
      | (with_reducible exact tontinelaw19_known.mono _)
      | (with_reducible exact LeO.refl _)
      | (with_reducible exact LeO.none _)
      | (with_reducible refine LeO.ite ?_ ?_)
      | (with_reducible refine LeO.bind ?_ (fun _ => ?_))
      | exact ih0 _ _ _ _
      | exact ih1 _ _ _ _ _ _
      | exact ih2 _ _ _ _ _ _
      | exact ih3 _ _ _ _ _ _ _
      | exact ih4 _ _ _ _ _ _
      | exact ih5 _ _ _ _ _ _ _ _
      | exact mail_Box_Put.mono _ _ _ _ _
      | exact tontinelaw19_known.mono _
      | exact LeO.none _
      | refine LeO.ite ?_ ?_
      | refine LeO.bind ?_ (fun _ => ?_)
    · intro y0 y1 y2 y3 y4 y5 y6
      unfold tontinelaw19_MailOrder.j3
      repeat' first
      | (with_reducible exact ih0 _ _ _ _)
      | (with_reducible exact ih1 _ _ _ _ _ _)
      | (with_reducible exact ih2 _ _ _ _ _ _)
      | (with_reducible exact ih3 _ _ _ _ _ _ _)
      | (with_reducible exact ih4 _ _ _ _ _ _)
      | (with_reducible exact ih5 _ _ _ _ _ _ _ _)
      | (with_reducible exact mail_Box_Put.mono _ _ _ _ _)
      | (with_reducible exact tontinelaw19_known.mono _)
      | (with_reducible exact LeO.refl _)
      | (with_reducible exact LeO.none _)
      | (with_reducible refine LeO.ite ?_ ?_)
      | (with_reducible refine LeO.bind ?_ (fun _ => ?_))
      | exact ih0 _ _ _ _
      | exact ih1 _ _ _ _ _ _
      | exact ih2 _ _ _ _ _ _
      | exact ih3 _ _ _ _ _ _ _
      | exact ih4 _ _ _ _ _ _
      | exact ih5 _ _ _ _ _ _ _ _
      | exact mail_Box_Put.mono _ _ _ _ _
      | exact tontinelaw19_known.mono _
      | exact LeO.none _
      | refine LeO.ite ?_ ?_
      | refine LeO.bind ?_ (fun _ => ?_)
    · intro y0 y1 y2 y3 y4 y5
      unfold tontinelaw19_MailOrder.j5
      repeat' first
      | (with_reducible exact ih0 _ _ _ _)
      | (with_reducible exact ih1 _ _ _ _ _ _)
      | (with_reducible exact ih2 _ _ _ _ _ _)
      | (with_reducible exact ih3 _ _ _ _ _ _ _)
      | (with_reducible exact ih4 _ _ _ _ _ _)
      | (with_reducible exact ih5 _ _ _ _ _ _ _ _)
      | (with_reducible exact mail_Box_Put.mono _ _ _ _ _)
      | (with_reducible exact tontinelaw19_known.mono _)
      | (with_reducible exact LeO.refl _)
      | (with_reducible exact LeO.none _)
      | (with_reducible refine LeO.ite ?_ ?_)
      | (with_reducible refine LeO.bind ?_ (fun _ => ?_))
      | exact ih0 _ _ _ _
      | exact ih1 _ _ _ _ _ _
      | exact ih2 _ _ _ _ _ _
      | exact ih3 _ _ _ _ _ _ _
      | exact ih4 _ _ _ _ _ _
      | exact ih5 _ _ _ _ _ _ _ _
      | exact mail_Box_Put.mono _ _ _ _ _
      | exact tontinelaw19_known.mono _
      | exact LeO.none _
      | refine LeO.ite ?_ ?_
      | refine LeO.bind ?_ (fun _ => ?_)
    · intro y0 y1 y2 y3 y4 y5 y6 y7
      unfold tontinelaw19_MailOrder.j4
      repeat' first
      | (with_reducible exact ih0 _ _ _ _)
      | (with_reducible exact ih1 _ _ _ _ _ _)
      | (with_reducible exact ih2 _ _ _ _ _ _)
      | (with_reducible exact ih3 _ _ _ _ _ _ _)
      | (with_reducible exact ih4 _ _ _ _ _ _)
      | (with_reducible exact ih5 _ _ _ _ _ _ _ _)
      | (with_reducible exact mail_Box_Put.mono _ _ _ _ _)
      | (with_reducible exact tontinelaw19_known.mono _)
      | (with_reducible exact LeO.refl _)
      | (with_reducible exact LeO.none _)
      | (with_reducible refine LeO.ite ?_ ?_)
      | (with_reducible refine LeO.bind ?_ (fun _ => ?_))
      | exact ih0 _ _ _ _
      | exact ih1 _ _ _ _ _ _
      | exact ih2 _ _ _ _ _ _
      | exact ih3 _ _ _ _ _ _ _
      | exact ih4 _ _ _ _ _ _
      | exact ih5 _ _ _ _ _ _ _ _
      | exact mail_Box_Put.mono _ _ _ _ _
      | exact tontinelaw19_known.mono _
      | exact LeO.none _
      | refine LeO.ite ?_ ?_
      | refine LeO.bind ?_ (fun _ => ?_)
theorem tontinelaw19_MailOrder.mono : ∀ a0 a1 a2 k, LeO (tontinelaw19_MailOrder.f k a0 a1 a2) (tontinelaw19_MailOrder.f (k + 1) a0 a1 a2) := by
 intro a0 a1 a2 k
 obtain ⟨ih0, ih1, ih2, ih3, ih4, ih5⟩ := tontinelaw19_MailOrder.mono_l k
 unfold tontinelaw19_MailOrder.f
 repeat' first
   | (with_reducible exact ih0 _ _ _ _)
   | (with_reducible exact ih1 _ _ _ _ _ _)
   | (with_reducible exact ih2 _ _ _ _ _ _)
   | (with_reducible exact ih3 _ _ _ _ _ _ _)
   | (with_reducible exact ih4 _ _ _ _ _ _)
   | (with_reducible exact ih5 _ _ _ _ _ _ _ _)
   | (with_reducible exact mail_Box_Put.mono _ _ _ _ _)
   | (with_reducible exact tontinelaw19_known.mono _)
   | (with_reducible exact LeO.refl _)
   | (with_reducible exact LeO.none _)
   | (with_reducible refine LeO.ite ?_ ?_)
   | (with_reducible refine LeO.bind ?_ (fun _ => ?_))
   | exact ih0 _ _ _ _
   | exact ih1 _ _ _ _ _ _
   | exact ih2 _ _ _ _ _ _
   | exact ih3 _ _ _ _ _ _ _
   | exact ih4 _ _ _ _ _ _
   | exact ih5 _ _ _ _ _ _ _ _
   | exact mail_Box_Put.mono _ _ _ _ _
   | exact tontinelaw19_known.mono _
   | exact LeO.none _
   | refine LeO.ite ?_ ?_
   | refine LeO.bind ?_ (fun _ => ?_)
set_option maxHeartbeats 8000000 in
set_option maxRecDepth 100000 in
theorem tontinelaw19_MailOrder.calls (k : Nat) (a0 : Int) (A1 : Option Addr) (c1 : Nat) (l1 : List Int) (A2 : Option Addr) (c2 : Nat) (l2 : List Bool) (r : Bool) (hrt : r = true) (w : World) (hr1 : Kd.C (Kd.int .u8) w A1 l1.length l1) (hc1 : l1.length ≤ c1) (hr2 : Kd.C Kd.bool w A2 l2.length l2) (hc2 : l2.length ≤ c2) (h : tontinelaw19_MailOrder.f k a0 l1 l2 = some r) :
    Calls Try.prog 14 #[.int .u8 a0, .slice A1 l1.length c1, .slice A2 l2.length c2] w fun e w' => e = .returned (.bool r) ∧ Below w.heap.size w w' := by
 have hu63 := Try.underlying63
 have HR1 := Goto.m0 hr1
 have HC1 := Goto.m0 hc1
 clear hr1 hc1
 have HR2 := Goto.m0 hr2
 have HC2 := Goto.m0 hc2
 clear hr2 hc2
 have HB := Goto.m0 (Below.refl w.heap.size w)
 have HRT := Goto.m0 hrt
 clear hrt
 have H : ((tontinelaw19_known.f k).bind fun t284 => (if t284 = true then (if (l1.length : Int) > 60 then (tontinelaw19_MailOrder.j0 k a0 l1 l2 true) else (tontinelaw19_MailOrder.j0 k a0 l1 l2 (decide ((l2.length : Int) > 60)))) else (some false))) = some r := h
 clear h
 replace H := Option.bind_eq_some_iff.mp H
 obtain ⟨t284, A40, H⟩ := H
 have A4 := Goto.m0 A40
 clear A40
 by_cases c5 : t284 = true
 ·
  subst c5
  rw [if_pos rfl] at H
  have HC6 := Goto.m0 H
  clear H
  go_enter Try.func14, Try.ntmps14
  go_upto_region 3 with (first | (go_at_call 37; (with_reducible refine (tontinelaw19_known.calls k  true (by first | rfl | assumption | (simp only [Bool.not_eq_true, Bool.not_eq_false] at *; assumption)) _ A4.out).mono ?_); rintro e w7 ⟨rfl, hb⟩; replace HB := Goto.hs HB hb; (try clear hb); (try clear hb2); (try clear hk); (try clear hi)))
  repeat (go_quiet (first | (go_at_call 37; (with_reducible refine (tontinelaw19_known.calls k  true (by first | rfl | assumption | (simp only [Bool.not_eq_true, Bool.not_eq_false] at *; assumption)) _ A4.out).mono ?_); rintro e w7 ⟨rfl, hb⟩; replace HB := Goto.hs HB hb; (try clear hb); (try clear hb2); (try clear hk); (try clear hi))); go_upto_region 3 with (first | (go_at_call 37; (with_reducible refine (tontinelaw19_known.calls k  true (by first | rfl | assumption | (simp only [Bool.not_eq_true, Bool.not_eq_false] at *; assumption)) _ A4.out).mono ?_); rintro e w7 ⟨rfl, hb⟩; replace HB := Goto.hs HB hb; (try clear hb); (try clear hb2); (try clear hk); (try clear hi))))
  (try simp only [Act.put, List.setIfInBounds_toArray, List.set_cons_zero, List.set_cons_succ])
  go_cut [22] (fun v22 wc => ∃ (kq : Nat) (x22_5 : Bool), v22 = .bool x22_5 ∧ Aside0 (tontinelaw19_MailOrder.j0 kq a0 l1 l2 x22_5 = some r) ∧ Aside0 (kq ≤ k) ∧ Aside0 (Below w.heap.size w wc))
  case first =>
   have H := HC6.out; clear HC6
   by_cases c8 : (l1.length : Int) > 60
   ·
    rw [if_pos c8] at H
    have c8b0 : decide (60 < (l1.length : Int)) = true := decide_eq_true c8
    have c8b1 : decide (60 < l1.length) = true := decide_eq_true (by omega)
    clear c8
    (first | rw [c8b0] | (simp only [i64_w, i32_w]; rw [c8b0]) | skip)
    have H' := Goto.m0 H
    clear H
    go_wp2
    repeat (go_quiet (fail); try go_wp2)
    go_meet
    case rel => exact ⟨_, (true), (by first | rfl | (simp; done) | (simp [*]; done)), H', ⟨by first | omega | exact Nat.le_refl _⟩, ⟨Goto.hx HB⟩⟩
   ·
    rw [if_neg c8] at H
    have c8b0 : decide (60 < (l1.length : Int)) = false := decide_eq_false c8
    have c8b1 : decide (60 < l1.length) = false := decide_eq_false (by omega)
    clear c8
    (first | rw [c8b0] | (simp only [i64_w, i32_w]; rw [c8b0]) | skip)
    have H' := Goto.m0 H
    clear H
    go_wp2
    repeat (go_quiet (fail); try go_wp2)
    go_meet
    case rel => exact ⟨_, (decide ((l2.length : Int) > 60)), (by first | rfl | (simp; done) | (simp [*]; done)), H', ⟨by first | omega | exact Nat.le_refl _⟩, ⟨Goto.hx HB⟩⟩
  case rest =>
   clear HC6; try clear c1; try clear c2; try clear p2; try clear c5; try clear c8; try clear c8b0; try clear c8b1
   obtain ⟨kq, x22_5, rfl, HA, HJ5, HB⟩ := hcut
   cases kq with
   | zero => exact absurd HA.out (by simp [tontinelaw19_MailOrder.j0])
   | succ kj5 =>
    have H := HA.out; clear HA
    simp only [tontinelaw19_MailOrder.j0] at H
    by_cases c9 : x22_5 = true
    ·
     subst c9
     rw [if_pos rfl] at H
     obtain rfl := Option.some.inj H
     go_wp2
     repeat (go_quiet (fail); try go_wp2)
     go_ret
     exact ⟨by first | rfl | (simp [errW_none, errW_some] <;> rfl) | (simp [*, errW_none, errW_some] <;> rfl), by repeat (first | (with_reducible first | exact HB.out | apply below_alloc | apply pw_below_drewN | apply below_drew1) | exact HB.out)⟩
    ·
     replace c9 := Bool.eq_false_iff.mpr c9
     subst c9
     rw [if_neg (show ¬ (false = true) by decide)] at H
     replace H := Option.bind_eq_some_iff.mp H
     obtain ⟨⟨t286, t289⟩, A100, H⟩ := H
     replace H : (tontinelaw19_MailOrder.l0 kj5 l1 l2 ([] : List (S63)) 0 t286 t289) = some r := H
     have A10 := Goto.m0 A100
     clear A100
     have H' := Goto.m0 H
     clear H
     go_wp2_with (first | (go_at_call 38; (with_reducible refine (mail_New.calls (wrap64 ((wrap64 (Int.tmod a0 8)) + 1)) t286 t289 _ A10.out).mono ?_); rintro e w11 ⟨v287, gb285, rfl, ho0, hi, hge, hb⟩; have HO288 := Goto.m0 (Kd.R_lower ho0 (below_size (Goto.hx HB))); have BK285 := Goto.m0 (hi); have GW285 := Goto.m0 ((Nat.le_trans (below_size (Goto.hx HB)) hge : w.heap.size ≤ gb285)); have GE285 := Goto.m0 ((Nat.le_trans (below_size (Goto.hx HB)) hge : w.heap.size ≤ gb285)); replace HB := Goto.hs HB hb; (try clear hb); (try clear hi); (try clear hge); (try clear ho0)))
     repeat (go_quiet (first | (go_at_call 38; (with_reducible refine (mail_New.calls (wrap64 ((wrap64 (Int.tmod a0 8)) + 1)) t286 t289 _ A10.out).mono ?_); rintro e w11 ⟨v287, gb285, rfl, ho0, hi, hge, hb⟩; have HO288 := Goto.m0 (Kd.R_lower ho0 (below_size (Goto.hx HB))); have BK285 := Goto.m0 (hi); have GW285 := Goto.m0 ((Nat.le_trans (below_size (Goto.hx HB)) hge : w.heap.size ≤ gb285)); have GE285 := Goto.m0 ((Nat.le_trans (below_size (Goto.hx HB)) hge : w.heap.size ≤ gb285)); replace HB := Goto.hs HB hb; (try clear hb); (try clear hi); (try clear hge); (try clear ho0))); try go_wp2_with (first | (go_at_call 38; (with_reducible refine (mail_New.calls (wrap64 ((wrap64 (Int.tmod a0 8)) + 1)) t286 t289 _ A10.out).mono ?_); rintro e w11 ⟨v287, gb285, rfl, ho0, hi, hge, hb⟩; have HO288 := Goto.m0 (Kd.R_lower ho0 (below_size (Goto.hx HB))); have BK285 := Goto.m0 (hi); have GW285 := Goto.m0 ((Nat.le_trans (below_size (Goto.hx HB)) hge : w.heap.size ≤ gb285)); have GE285 := Goto.m0 ((Nat.le_trans (below_size (Goto.hx HB)) hge : w.heap.size ≤ gb285)); replace HB := Goto.hs HB hb; (try clear hb); (try clear hi); (try clear hge); (try clear ho0))))
     go_loopg [8, 9] kj5 (fun kq v8 v9 w' => ∃ (x8_2 : List (S63)) (x9_2 : Int) (x286000_2 : List (S63)) (u286000 : Value), v9 = .int .i64 x9_2 ∧ Aside0 (tontinelaw19_MailOrder.l0 kq l1 l2 x8_2 x9_2 x286000_2 t289 = some r) ∧ Aside0 (kq ≤ kj5) ∧ Aside0 (Kd.Q k63 63 w' w.heap.size (fun k_ => some k_ ≠ (u286000 : Value).ownBlock) v8 x8_2) ∧ Aside0 (Kd.R k63 63 w' w.heap.size (fun k_ => some k_ ≠ (v8 : Value).ownBlock) u286000 x286000_2) ∧ Aside0 (w'.heap[gb285]? = some (.cells #[u286000, .int .i64 t289] 83 (0, 0))) ∧ Aside0 (Below w.heap.size w w'))
     case atStart => exact ⟨(([] : List (S63))), (0), (t286), (v287), (by first | rfl | (simp; done) | (simp [*]; done)), H', ⟨Nat.le_refl _⟩, ⟨Kd.Q_of_R (by first | exact Kd.R_nil _ _ _ _ _ | exact Kd.N_nil _ _ _ _ _ | exact Kd.V_nil _ _ _ _ _ | exact Kd.Q_nil _ _ _ _ _ | exact Kd.S_nil _ _ _ _ _)⟩, ⟨by (with_reducible repeat (first | apply Kd.R_alloc | apply Kd.R_drewN | apply Kd.R_drew)); exact Kd.R_mono HO288.out (fun _ hk => (by simp [Value.ownBlock]))⟩, ⟨Goto.bx BK285⟩, ⟨Goto.hx HB⟩⟩
     case round =>
      clear H'
      try clear c1; try clear c2; try clear p2; try clear c5; try clear p6; try clear c8; try clear c8b0; try clear c8b1; try clear c9; try clear p2
      obtain ⟨x8_2, x9_2, x286000_2, u286000, rfl, HA, HK2, HO_8, HO_286000, BK285, HB⟩ := hrel
      cases gk with
      | zero => exact absurd HA.out (by simp [tontinelaw19_MailOrder.l0])
      | succ k2 =>
       have H := HA.out; clear HA
       simp only [tontinelaw19_MailOrder.l0] at H
       by_cases c12 : x9_2 < (l1.length : Int)
       ·
        rw [if_pos c12] at H
        have c12b0 : decide (x9_2 < (l1.length : Int)) = true := decide_eq_true c12
        clear c12
        by_cases c13 : 0 ≤ x9_2
        ·
         rw [if_pos c13] at H
         have c13b0 : decide (0 ≤ x9_2) = true := decide_eq_true c13
         clear c13
         replace H := Option.bind_eq_some_iff.mp H
         obtain ⟨⟨t292, t293⟩, A140, H⟩ := H
         replace H : (if t292 = true then (if x8_2.length < 8796093022208 then (tontinelaw19_MailOrder.j2 k2 l1 l2 (x8_2 ++ [(⟨wrap64 (Int.tmod (rd l1 x9_2) 4), x9_2⟩ : S63)]) x9_2 t293 t289) else (none)) else (tontinelaw19_MailOrder.j2 k2 l1 l2 x8_2 x9_2 t293 t289)) = some r := H
         have A14 := Goto.m0 A140
         clear A140
         have HC15 := Goto.m0 H
         clear H
         have p290 : 0 ≤ (x9_2 : Int) := of_decide_eq_true (by first | (with_reducible assumption) | assumption)
         have q290 : x9_2 < (l1.length : Int) := of_decide_eq_true (by first | (with_reducible assumption) | assumption)
         obtain ⟨ad290, e290, hx290_0⟩ := Kd.at_int HR1.out x9_2 p290 q290
         cases e290
         replace hx290_0 := Goto.kc HB.out hx290_0
         replace p290 := eq_true p290; replace q290 := eq_true q290
         go_upto_if 44 with (first | ((with_reducible refine gate_dst (N := 10) rfl ?_); (try (refine gate_guard (by rfl) ?_; dsimp only)); refine box_event ?hg (N := 10) ?hd (cs := #[.int .i64 0, .int .i64 0]) (t := 63) ?hr ?_; (case hd => rfl); (case hg => rfl); (case hr => first | (go_simp; done) | (go_simp; rfl)); intro gb291 hg w16 hbox hb; have BK291 := Goto.m0 (hbox); have GW291 := Goto.gs HB hg; have GE291 := Goto.gs HB hg; have NB285_291 := Goto.nl BK285 hg; have NB291_285 := Goto.nr BK285 hg; replace HO_8 := Goto.m0 (Kd.Q_below (Kd.Q_elderB (by (with_reducible repeat (first | apply Kd.Q_alloc | apply Kd.Q_drewN | apply Kd.Q_drew)); exact HO_8.out) gb291 (Nat.le_of_eq hg.symm)) hb); replace HO_286000 := Goto.m0 (Kd.R_below (Kd.R_elderB (by (with_reducible repeat (first | apply Kd.R_alloc | apply Kd.R_drewN | apply Kd.R_drew)); exact HO_286000.out) gb291 (Nat.le_of_eq hg.symm)) hb); replace BK285 := Goto.bb BK285 hb; replace HB := Goto.hs HB hb; clear hb hbox hg; have hnb17 := NB291_285.out; have hnc17 := NB285_291.out; have hcz18_0 : w16.cell? ⟨gb291, 0, none⟩ = some (.int .i64 0) := (blk_cell BK291.out 0).trans rfl; have hcz18_1 : w16.cell? ⟨gb291, 1, none⟩ = some (.int .i64 0) := (blk_cell BK291.out 1).trans rfl; have hfz18_0 := blk_frozen BK291.out 0; have hfz18_1 := blk_frozen BK291.out 1) | ((with_reducible refine gate_store (t := 63) (p := 10) rfl ?_); (try (rw [drewN_self w16]; generalize hq_ : World.drewN w16 _ = w16; have n0_ := Goto.m0 (Kd.Q_at hq_ HO_8.out); have n1_ := Goto.m0 (Kd.R_at hq_ HO_286000.out); have n2_ := Goto.m0 (blk_at hq_ BK285.out); have n3_ := Goto.m0 (blk_at hq_ BK291.out); have n4_ := Goto.m0 (below_at hq_ HB.out); clear hq_ HO_8 HO_286000 BK285 BK291 HB; have HO_8 := n0_; have HO_286000 := n1_; have BK285 := n2_; have BK291 := n3_; have HB := n4_; clear n0_ n1_ n2_ n3_ n4_)); refine store_event (t := 63) (p := 10) (v := ?vo_w19) (w1 := ((w16.setCell ⟨gb291, 0, none⟩ (.int .i64 (wrap64 (Int.tmod (rd l1 x9_2) 4)))).setCell ⟨gb291, 1, none⟩ (.int .i64 x9_2))) ?hg ?ho ?hn ?hr ?_; (case ho => rfl); (case hg => rfl); (case hn => rfl); (case hr => first | (go_simp; done) | (go_simp; rfl)); intro w19 hw; have n0_ : Aside0 (Kd.Q k63 63 w19 w.heap.size (fun k_ => some k_ ≠ (u286000 : Value).ownBlock ∧ k_ ≠ gb291) u8 x8_2) := ⟨(by rw [hw]; exact (by (with_reducible repeat (first | apply Kd.Q_alloc | apply Kd.Q_drewN | apply Kd.Q_drew)); exact Kd.Q_mono (Kd.Q_far (p := ⟨gb291, 1, none⟩) (Kd.Q_far (p := ⟨gb291, 0, none⟩) (Kd.Q_mono HO_8.out (fun k_ hk => (⟨hk, hk.2⟩ : _ ∧ k_ ≠ gb291))) (fun _ hk => hk.2) (.int .i64 (wrap64 (Int.tmod (rd l1 x9_2) 4)))) (fun _ hk => hk.2) (.int .i64 x9_2)) (fun _ hk => ⟨hk.1.1, hk.1.2⟩)))⟩; have n1_ : Aside0 (Kd.R k63 63 w19 w.heap.size (fun k_ => some k_ ≠ (u8 : Value).ownBlock ∧ k_ ≠ gb291) u286000 x286000_2) := ⟨(by rw [hw]; exact (by (with_reducible repeat (first | apply Kd.R_alloc | apply Kd.R_drewN | apply Kd.R_drew)); exact Kd.R_mono (Kd.R_far (p := ⟨gb291, 1, none⟩) (Kd.R_far (p := ⟨gb291, 0, none⟩) (Goto.nx gb291 HO_286000.out (fun k_ hk => hk.2)) (fun _ hk => hk.2) (.int .i64 (wrap64 (Int.tmod (rd l1 x9_2) 4)))) (fun _ hk => hk.2) (.int .i64 x9_2)) (fun _ hk => ⟨hk.1.1, hk.1.2⟩)))⟩; have n2_ : Aside0 (w19.heap[gb285]? = some (.cells #[u286000, .int .i64 t289] 83 (0, 0))) := ⟨(by rw [hw]; exact (Goto.bx BK285))⟩; have n3_ : Aside0 (w19.heap[gb291]? = some (.cells #[.int .i64 (wrap64 (Int.tmod (rd l1 x9_2) 4)), .int .i64 x9_2] 63 (0, 0))) := ⟨(by rw [hw]; exact (Goto.bx BK291))⟩; have n4_ : Aside0 (Below w.heap.size w w19) := ⟨(by rw [hw]; exact (Goto.hx HB))⟩; clear hw; clear HO_8; clear HO_286000; clear BK285; clear BK291; clear HB; have HO_8 := n0_; have HO_286000 := n1_; have BK285 := n2_; have BK291 := n3_; have HB := n4_; clear n0_ n1_ n2_ n3_ n4_; have hcz20_0 : w19.cell? ⟨gb291, 0, none⟩ = some (.int .i64 (wrap64 (Int.tmod (rd l1 x9_2) 4))) := (blk_cell BK291.out 0).trans rfl; have hcz20_1 : w19.cell? ⟨gb291, 1, none⟩ = some (.int .i64 x9_2) := (blk_cell BK291.out 1).trans rfl; have hfz20_0 := blk_frozen BK291.out 0; have hfz20_1 := blk_frozen BK291.out 1) | (go_at_call 40; (with_reducible refine (mail_Box_Put.calls k2 gb285 (fun k_ => some k_ = (u286000 : Value).ownBlock) u286000 x286000_2 t289 (wrap64 (Int.tmod (rd l1 x9_2) 4)) x9_2 t292 t293 w _ ?side1 ?side2 ?side3 ?side4 A14.out).mono ?_); (case side1 => exact by (with_reducible repeat first | refine blk_drewN ?_ _ | refine blk_drew ?_ | refine blk_alloc ?_ _); exact BK285.out); (case side2 => exact GE285.out); (case side3 => repeat (first | (with_reducible first | exact HB.out | apply below_alloc | apply pw_below_drewN | apply below_drew1 | refine below_set ?_ GE285.out | refine below_set ?_ GE291.out) | exact HB.out)); (case side4 => exact Kd.R_tight rfl HO_286000.out); rintro e w21 ⟨v294, rfl, ho0, hi, hb, hkp⟩; have n0_ := Goto.m0 (Kd.Q_mono (ok' := fun k_ => k_ ≠ gb291 ∧ some k_ ≠ (v294 : Value).ownBlock) (Kd.Q_keptB ((Kd.Q_types HO_8.out BK285.out (by decide))) hkp (fun k_ hk_ hs_ => Or.elim hs_ (fun hs_ => (hk_.1.1) hs_) (fun e_ => (hk_.2) e_))) (fun k_ hk_ => ⟨hk_.1.1.2, fun e_ => Or.elim (ho0.1 k_ e_.symm) (fun hs_ => hk_.2.1 (.inl hs_)) (fun hn_ => Nat.not_le.2 hk_.2.2 hn_)⟩)); have n1_ := Goto.m0 (hi); have n2_ := Goto.m0 (blk_kept (Goto.bx BK291) hkp (fun hs_ => Or.elim hs_ (fun hs_ => (fun e_ => (Kd.R_away HO_286000.out (fun _ hk => hk.2)) e_) hs_) (fun e_ => NB291_285.out e_))); have n3_ := Goto.m0 (Kd.R_mono (ok' := fun k_ => some k_ ≠ (u8 : Value).ownBlock ∧ k_ ≠ gb291) ho0 (fun k_ hk_ => ⟨Or.elim hk_ (fun hs_ => fun e_ => ((((Kd.Q_types HO_8.out BK285.out (by decide))).1 k_ e_.symm).1.1) hs_) (fun hn_ => (Kd.fresh' (Kd.Q_lt (by (with_reducible repeat (first | apply Kd.Q_alloc | apply Kd.Q_drewN | apply Kd.Q_drew)); exact HO_8.out)) k_ hn_)), Or.elim hk_ (fun hs_ => fun e_ => (Kd.R_away HO_286000.out (fun _ hk => hk.2)) (by rw [← e_]; exact hs_)) (fun hn_ => (Kd.freshB (g := gb291) (o := .cells #[.int .i64 (wrap64 (Int.tmod (rd l1 x9_2) 4)), .int .i64 x9_2] 63 (0, 0)) (Goto.bx BK291) k_ hn_))⟩)); have n4_ := Goto.m0 (hb); clear HO_8; clear BK285; clear BK291; clear HB; clear HO_286000; have HO_8 := n0_; have BK285 := n1_; have BK291 := n2_; have HO295 := n3_; have HB := n4_; clear n0_ n1_ n2_ n3_ n4_; (try clear hb); (try clear hkp); (try clear ho0)))
         repeat (go_quiet (first | ((with_reducible refine gate_dst (N := 10) rfl ?_); (try (refine gate_guard (by rfl) ?_; dsimp only)); refine box_event ?hg (N := 10) ?hd (cs := #[.int .i64 0, .int .i64 0]) (t := 63) ?hr ?_; (case hd => rfl); (case hg => rfl); (case hr => first | (go_simp; done) | (go_simp; rfl)); intro gb291 hg w16 hbox hb; have BK291 := Goto.m0 (hbox); have GW291 := Goto.gs HB hg; have GE291 := Goto.gs HB hg; have NB285_291 := Goto.nl BK285 hg; have NB291_285 := Goto.nr BK285 hg; replace HO_8 := Goto.m0 (Kd.Q_below (Kd.Q_elderB (by (with_reducible repeat (first | apply Kd.Q_alloc | apply Kd.Q_drewN | apply Kd.Q_drew)); exact HO_8.out) gb291 (Nat.le_of_eq hg.symm)) hb); replace HO_286000 := Goto.m0 (Kd.R_below (Kd.R_elderB (by (with_reducible repeat (first | apply Kd.R_alloc | apply Kd.R_drewN | apply Kd.R_drew)); exact HO_286000.out) gb291 (Nat.le_of_eq hg.symm)) hb); replace BK285 := Goto.bb BK285 hb; replace HB := Goto.hs HB hb; clear hb hbox hg; have hnb17 := NB291_285.out; have hnc17 := NB285_291.out; have hcz18_0 : w16.cell? ⟨gb291, 0, none⟩ = some (.int .i64 0) := (blk_cell BK291.out 0).trans rfl; have hcz18_1 : w16.cell? ⟨gb291, 1, none⟩ = some (.int .i64 0) := (blk_cell BK291.out 1).trans rfl; have hfz18_0 := blk_frozen BK291.out 0; have hfz18_1 := blk_frozen BK291.out 1) | ((with_reducible refine gate_store (t := 63) (p := 10) rfl ?_); (try (rw [drewN_self w16]; generalize hq_ : World.drewN w16 _ = w16; have n0_ := Goto.m0 (Kd.Q_at hq_ HO_8.out); have n1_ := Goto.m0 (Kd.R_at hq_ HO_286000.out); have n2_ := Goto.m0 (blk_at hq_ BK285.out); have n3_ := Goto.m0 (blk_at hq_ BK291.out); have n4_ := Goto.m0 (below_at hq_ HB.out); clear hq_ HO_8 HO_286000 BK285 BK291 HB; have HO_8 := n0_; have HO_286000 := n1_; have BK285 := n2_; have BK291 := n3_; have HB := n4_; clear n0_ n1_ n2_ n3_ n4_)); refine store_event (t := 63) (p := 10) (v := ?vo_w19) (w1 := ((w16.setCell ⟨gb291, 0, none⟩ (.int .i64 (wrap64 (Int.tmod (rd l1 x9_2) 4)))).setCell ⟨gb291, 1, none⟩ (.int .i64 x9_2))) ?hg ?ho ?hn ?hr ?_; (case ho => rfl); (case hg => rfl); (case hn => rfl); (case hr => first | (go_simp; done) | (go_simp; rfl)); intro w19 hw; have n0_ : Aside0 (Kd.Q k63 63 w19 w.heap.size (fun k_ => some k_ ≠ (u286000 : Value).ownBlock ∧ k_ ≠ gb291) u8 x8_2) := ⟨(by rw [hw]; exact (by (with_reducible repeat (first | apply Kd.Q_alloc | apply Kd.Q_drewN | apply Kd.Q_drew)); exact Kd.Q_mono (Kd.Q_far (p := ⟨gb291, 1, none⟩) (Kd.Q_far (p := ⟨gb291, 0, none⟩) (Kd.Q_mono HO_8.out (fun k_ hk => (⟨hk, hk.2⟩ : _ ∧ k_ ≠ gb291))) (fun _ hk => hk.2) (.int .i64 (wrap64 (Int.tmod (rd l1 x9_2) 4)))) (fun _ hk => hk.2) (.int .i64 x9_2)) (fun _ hk => ⟨hk.1.1, hk.1.2⟩)))⟩; have n1_ : Aside0 (Kd.R k63 63 w19 w.heap.size (fun k_ => some k_ ≠ (u8 : Value).ownBlock ∧ k_ ≠ gb291) u286000 x286000_2) := ⟨(by rw [hw]; exact (by (with_reducible repeat (first | apply Kd.R_alloc | apply Kd.R_drewN | apply Kd.R_drew)); exact Kd.R_mono (Kd.R_far (p := ⟨gb291, 1, none⟩) (Kd.R_far (p := ⟨gb291, 0, none⟩) (Goto.nx gb291 HO_286000.out (fun k_ hk => hk.2)) (fun _ hk => hk.2) (.int .i64 (wrap64 (Int.tmod (rd l1 x9_2) 4)))) (fun _ hk => hk.2) (.int .i64 x9_2)) (fun _ hk => ⟨hk.1.1, hk.1.2⟩)))⟩; have n2_ : Aside0 (w19.heap[gb285]? = some (.cells #[u286000, .int .i64 t289] 83 (0, 0))) := ⟨(by rw [hw]; exact (Goto.bx BK285))⟩; have n3_ : Aside0 (w19.heap[gb291]? = some (.cells #[.int .i64 (wrap64 (Int.tmod (rd l1 x9_2) 4)), .int .i64 x9_2] 63 (0, 0))) := ⟨(by rw [hw]; exact (Goto.bx BK291))⟩; have n4_ : Aside0 (Below w.heap.size w w19) := ⟨(by rw [hw]; exact (Goto.hx HB))⟩; clear hw; clear HO_8; clear HO_286000; clear BK285; clear BK291; clear HB; have HO_8 := n0_; have HO_286000 := n1_; have BK285 := n2_; have BK291 := n3_; have HB := n4_; clear n0_ n1_ n2_ n3_ n4_; have hcz20_0 : w19.cell? ⟨gb291, 0, none⟩ = some (.int .i64 (wrap64 (Int.tmod (rd l1 x9_2) 4))) := (blk_cell BK291.out 0).trans rfl; have hcz20_1 : w19.cell? ⟨gb291, 1, none⟩ = some (.int .i64 x9_2) := (blk_cell BK291.out 1).trans rfl; have hfz20_0 := blk_frozen BK291.out 0; have hfz20_1 := blk_frozen BK291.out 1) | (go_at_call 40; (with_reducible refine (mail_Box_Put.calls k2 gb285 (fun k_ => some k_ = (u286000 : Value).ownBlock) u286000 x286000_2 t289 (wrap64 (Int.tmod (rd l1 x9_2) 4)) x9_2 t292 t293 w _ ?side1 ?side2 ?side3 ?side4 A14.out).mono ?_); (case side1 => exact by (with_reducible repeat first | refine blk_drewN ?_ _ | refine blk_drew ?_ | refine blk_alloc ?_ _); exact BK285.out); (case side2 => exact GE285.out); (case side3 => repeat (first | (with_reducible first | exact HB.out | apply below_alloc | apply pw_below_drewN | apply below_drew1 | refine below_set ?_ GE285.out | refine below_set ?_ GE291.out) | exact HB.out)); (case side4 => exact Kd.R_tight rfl HO_286000.out); rintro e w21 ⟨v294, rfl, ho0, hi, hb, hkp⟩; have n0_ := Goto.m0 (Kd.Q_mono (ok' := fun k_ => k_ ≠ gb291 ∧ some k_ ≠ (v294 : Value).ownBlock) (Kd.Q_keptB ((Kd.Q_types HO_8.out BK285.out (by decide))) hkp (fun k_ hk_ hs_ => Or.elim hs_ (fun hs_ => (hk_.1.1) hs_) (fun e_ => (hk_.2) e_))) (fun k_ hk_ => ⟨hk_.1.1.2, fun e_ => Or.elim (ho0.1 k_ e_.symm) (fun hs_ => hk_.2.1 (.inl hs_)) (fun hn_ => Nat.not_le.2 hk_.2.2 hn_)⟩)); have n1_ := Goto.m0 (hi); have n2_ := Goto.m0 (blk_kept (Goto.bx BK291) hkp (fun hs_ => Or.elim hs_ (fun hs_ => (fun e_ => (Kd.R_away HO_286000.out (fun _ hk => hk.2)) e_) hs_) (fun e_ => NB291_285.out e_))); have n3_ := Goto.m0 (Kd.R_mono (ok' := fun k_ => some k_ ≠ (u8 : Value).ownBlock ∧ k_ ≠ gb291) ho0 (fun k_ hk_ => ⟨Or.elim hk_ (fun hs_ => fun e_ => ((((Kd.Q_types HO_8.out BK285.out (by decide))).1 k_ e_.symm).1.1) hs_) (fun hn_ => (Kd.fresh' (Kd.Q_lt (by (with_reducible repeat (first | apply Kd.Q_alloc | apply Kd.Q_drewN | apply Kd.Q_drew)); exact HO_8.out)) k_ hn_)), Or.elim hk_ (fun hs_ => fun e_ => (Kd.R_away HO_286000.out (fun _ hk => hk.2)) (by rw [← e_]; exact hs_)) (fun hn_ => (Kd.freshB (g := gb291) (o := .cells #[.int .i64 (wrap64 (Int.tmod (rd l1 x9_2) 4)), .int .i64 x9_2] 63 (0, 0)) (Goto.bx BK291) k_ hn_))⟩)); have n4_ := Goto.m0 (hb); clear HO_8; clear BK285; clear BK291; clear HB; clear HO_286000; have HO_8 := n0_; have BK285 := n1_; have BK291 := n2_; have HO295 := n3_; have HB := n4_; clear n0_ n1_ n2_ n3_ n4_; (try clear hb); (try clear hkp); (try clear ho0))); go_upto_if 44 with (first | ((with_reducible refine gate_dst (N := 10) rfl ?_); (try (refine gate_guard (by rfl) ?_; dsimp only)); refine box_event ?hg (N := 10) ?hd (cs := #[.int .i64 0, .int .i64 0]) (t := 63) ?hr ?_; (case hd => rfl); (case hg => rfl); (case hr => first | (go_simp; done) | (go_simp; rfl)); intro gb291 hg w16 hbox hb; have BK291 := Goto.m0 (hbox); have GW291 := Goto.gs HB hg; have GE291 := Goto.gs HB hg; have NB285_291 := Goto.nl BK285 hg; have NB291_285 := Goto.nr BK285 hg; replace HO_8 := Goto.m0 (Kd.Q_below (Kd.Q_elderB (by (with_reducible repeat (first | apply Kd.Q_alloc | apply Kd.Q_drewN | apply Kd.Q_drew)); exact HO_8.out) gb291 (Nat.le_of_eq hg.symm)) hb); replace HO_286000 := Goto.m0 (Kd.R_below (Kd.R_elderB (by (with_reducible repeat (first | apply Kd.R_alloc | apply Kd.R_drewN | apply Kd.R_drew)); exact HO_286000.out) gb291 (Nat.le_of_eq hg.symm)) hb); replace BK285 := Goto.bb BK285 hb; replace HB := Goto.hs HB hb; clear hb hbox hg; have hnb17 := NB291_285.out; have hnc17 := NB285_291.out; have hcz18_0 : w16.cell? ⟨gb291, 0, none⟩ = some (.int .i64 0) := (blk_cell BK291.out 0).trans rfl; have hcz18_1 : w16.cell? ⟨gb291, 1, none⟩ = some (.int .i64 0) := (blk_cell BK291.out 1).trans rfl; have hfz18_0 := blk_frozen BK291.out 0; have hfz18_1 := blk_frozen BK291.out 1) | ((with_reducible refine gate_store (t := 63) (p := 10) rfl ?_); (try (rw [drewN_self w16]; generalize hq_ : World.drewN w16 _ = w16; have n0_ := Goto.m0 (Kd.Q_at hq_ HO_8.out); have n1_ := Goto.m0 (Kd.R_at hq_ HO_286000.out); have n2_ := Goto.m0 (blk_at hq_ BK285.out); have n3_ := Goto.m0 (blk_at hq_ BK291.out); have n4_ := Goto.m0 (below_at hq_ HB.out); clear hq_ HO_8 HO_286000 BK285 BK291 HB; have HO_8 := n0_; have HO_286000 := n1_; have BK285 := n2_; have BK291 := n3_; have HB := n4_; clear n0_ n1_ n2_ n3_ n4_)); refine store_event (t := 63) (p := 10) (v := ?vo_w19) (w1 := ((w16.setCell ⟨gb291, 0, none⟩ (.int .i64 (wrap64 (Int.tmod (rd l1 x9_2) 4)))).setCell ⟨gb291, 1, none⟩ (.int .i64 x9_2))) ?hg ?ho ?hn ?hr ?_; (case ho => rfl); (case hg => rfl); (case hn => rfl); (case hr => first | (go_simp; done) | (go_simp; rfl)); intro w19 hw; have n0_ : Aside0 (Kd.Q k63 63 w19 w.heap.size (fun k_ => some k_ ≠ (u286000 : Value).ownBlock ∧ k_ ≠ gb291) u8 x8_2) := ⟨(by rw [hw]; exact (by (with_reducible repeat (first | apply Kd.Q_alloc | apply Kd.Q_drewN | apply Kd.Q_drew)); exact Kd.Q_mono (Kd.Q_far (p := ⟨gb291, 1, none⟩) (Kd.Q_far (p := ⟨gb291, 0, none⟩) (Kd.Q_mono HO_8.out (fun k_ hk => (⟨hk, hk.2⟩ : _ ∧ k_ ≠ gb291))) (fun _ hk => hk.2) (.int .i64 (wrap64 (Int.tmod (rd l1 x9_2) 4)))) (fun _ hk => hk.2) (.int .i64 x9_2)) (fun _ hk => ⟨hk.1.1, hk.1.2⟩)))⟩; have n1_ : Aside0 (Kd.R k63 63 w19 w.heap.size (fun k_ => some k_ ≠ (u8 : Value).ownBlock ∧ k_ ≠ gb291) u286000 x286000_2) := ⟨(by rw [hw]; exact (by (with_reducible repeat (first | apply Kd.R_alloc | apply Kd.R_drewN | apply Kd.R_drew)); exact Kd.R_mono (Kd.R_far (p := ⟨gb291, 1, none⟩) (Kd.R_far (p := ⟨gb291, 0, none⟩) (Goto.nx gb291 HO_286000.out (fun k_ hk => hk.2)) (fun _ hk => hk.2) (.int .i64 (wrap64 (Int.tmod (rd l1 x9_2) 4)))) (fun _ hk => hk.2) (.int .i64 x9_2)) (fun _ hk => ⟨hk.1.1, hk.1.2⟩)))⟩; have n2_ : Aside0 (w19.heap[gb285]? = some (.cells #[u286000, .int .i64 t289] 83 (0, 0))) := ⟨(by rw [hw]; exact (Goto.bx BK285))⟩; have n3_ : Aside0 (w19.heap[gb291]? = some (.cells #[.int .i64 (wrap64 (Int.tmod (rd l1 x9_2) 4)), .int .i64 x9_2] 63 (0, 0))) := ⟨(by rw [hw]; exact (Goto.bx BK291))⟩; have n4_ : Aside0 (Below w.heap.size w w19) := ⟨(by rw [hw]; exact (Goto.hx HB))⟩; clear hw; clear HO_8; clear HO_286000; clear BK285; clear BK291; clear HB; have HO_8 := n0_; have HO_286000 := n1_; have BK285 := n2_; have BK291 := n3_; have HB := n4_; clear n0_ n1_ n2_ n3_ n4_; have hcz20_0 : w19.cell? ⟨gb291, 0, none⟩ = some (.int .i64 (wrap64 (Int.tmod (rd l1 x9_2) 4))) := (blk_cell BK291.out 0).trans rfl; have hcz20_1 : w19.cell? ⟨gb291, 1, none⟩ = some (.int .i64 x9_2) := (blk_cell BK291.out 1).trans rfl; have hfz20_0 := blk_frozen BK291.out 0; have hfz20_1 := blk_frozen BK291.out 1) | (go_at_call 40; (with_reducible refine (mail_Box_Put.calls k2 gb285 (fun k_ => some k_ = (u286000 : Value).ownBlock) u286000 x286000_2 t289 (wrap64 (Int.tmod (rd l1 x9_2) 4)) x9_2 t292 t293 w _ ?side1 ?side2 ?side3 ?side4 A14.out).mono ?_); (case side1 => exact by (with_reducible repeat first | refine blk_drewN ?_ _ | refine blk_drew ?_ | refine blk_alloc ?_ _); exact BK285.out); (case side2 => exact GE285.out); (case side3 => repeat (first | (with_reducible first | exact HB.out | apply below_alloc | apply pw_below_drewN | apply below_drew1 | refine below_set ?_ GE285.out | refine below_set ?_ GE291.out) | exact HB.out)); (case side4 => exact Kd.R_tight rfl HO_286000.out); rintro e w21 ⟨v294, rfl, ho0, hi, hb, hkp⟩; have n0_ := Goto.m0 (Kd.Q_mono (ok' := fun k_ => k_ ≠ gb291 ∧ some k_ ≠ (v294 : Value).ownBlock) (Kd.Q_keptB ((Kd.Q_types HO_8.out BK285.out (by decide))) hkp (fun k_ hk_ hs_ => Or.elim hs_ (fun hs_ => (hk_.1.1) hs_) (fun e_ => (hk_.2) e_))) (fun k_ hk_ => ⟨hk_.1.1.2, fun e_ => Or.elim (ho0.1 k_ e_.symm) (fun hs_ => hk_.2.1 (.inl hs_)) (fun hn_ => Nat.not_le.2 hk_.2.2 hn_)⟩)); have n1_ := Goto.m0 (hi); have n2_ := Goto.m0 (blk_kept (Goto.bx BK291) hkp (fun hs_ => Or.elim hs_ (fun hs_ => (fun e_ => (Kd.R_away HO_286000.out (fun _ hk => hk.2)) e_) hs_) (fun e_ => NB291_285.out e_))); have n3_ := Goto.m0 (Kd.R_mono (ok' := fun k_ => some k_ ≠ (u8 : Value).ownBlock ∧ k_ ≠ gb291) ho0 (fun k_ hk_ => ⟨Or.elim hk_ (fun hs_ => fun e_ => ((((Kd.Q_types HO_8.out BK285.out (by decide))).1 k_ e_.symm).1.1) hs_) (fun hn_ => (Kd.fresh' (Kd.Q_lt (by (with_reducible repeat (first | apply Kd.Q_alloc | apply Kd.Q_drewN | apply Kd.Q_drew)); exact HO_8.out)) k_ hn_)), Or.elim hk_ (fun hs_ => fun e_ => (Kd.R_away HO_286000.out (fun _ hk => hk.2)) (by rw [← e_]; exact hs_)) (fun hn_ => (Kd.freshB (g := gb291) (o := .cells #[.int .i64 (wrap64 (Int.tmod (rd l1 x9_2) 4)), .int .i64 x9_2] 63 (0, 0)) (Goto.bx BK291) k_ hn_))⟩)); have n4_ := Goto.m0 (hb); clear HO_8; clear BK285; clear BK291; clear HB; clear HO_286000; have HO_8 := n0_; have BK285 := n1_; have BK291 := n2_; have HO295 := n3_; have HB := n4_; clear n0_ n1_ n2_ n3_ n4_; (try clear hb); (try clear hkp); (try clear ho0))))
         (try simp only [Act.put, List.setIfInBounds_toArray, List.set_cons_zero, List.set_cons_succ])
         go_cut [8] (fun v8 wc => ∃ (kq : Nat) (x8_14 : List (S63)), Aside0 (tontinelaw19_MailOrder.j2 kq l1 l2 x8_14 x9_2 t293 t289 = some r) ∧ Aside0 (kq ≤ k2) ∧ Aside0 (Kd.Q k63 63 wc w.heap.size (fun k_ => some k_ ≠ (v294 : Value).ownBlock ∧ k_ ≠ gb291) v8 x8_14) ∧ Aside0 (Kd.R k63 63 wc w.heap.size (fun k_ => some k_ ≠ (v8 : Value).ownBlock ∧ k_ ≠ gb291) v294 t293) ∧ Aside0 (wc.heap[gb285]? = some (.cells #[v294, .int .i64 t289] 83 (0, 0))) ∧ Aside0 (wc.heap[gb291]? = some (.cells #[.int .i64 (wrap64 (Int.tmod (rd l1 x9_2) 4)), .int .i64 x9_2] 63 (0, 0))) ∧ Aside0 (Below w.heap.size w wc))
         case first =>
          have H := HC15.out; clear HC15
          by_cases c22 : t292 = true
          ·
           subst c22
           rw [if_pos rfl] at H
           by_cases c23 : x8_2.length < 8796093022208
           ·
            rw [if_pos c23] at H
            have LMc23 := Goto.m0 c23
            clear c23
            obtain ⟨y296, hy296⟩ : ∃ y_ : List (S63), y_ = (x8_2 ++ [(⟨wrap64 (Int.tmod (rd l1 x9_2) 4), x9_2⟩ : S63)]) := ⟨_, rfl⟩
            replace H : (tontinelaw19_MailOrder.j2 k2 l1 l2 y296 x9_2 t293 t289) = some r := by first | (rw [hy296]; with_reducible exact H) | (have H2_ := (Option.bind_some _ _).symm.trans H; rw [hy296]; with_reducible exact H2_) | (have H2_ := (Option.bind_some _ _).symm.trans H; with_reducible exact H2_) | with_reducible exact H | (rw [hy296]; exact H) | exact H
            have Ny296 := Goto.m0 hy296
            clear hy296
            have H' := Goto.m0 H
            clear H; have hnb24 := NB291_285.out; have hnc24 := NB285_291.out
            have hcz25_0 : w21.cell? ⟨gb291, 0, none⟩ = some (.int .i64 (wrap64 (Int.tmod (rd l1 x9_2) 4))) := (blk_cell BK291.out 0).trans rfl
            have hcz25_1 : w21.cell? ⟨gb291, 1, none⟩ = some (.int .i64 x9_2) := (blk_cell BK291.out 1).trans rfl; have hfz25_0 := blk_frozen BK291.out 0; have hfz25_1 := blk_frozen BK291.out 1
            go_wp2_with (first | ((with_reducible refine gate_builtin (b := .append) (xs := #[.tmp 45, .tmp 47]) rfl ?_); (try (refine gate_guard (by rfl) ?_; dsimp only)); at_builtin; refine Kd.Q_append k63 (w0 := w) w.heap.size rfl (.tmp 45) (.tmp 47) 67 63 (.agg #[(.int .i64 0), (.int .i64 0)]) 16 rfl Try.underlying67 info63 rfl (by decide) (by omega) u8 x8_2 (⟨wrap64 (Int.tmod (rd l1 x9_2) 4), x9_2⟩ : S63) [.int .i64 (wrap64 (Int.tmod (rd l1 x9_2) 4)), .int .i64 x9_2] (fun k_ => some k_ ≠ (v294 : Value).ownBlock ∧ k_ ≠ gb291) (fun _ => False) rfl rfl ?aP (fun _ hk => hk.elim) ?aF ?aO ?aB ?aS ?aL ?_; (case aP => exact k63_mkM _ _ _ (⟨wrap64 (Int.tmod (rd l1 x9_2) 4), x9_2⟩ : S63)); (case aB => exact (Goto.hx HB)); (case aF => exact (fun k_ hk => ⟨Kd.fresh' (Kd.R_lt (by (with_reducible repeat (first | apply Kd.R_alloc | apply Kd.R_drewN | apply Kd.R_drew)); exact HO295.out)) k_ hk, Kd.freshB (g := gb291) (o := .cells #[.int .i64 (wrap64 (Int.tmod (rd l1 x9_2) 4)), .int .i64 x9_2] 63 (0, 0)) (Goto.bx BK291) k_ hk⟩)); (case aO => exact (by (with_reducible repeat (first | apply Kd.Q_alloc | apply Kd.Q_drewN | apply Kd.Q_drew)); exact Kd.Q_mono HO_8.out (fun _ hk => ⟨hk.2, hk.1⟩))); (case aS => exact (below_size (Goto.hx HB))); (case aL => have := LMc23.out; omega); intro v297 w26 ho hb hg hat; rw [← Ny296.out] at ho; have n0_ := Goto.m0 (blk_grown (g := gb285) (o := .cells #[v294, .int .i64 t289] 83 (0, 0)) (Goto.bx BK285) hg (Kd.Q_ne HO_8.out BK285.out (by decide))); have n1_ := Goto.m0 (blk_grown (g := gb291) (o := .cells #[.int .i64 (wrap64 (Int.tmod (rd l1 x9_2) 4)), .int .i64 x9_2] 63 (0, 0)) (Goto.bx BK291) hg (Kd.Q_away HO_8.out (fun _ hk => hk.1))); have n2_ := Goto.m0 (Kd.R_after (ok := (fun k_ => k_ ≠ gb291)) (by (with_reducible repeat (first | apply Kd.R_alloc | apply Kd.R_drewN | apply Kd.R_drew)); exact Kd.R_mono HO295.out (fun _ hk => ⟨hk.2, hk.1⟩)) hg hat); have n3_ := Goto.m0 (hb); have n4_ := Goto.m0 (ho); clear BK285; clear BK291; clear HO295; clear HB; clear HO_8; have BK285 := n0_; have BK291 := n1_; have HO295 := n2_; have HB := n3_; have HO298 := n4_; clear n0_ n1_ n2_ n3_ n4_; clear ho hb hg hat))
            repeat (go_quiet (first | ((with_reducible refine gate_builtin (b := .append) (xs := #[.tmp 45, .tmp 47]) rfl ?_); (try (refine gate_guard (by rfl) ?_; dsimp only)); at_builtin; refine Kd.Q_append k63 (w0 := w) w.heap.size rfl (.tmp 45) (.tmp 47) 67 63 (.agg #[(.int .i64 0), (.int .i64 0)]) 16 rfl Try.underlying67 info63 rfl (by decide) (by omega) u8 x8_2 (⟨wrap64 (Int.tmod (rd l1 x9_2) 4), x9_2⟩ : S63) [.int .i64 (wrap64 (Int.tmod (rd l1 x9_2) 4)), .int .i64 x9_2] (fun k_ => some k_ ≠ (v294 : Value).ownBlock ∧ k_ ≠ gb291) (fun _ => False) rfl rfl ?aP (fun _ hk => hk.elim) ?aF ?aO ?aB ?aS ?aL ?_; (case aP => exact k63_mkM _ _ _ (⟨wrap64 (Int.tmod (rd l1 x9_2) 4), x9_2⟩ : S63)); (case aB => exact (Goto.hx HB)); (case aF => exact (fun k_ hk => ⟨Kd.fresh' (Kd.R_lt (by (with_reducible repeat (first | apply Kd.R_alloc | apply Kd.R_drewN | apply Kd.R_drew)); exact HO295.out)) k_ hk, Kd.freshB (g := gb291) (o := .cells #[.int .i64 (wrap64 (Int.tmod (rd l1 x9_2) 4)), .int .i64 x9_2] 63 (0, 0)) (Goto.bx BK291) k_ hk⟩)); (case aO => exact (by (with_reducible repeat (first | apply Kd.Q_alloc | apply Kd.Q_drewN | apply Kd.Q_drew)); exact Kd.Q_mono HO_8.out (fun _ hk => ⟨hk.2, hk.1⟩))); (case aS => exact (below_size (Goto.hx HB))); (case aL => have := LMc23.out; omega); intro v297 w26 ho hb hg hat; rw [← Ny296.out] at ho; have n0_ := Goto.m0 (blk_grown (g := gb285) (o := .cells #[v294, .int .i64 t289] 83 (0, 0)) (Goto.bx BK285) hg (Kd.Q_ne HO_8.out BK285.out (by decide))); have n1_ := Goto.m0 (blk_grown (g := gb291) (o := .cells #[.int .i64 (wrap64 (Int.tmod (rd l1 x9_2) 4)), .int .i64 x9_2] 63 (0, 0)) (Goto.bx BK291) hg (Kd.Q_away HO_8.out (fun _ hk => hk.1))); have n2_ := Goto.m0 (Kd.R_after (ok := (fun k_ => k_ ≠ gb291)) (by (with_reducible repeat (first | apply Kd.R_alloc | apply Kd.R_drewN | apply Kd.R_drew)); exact Kd.R_mono HO295.out (fun _ hk => ⟨hk.2, hk.1⟩)) hg hat); have n3_ := Goto.m0 (hb); have n4_ := Goto.m0 (ho); clear BK285; clear BK291; clear HO295; clear HB; clear HO_8; have BK285 := n0_; have BK291 := n1_; have HO295 := n2_; have HB := n3_; have HO298 := n4_; clear n0_ n1_ n2_ n3_ n4_; clear ho hb hg hat)); try go_wp2_with (first | ((with_reducible refine gate_builtin (b := .append) (xs := #[.tmp 45, .tmp 47]) rfl ?_); (try (refine gate_guard (by rfl) ?_; dsimp only)); at_builtin; refine Kd.Q_append k63 (w0 := w) w.heap.size rfl (.tmp 45) (.tmp 47) 67 63 (.agg #[(.int .i64 0), (.int .i64 0)]) 16 rfl Try.underlying67 info63 rfl (by decide) (by omega) u8 x8_2 (⟨wrap64 (Int.tmod (rd l1 x9_2) 4), x9_2⟩ : S63) [.int .i64 (wrap64 (Int.tmod (rd l1 x9_2) 4)), .int .i64 x9_2] (fun k_ => some k_ ≠ (v294 : Value).ownBlock ∧ k_ ≠ gb291) (fun _ => False) rfl rfl ?aP (fun _ hk => hk.elim) ?aF ?aO ?aB ?aS ?aL ?_; (case aP => exact k63_mkM _ _ _ (⟨wrap64 (Int.tmod (rd l1 x9_2) 4), x9_2⟩ : S63)); (case aB => exact (Goto.hx HB)); (case aF => exact (fun k_ hk => ⟨Kd.fresh' (Kd.R_lt (by (with_reducible repeat (first | apply Kd.R_alloc | apply Kd.R_drewN | apply Kd.R_drew)); exact HO295.out)) k_ hk, Kd.freshB (g := gb291) (o := .cells #[.int .i64 (wrap64 (Int.tmod (rd l1 x9_2) 4)), .int .i64 x9_2] 63 (0, 0)) (Goto.bx BK291) k_ hk⟩)); (case aO => exact (by (with_reducible repeat (first | apply Kd.Q_alloc | apply Kd.Q_drewN | apply Kd.Q_drew)); exact Kd.Q_mono HO_8.out (fun _ hk => ⟨hk.2, hk.1⟩))); (case aS => exact (below_size (Goto.hx HB))); (case aL => have := LMc23.out; omega); intro v297 w26 ho hb hg hat; rw [← Ny296.out] at ho; have n0_ := Goto.m0 (blk_grown (g := gb285) (o := .cells #[v294, .int .i64 t289] 83 (0, 0)) (Goto.bx BK285) hg (Kd.Q_ne HO_8.out BK285.out (by decide))); have n1_ := Goto.m0 (blk_grown (g := gb291) (o := .cells #[.int .i64 (wrap64 (Int.tmod (rd l1 x9_2) 4)), .int .i64 x9_2] 63 (0, 0)) (Goto.bx BK291) hg (Kd.Q_away HO_8.out (fun _ hk => hk.1))); have n2_ := Goto.m0 (Kd.R_after (ok := (fun k_ => k_ ≠ gb291)) (by (with_reducible repeat (first | apply Kd.R_alloc | apply Kd.R_drewN | apply Kd.R_drew)); exact Kd.R_mono HO295.out (fun _ hk => ⟨hk.2, hk.1⟩)) hg hat); have n3_ := Goto.m0 (hb); have n4_ := Goto.m0 (ho); clear BK285; clear BK291; clear HO295; clear HB; clear HO_8; have BK285 := n0_; have BK291 := n1_; have HO295 := n2_; have HB := n3_; have HO298 := n4_; clear n0_ n1_ n2_ n3_ n4_; clear ho hb hg hat)))
            go_meet
            case rel => exact ⟨_, (y296), H', ⟨by have := HJ5.out; have := HK2.out; first | omega | exact Nat.le_refl _⟩, ⟨by (with_reducible repeat (first | apply Kd.Q_alloc | apply Kd.Q_drewN | apply Kd.Q_drew)); exact HO298.out⟩, ⟨by (with_reducible repeat (first | apply Kd.R_alloc | apply Kd.R_drewN | apply Kd.R_drew)); exact Kd.R_mono HO295.out (fun _ hk => ⟨hk.2, hk.1⟩)⟩, ⟨Goto.bx BK285⟩, ⟨Goto.bx BK291⟩, ⟨Goto.hx HB⟩⟩
           ·
            rw [if_neg c23] at H
            exact absurd H (by simp)
          ·
           replace c22 := Bool.eq_false_iff.mpr c22
           subst c22
           rw [if_neg (show ¬ (false = true) by decide)] at H
           have H' := Goto.m0 H
           clear H
           go_wp2
           repeat (go_quiet (fail); try go_wp2)
           go_meet
           case rel => exact ⟨_, (x8_2), H', ⟨by have := HJ5.out; have := HK2.out; first | omega | exact Nat.le_refl _⟩, ⟨by (with_reducible repeat (first | apply Kd.Q_alloc | apply Kd.Q_drewN | apply Kd.Q_drew)); exact Kd.Q_mono HO_8.out (fun _ hk => ⟨hk.2, hk.1⟩)⟩, ⟨by (with_reducible repeat (first | apply Kd.R_alloc | apply Kd.R_drewN | apply Kd.R_drew)); exact HO295.out⟩, ⟨Goto.bx BK285⟩, ⟨Goto.bx BK291⟩, ⟨Goto.hx HB⟩⟩
         case rest =>
          clear HC15; try clear c1; try clear c2; try clear p2; try clear q2; try clear hx2; try clear c5; try clear p6; try clear c8; try clear c8b0; try clear c8b1; try clear c9; try clear c12; try clear c12b0; try clear c13; try clear c13b0; try clear c14; try clear c17; try clear c22; try clear c23; try clear c24; try clear hcz18_0; try clear hcz18_1; try clear hcz20_0; try clear hcz20_1; try clear hcz25_0; try clear hcz25_1; try clear hfz18_0; try clear hfz18_1; try clear hfz20_0; try clear hfz20_1; try clear hfz25_0; try clear hfz25_1; try clear hx290_0; try clear p2; try clear p290; try clear p6; try clear q290
          obtain ⟨kq, x8_14, HA, HJ14, HO_8, HO_286000, BK285, BK291, HB⟩ := hcut
          cases kq with
          | zero => exact absurd HA.out (by simp [tontinelaw19_MailOrder.j2])
          | succ kj14 =>
           have H := HA.out; clear HA
           simp only [tontinelaw19_MailOrder.j2] at H
           have HC27 := Goto.m0 H
           clear H
           go_upto_region 13 with (fail)
           repeat (go_quiet (fail); go_upto_region 13 with (fail))
           go_cut [58] (fun v58 wc => ∃ (kq : Nat) (x58_26 : Bool), v58 = .bool x58_26 ∧ Aside0 (tontinelaw19_MailOrder.j3 kq l1 l2 x8_14 x9_2 x58_26 t293 t289 = some r) ∧ Aside0 (kq ≤ kj14) ∧ Aside0 (Kd.Q k63 63 wc w.heap.size (fun k_ => some k_ ≠ (v294 : Value).ownBlock ∧ k_ ≠ gb291) u8 x8_14) ∧ Aside0 (Kd.R k63 63 wc w.heap.size (fun k_ => some k_ ≠ (u8 : Value).ownBlock ∧ k_ ≠ gb291) v294 t293) ∧ Aside0 (wc.heap[gb285]? = some (.cells #[v294, .int .i64 t289] 83 (0, 0))) ∧ Aside0 (wc.heap[gb291]? = some (.cells #[.int .i64 (wrap64 (Int.tmod (rd l1 x9_2) 4)), .int .i64 x9_2] 63 (0, 0))) ∧ Aside0 (Below w.heap.size w wc))
           case first =>
            have H := HC27.out; clear HC27
            by_cases c28 : x9_2 < (l2.length : Int)
            ·
             rw [if_pos c28] at H
             have c28b0 : decide (x9_2 < (l2.length : Int)) = true := decide_eq_true c28
             clear c28
             (first | rw [c28b0] | (simp only [i64_w, i32_w]; rw [c28b0]) | skip)
             by_cases c29 : 0 ≤ x9_2
             ·
              rw [if_pos c29] at H
              have c29b0 : decide (0 ≤ x9_2) = true := decide_eq_true c29
              clear c29
              have H' := Goto.m0 H
              clear H
              have p299 : 0 ≤ (x9_2 : Int) := of_decide_eq_true (by first | (with_reducible assumption) | assumption)
              have q299 : x9_2 < (l2.length : Int) := of_decide_eq_true (by first | (with_reducible assumption) | assumption)
              obtain ⟨ad299, e299, hx299_0⟩ := Kd.at_bool HR2.out x9_2 p299 q299
              cases e299
              replace hx299_0 := Goto.kc HB.out hx299_0
              replace p299 := eq_true p299; replace q299 := eq_true q299
              go_wp2
              repeat (go_quiet (fail); try go_wp2)
              go_meet
              case rel => exact ⟨_, (rdOf false l2 x9_2), (by first | rfl | (simp; done) | (simp [*]; done)), H', ⟨by have := HJ5.out; have := HK2.out; have := HJ14.out; first | omega | exact Nat.le_refl _⟩, ⟨by (with_reducible repeat (first | apply Kd.Q_alloc | apply Kd.Q_drewN | apply Kd.Q_drew)); exact HO_8.out⟩, ⟨by (with_reducible repeat (first | apply Kd.R_alloc | apply Kd.R_drewN | apply Kd.R_drew)); exact HO_286000.out⟩, ⟨Goto.bx BK285⟩, ⟨Goto.bx BK291⟩, ⟨Goto.hx HB⟩⟩
             ·
              rw [if_neg c29] at H
              exact absurd H (by simp)
            ·
             rw [if_neg c28] at H
             have c28b0 : decide (x9_2 < (l2.length : Int)) = false := decide_eq_false c28
             clear c28
             (first | rw [c28b0] | (simp only [i64_w, i32_w]; rw [c28b0]) | skip)
             have H' := Goto.m0 H
             clear H
             go_wp2
             repeat (go_quiet (fail); try go_wp2)
             go_meet
             case rel => exact ⟨_, (false), (by first | rfl | (simp; done) | (simp [*]; done)), H', ⟨by have := HJ5.out; have := HK2.out; have := HJ14.out; first | omega | exact Nat.le_refl _⟩, ⟨by (with_reducible repeat (first | apply Kd.Q_alloc | apply Kd.Q_drewN | apply Kd.Q_drew)); exact HO_8.out⟩, ⟨by (with_reducible repeat (first | apply Kd.R_alloc | apply Kd.R_drewN | apply Kd.R_drew)); exact HO_286000.out⟩, ⟨Goto.bx BK285⟩, ⟨Goto.bx BK291⟩, ⟨Goto.hx HB⟩⟩
           case rest =>
            clear HC27; try clear c1; try clear c2; try clear p2; try clear q2; try clear hx2; try clear c5; try clear p6; try clear c8; try clear c8b0; try clear c8b1; try clear c9; try clear c12; try clear c12b0; try clear c13; try clear c13b0; try clear c14; try clear c17; try clear c22; try clear c23; try clear c24; try clear c28; try clear c28b0; try clear c29; try clear c29b0; try clear p29; try clear q29; try clear hx29; try clear hcz18_0; try clear hcz18_1; try clear hcz20_0; try clear hcz20_1; try clear hcz25_0; try clear hcz25_1; try clear hfz18_0; try clear hfz18_1; try clear hfz20_0; try clear hfz20_1; try clear hfz25_0; try clear hfz25_1; try clear hx290_0; try clear hx299_0; try clear p2; try clear p290; try clear p299; try clear p6; try clear q2; try clear q290; try clear q299
            obtain ⟨kq, x58_26, rfl, HA, HJ26, HO_8, HO_286000, BK285, BK291, HB⟩ := hcut
            cases kq with
            | zero => exact absurd HA.out (by simp [tontinelaw19_MailOrder.j3])
            | succ kj26 =>
             have H := HA.out; clear HA
             simp only [tontinelaw19_MailOrder.j3] at H
             have HC30 := Goto.m0 H
             clear H
             go_upto_if 58 with (fail)
             repeat (go_quiet (fail); go_upto_if 58 with (fail))
             go_cut [8] (fun v8 wc => ∃ (kq : Nat) (x8_29 : List (S63)) (x286000_29 : List (S63)) (u286000 : Value), Aside0 (tontinelaw19_MailOrder.j5 kq l1 l2 x8_29 x9_2 x286000_29 t289 = some r) ∧ Aside0 (kq ≤ kj26) ∧ Aside0 (Kd.Q k63 63 wc w.heap.size (fun k_ => some k_ ≠ (u286000 : Value).ownBlock ∧ k_ ≠ gb291) v8 x8_29) ∧ Aside0 (Kd.R k63 63 wc w.heap.size (fun k_ => some k_ ≠ (v8 : Value).ownBlock ∧ k_ ≠ gb291) u286000 x286000_29) ∧ Aside0 (wc.heap[gb285]? = some (.cells #[u286000, .int .i64 t289] 83 (0, 0))) ∧ Aside0 (wc.heap[gb291]? = some (.cells #[.int .i64 (wrap64 (Int.tmod (rd l1 x9_2) 4)), .int .i64 x9_2] 63 (0, 0))) ∧ Aside0 (Below w.heap.size w wc))
             case first =>
              have H := HC30.out; clear HC30
              by_cases c31 : x58_26 = true
              ·
               subst c31
               rw [if_pos rfl] at H
               replace H := Option.bind_eq_some_iff.mp H
               obtain ⟨⟨t300, t301, t302, t303⟩, A320, H⟩ := H
               replace H : (if (t302 != (decide ((x8_14.length : Int) > 0))) = true then (tontinelaw19_MailOrder.j4 kj26 l1 l2 x8_14 x9_2 t302 true t303 t289) else (if t302 = true then (if 0 < (x8_14.length : Int) then (tontinelaw19_MailOrder.j4 kj26 l1 l2 x8_14 x9_2 t302 (!(t300 == ((rd_T63 x8_14 0).f0)) || (!(t301 == ((rd_T63 x8_14 0).f1)))) t303 t289) else (none)) else (tontinelaw19_MailOrder.j4 kj26 l1 l2 x8_14 x9_2 t302 false t303 t289))) = some r := H
               have A32 := Goto.m0 A320
               clear A320
               have HC33 := Goto.m0 H
               clear H
               go_upto_region 15 with (first | (go_at_call 42; (with_reducible refine (mail_Box_Take.calls gb285 (fun k_ => some k_ = (v294 : Value).ownBlock) v294 t293 t289 t300 t301 t302 t303 w _ ?side1 ?side2 ?side3 ?side4 A32.out).mono ?_); (case side1 => exact by (with_reducible repeat first | refine blk_drewN ?_ _ | refine blk_drew ?_ | refine blk_alloc ?_ _); exact BK285.out); (case side2 => exact GE285.out); (case side3 => repeat (first | (with_reducible first | exact HB.out | apply below_alloc | apply pw_below_drewN | apply below_drew1 | refine below_set ?_ GE285.out | refine below_set ?_ GE291.out) | exact HB.out)); (case side4 => exact Kd.R_tight rfl HO_286000.out); rintro e w34 ⟨v304, rfl, ho0, hi, hb, hkp⟩; have n0_ := Goto.m0 (Kd.Q_mono (ok' := fun k_ => k_ ≠ gb291 ∧ some k_ ≠ (v304 : Value).ownBlock) (Kd.Q_keptB ((Kd.Q_types HO_8.out BK285.out (by decide))) hkp (fun k_ hk_ hs_ => Or.elim hs_ (fun hs_ => (hk_.1.1) hs_) (fun e_ => (hk_.2) e_))) (fun k_ hk_ => ⟨hk_.1.1.2, fun e_ => Or.elim (ho0.1 k_ e_.symm) (fun hs_ => hk_.2.1 (.inl hs_)) (fun hn_ => Nat.not_le.2 hk_.2.2 hn_)⟩)); have n1_ := Goto.m0 (hi); have n2_ := Goto.m0 (blk_kept (Goto.bx BK291) hkp (fun hs_ => Or.elim hs_ (fun hs_ => (fun e_ => (Kd.R_away HO_286000.out (fun _ hk => hk.2)) e_) hs_) (fun e_ => NB291_285.out e_))); have n3_ := Goto.m0 (Kd.R_mono (ok' := fun k_ => some k_ ≠ (u8 : Value).ownBlock ∧ k_ ≠ gb291) ho0 (fun k_ hk_ => ⟨Or.elim hk_ (fun hs_ => fun e_ => ((((Kd.Q_types HO_8.out BK285.out (by decide))).1 k_ e_.symm).1.1) hs_) (fun hn_ => (Kd.fresh' (Kd.Q_lt (by (with_reducible repeat (first | apply Kd.Q_alloc | apply Kd.Q_drewN | apply Kd.Q_drew)); exact HO_8.out)) k_ hn_)), Or.elim hk_ (fun hs_ => fun e_ => (Kd.R_away HO_286000.out (fun _ hk => hk.2)) (by rw [← e_]; exact hs_)) (fun hn_ => (Kd.freshB (g := gb291) (o := .cells #[.int .i64 (wrap64 (Int.tmod (rd l1 x9_2) 4)), .int .i64 x9_2] 63 (0, 0)) (Goto.bx BK291) k_ hn_))⟩)); have n4_ := Goto.m0 (hb); clear HO_8; clear BK285; clear BK291; clear HB; clear HO_286000; have HO_8 := n0_; have BK285 := n1_; have BK291 := n2_; have HO305 := n3_; have HB := n4_; clear n0_ n1_ n2_ n3_ n4_; (try clear hb); (try clear hkp); (try clear ho0)) | ((with_reducible refine gate_dst (N := 11) rfl ?_); (try (refine gate_guard (by rfl) ?_; dsimp only)); refine box_event ?hg (N := 11) ?hd (cs := #[.int .i64 0, .int .i64 0]) (t := 63) ?hr ?_; (case hd => rfl); (case hg => rfl); (case hr => first | (go_simp; done) | (go_simp; rfl)); intro gb306 hg w35 hbox hb; have BK306 := Goto.m0 (hbox); have GW306 := Goto.gs HB hg; have GE306 := Goto.gs HB hg; have NB285_306 := Goto.nl BK285 hg; have NB306_285 := Goto.nr BK285 hg; have NB291_306 := Goto.nl BK291 hg; have NB306_291 := Goto.nr BK291 hg; replace HO_8 := Goto.m0 (Kd.Q_below (Kd.Q_elderB (by (with_reducible repeat (first | apply Kd.Q_alloc | apply Kd.Q_drewN | apply Kd.Q_drew)); exact HO_8.out) gb306 (Nat.le_of_eq hg.symm)) hb); replace HO305 := Goto.m0 (Kd.R_below (Kd.R_elderB (by (with_reducible repeat (first | apply Kd.R_alloc | apply Kd.R_drewN | apply Kd.R_drew)); exact HO305.out) gb306 (Nat.le_of_eq hg.symm)) hb); replace BK285 := Goto.bb BK285 hb; replace BK291 := Goto.bb BK291 hb; replace HB := Goto.hs HB hb; clear hb hbox hg; have hnb36 := NB306_285.out; have hnc36 := NB285_306.out; have hnb37 := NB306_291.out; have hnc37 := NB291_306.out; have hcz38_0 : w35.cell? ⟨gb306, 0, none⟩ = some (.int .i64 0) := (blk_cell BK306.out 0).trans rfl; have hcz38_1 : w35.cell? ⟨gb306, 1, none⟩ = some (.int .i64 0) := (blk_cell BK306.out 1).trans rfl; have hfz38_0 := blk_frozen BK306.out 0; have hfz38_1 := blk_frozen BK306.out 1) | ((with_reducible refine gate_store (t := 63) (p := 11) rfl ?_); (try (rw [drewN_self w35]; generalize hq_ : World.drewN w35 _ = w35; have n0_ := Goto.m0 (Kd.Q_at hq_ HO_8.out); have n1_ := Goto.m0 (Kd.R_at hq_ HO305.out); have n2_ := Goto.m0 (blk_at hq_ BK285.out); have n3_ := Goto.m0 (blk_at hq_ BK291.out); have n4_ := Goto.m0 (blk_at hq_ BK306.out); have n5_ := Goto.m0 (below_at hq_ HB.out); clear hq_ HO_8 HO305 BK285 BK291 BK306 HB; have HO_8 := n0_; have HO305 := n1_; have BK285 := n2_; have BK291 := n3_; have BK306 := n4_; have HB := n5_; clear n0_ n1_ n2_ n3_ n4_ n5_)); refine store_event (t := 63) (p := 11) (v := ?vo_w39) (w1 := ((w35.setCell ⟨gb306, 0, none⟩ (.int .i64 t300)).setCell ⟨gb306, 1, none⟩ (.int .i64 t301))) ?hg ?ho ?hn ?hr ?_; (case ho => rfl); (case hg => rfl); (case hn => rfl); (case hr => first | (go_simp; done) | (go_simp; rfl)); intro w39 hw; have n0_ : Aside0 (Kd.Q k63 63 w39 w.heap.size (fun k_ => some k_ ≠ (v304 : Value).ownBlock ∧ k_ ≠ gb291 ∧ k_ ≠ gb306) u8 x8_14) := ⟨(by rw [hw]; exact (by (with_reducible repeat (first | apply Kd.Q_alloc | apply Kd.Q_drewN | apply Kd.Q_drew)); exact Kd.Q_mono (Kd.Q_far (p := ⟨gb306, 1, none⟩) (Kd.Q_far (p := ⟨gb306, 0, none⟩) (Kd.Q_mono HO_8.out (fun k_ hk => (⟨hk, hk.2⟩ : _ ∧ k_ ≠ gb306))) (fun _ hk => hk.2) (.int .i64 t300)) (fun _ hk => hk.2) (.int .i64 t301)) (fun _ hk => ⟨hk.1.1.2, ⟨hk.1.1.1, hk.1.2⟩⟩)))⟩; have n1_ : Aside0 (Kd.R k63 63 w39 w.heap.size (fun k_ => some k_ ≠ (u8 : Value).ownBlock ∧ k_ ≠ gb291 ∧ k_ ≠ gb306) v304 t303) := ⟨(by rw [hw]; exact (by (with_reducible repeat (first | apply Kd.R_alloc | apply Kd.R_drewN | apply Kd.R_drew)); exact Kd.R_mono (Kd.R_far (p := ⟨gb306, 1, none⟩) (Kd.R_far (p := ⟨gb306, 0, none⟩) (Goto.nx gb306 HO305.out (fun k_ hk => hk.2)) (fun _ hk => hk.2) (.int .i64 t300)) (fun _ hk => hk.2) (.int .i64 t301)) (fun _ hk => ⟨hk.1.1.1, ⟨hk.1.1.2, hk.1.2⟩⟩)))⟩; have n2_ : Aside0 (w39.heap[gb285]? = some (.cells #[v304, .int .i64 t289] 83 (0, 0))) := ⟨(by rw [hw]; exact (Goto.bx BK285))⟩; have n3_ : Aside0 (w39.heap[gb291]? = some (.cells #[.int .i64 (wrap64 (Int.tmod (rd l1 x9_2) 4)), .int .i64 x9_2] 63 (0, 0))) := ⟨(by rw [hw]; exact (Goto.bx BK291))⟩; have n4_ : Aside0 (w39.heap[gb306]? = some (.cells #[.int .i64 t300, .int .i64 t301] 63 (0, 0))) := ⟨(by rw [hw]; exact (Goto.bx BK306))⟩; have n5_ : Aside0 (Below w.heap.size w w39) := ⟨(by rw [hw]; exact (Goto.hx HB))⟩; clear hw; clear HO_8; clear HO305; clear BK285; clear BK291; clear BK306; clear HB; have HO_8 := n0_; have HO305 := n1_; have BK285 := n2_; have BK291 := n3_; have BK306 := n4_; have HB := n5_; clear n0_ n1_ n2_ n3_ n4_ n5_))
               repeat (go_quiet (first | (go_at_call 42; (with_reducible refine (mail_Box_Take.calls gb285 (fun k_ => some k_ = (v294 : Value).ownBlock) v294 t293 t289 t300 t301 t302 t303 w _ ?side1 ?side2 ?side3 ?side4 A32.out).mono ?_); (case side1 => exact by (with_reducible repeat first | refine blk_drewN ?_ _ | refine blk_drew ?_ | refine blk_alloc ?_ _); exact BK285.out); (case side2 => exact GE285.out); (case side3 => repeat (first | (with_reducible first | exact HB.out | apply below_alloc | apply pw_below_drewN | apply below_drew1 | refine below_set ?_ GE285.out | refine below_set ?_ GE291.out) | exact HB.out)); (case side4 => exact Kd.R_tight rfl HO_286000.out); rintro e w34 ⟨v304, rfl, ho0, hi, hb, hkp⟩; have n0_ := Goto.m0 (Kd.Q_mono (ok' := fun k_ => k_ ≠ gb291 ∧ some k_ ≠ (v304 : Value).ownBlock) (Kd.Q_keptB ((Kd.Q_types HO_8.out BK285.out (by decide))) hkp (fun k_ hk_ hs_ => Or.elim hs_ (fun hs_ => (hk_.1.1) hs_) (fun e_ => (hk_.2) e_))) (fun k_ hk_ => ⟨hk_.1.1.2, fun e_ => Or.elim (ho0.1 k_ e_.symm) (fun hs_ => hk_.2.1 (.inl hs_)) (fun hn_ => Nat.not_le.2 hk_.2.2 hn_)⟩)); have n1_ := Goto.m0 (hi); have n2_ := Goto.m0 (blk_kept (Goto.bx BK291) hkp (fun hs_ => Or.elim hs_ (fun hs_ => (fun e_ => (Kd.R_away HO_286000.out (fun _ hk => hk.2)) e_) hs_) (fun e_ => NB291_285.out e_))); have n3_ := Goto.m0 (Kd.R_mono (ok' := fun k_ => some k_ ≠ (u8 : Value).ownBlock ∧ k_ ≠ gb291) ho0 (fun k_ hk_ => ⟨Or.elim hk_ (fun hs_ => fun e_ => ((((Kd.Q_types HO_8.out BK285.out (by decide))).1 k_ e_.symm).1.1) hs_) (fun hn_ => (Kd.fresh' (Kd.Q_lt (by (with_reducible repeat (first | apply Kd.Q_alloc | apply Kd.Q_drewN | apply Kd.Q_drew)); exact HO_8.out)) k_ hn_)), Or.elim hk_ (fun hs_ => fun e_ => (Kd.R_away HO_286000.out (fun _ hk => hk.2)) (by rw [← e_]; exact hs_)) (fun hn_ => (Kd.freshB (g := gb291) (o := .cells #[.int .i64 (wrap64 (Int.tmod (rd l1 x9_2) 4)), .int .i64 x9_2] 63 (0, 0)) (Goto.bx BK291) k_ hn_))⟩)); have n4_ := Goto.m0 (hb); clear HO_8; clear BK285; clear BK291; clear HB; clear HO_286000; have HO_8 := n0_; have BK285 := n1_; have BK291 := n2_; have HO305 := n3_; have HB := n4_; clear n0_ n1_ n2_ n3_ n4_; (try clear hb); (try clear hkp); (try clear ho0)) | ((with_reducible refine gate_dst (N := 11) rfl ?_); (try (refine gate_guard (by rfl) ?_; dsimp only)); refine box_event ?hg (N := 11) ?hd (cs := #[.int .i64 0, .int .i64 0]) (t := 63) ?hr ?_; (case hd => rfl); (case hg => rfl); (case hr => first | (go_simp; done) | (go_simp; rfl)); intro gb306 hg w35 hbox hb; have BK306 := Goto.m0 (hbox); have GW306 := Goto.gs HB hg; have GE306 := Goto.gs HB hg; have NB285_306 := Goto.nl BK285 hg; have NB306_285 := Goto.nr BK285 hg; have NB291_306 := Goto.nl BK291 hg; have NB306_291 := Goto.nr BK291 hg; replace HO_8 := Goto.m0 (Kd.Q_below (Kd.Q_elderB (by (with_reducible repeat (first | apply Kd.Q_alloc | apply Kd.Q_drewN | apply Kd.Q_drew)); exact HO_8.out) gb306 (Nat.le_of_eq hg.symm)) hb); replace HO305 := Goto.m0 (Kd.R_below (Kd.R_elderB (by (with_reducible repeat (first | apply Kd.R_alloc | apply Kd.R_drewN | apply Kd.R_drew)); exact HO305.out) gb306 (Nat.le_of_eq hg.symm)) hb); replace BK285 := Goto.bb BK285 hb; replace BK291 := Goto.bb BK291 hb; replace HB := Goto.hs HB hb; clear hb hbox hg; have hnb36 := NB306_285.out; have hnc36 := NB285_306.out; have hnb37 := NB306_291.out; have hnc37 := NB291_306.out; have hcz38_0 : w35.cell? ⟨gb306, 0, none⟩ = some (.int .i64 0) := (blk_cell BK306.out 0).trans rfl; have hcz38_1 : w35.cell? ⟨gb306, 1, none⟩ = some (.int .i64 0) := (blk_cell BK306.out 1).trans rfl; have hfz38_0 := blk_frozen BK306.out 0; have hfz38_1 := blk_frozen BK306.out 1) | ((with_reducible refine gate_store (t := 63) (p := 11) rfl ?_); (try (rw [drewN_self w35]; generalize hq_ : World.drewN w35 _ = w35; have n0_ := Goto.m0 (Kd.Q_at hq_ HO_8.out); have n1_ := Goto.m0 (Kd.R_at hq_ HO305.out); have n2_ := Goto.m0 (blk_at hq_ BK285.out); have n3_ := Goto.m0 (blk_at hq_ BK291.out); have n4_ := Goto.m0 (blk_at hq_ BK306.out); have n5_ := Goto.m0 (below_at hq_ HB.out); clear hq_ HO_8 HO305 BK285 BK291 BK306 HB; have HO_8 := n0_; have HO305 := n1_; have BK285 := n2_; have BK291 := n3_; have BK306 := n4_; have HB := n5_; clear n0_ n1_ n2_ n3_ n4_ n5_)); refine store_event (t := 63) (p := 11) (v := ?vo_w39) (w1 := ((w35.setCell ⟨gb306, 0, none⟩ (.int .i64 t300)).setCell ⟨gb306, 1, none⟩ (.int .i64 t301))) ?hg ?ho ?hn ?hr ?_; (case ho => rfl); (case hg => rfl); (case hn => rfl); (case hr => first | (go_simp; done) | (go_simp; rfl)); intro w39 hw; have n0_ : Aside0 (Kd.Q k63 63 w39 w.heap.size (fun k_ => some k_ ≠ (v304 : Value).ownBlock ∧ k_ ≠ gb291 ∧ k_ ≠ gb306) u8 x8_14) := ⟨(by rw [hw]; exact (by (with_reducible repeat (first | apply Kd.Q_alloc | apply Kd.Q_drewN | apply Kd.Q_drew)); exact Kd.Q_mono (Kd.Q_far (p := ⟨gb306, 1, none⟩) (Kd.Q_far (p := ⟨gb306, 0, none⟩) (Kd.Q_mono HO_8.out (fun k_ hk => (⟨hk, hk.2⟩ : _ ∧ k_ ≠ gb306))) (fun _ hk => hk.2) (.int .i64 t300)) (fun _ hk => hk.2) (.int .i64 t301)) (fun _ hk => ⟨hk.1.1.2, ⟨hk.1.1.1, hk.1.2⟩⟩)))⟩; have n1_ : Aside0 (Kd.R k63 63 w39 w.heap.size (fun k_ => some k_ ≠ (u8 : Value).ownBlock ∧ k_ ≠ gb291 ∧ k_ ≠ gb306) v304 t303) := ⟨(by rw [hw]; exact (by (with_reducible repeat (first | apply Kd.R_alloc | apply Kd.R_drewN | apply Kd.R_drew)); exact Kd.R_mono (Kd.R_far (p := ⟨gb306, 1, none⟩) (Kd.R_far (p := ⟨gb306, 0, none⟩) (Goto.nx gb306 HO305.out (fun k_ hk => hk.2)) (fun _ hk => hk.2) (.int .i64 t300)) (fun _ hk => hk.2) (.int .i64 t301)) (fun _ hk => ⟨hk.1.1.1, ⟨hk.1.1.2, hk.1.2⟩⟩)))⟩; have n2_ : Aside0 (w39.heap[gb285]? = some (.cells #[v304, .int .i64 t289] 83 (0, 0))) := ⟨(by rw [hw]; exact (Goto.bx BK285))⟩; have n3_ : Aside0 (w39.heap[gb291]? = some (.cells #[.int .i64 (wrap64 (Int.tmod (rd l1 x9_2) 4)), .int .i64 x9_2] 63 (0, 0))) := ⟨(by rw [hw]; exact (Goto.bx BK291))⟩; have n4_ : Aside0 (w39.heap[gb306]? = some (.cells #[.int .i64 t300, .int .i64 t301] 63 (0, 0))) := ⟨(by rw [hw]; exact (Goto.bx BK306))⟩; have n5_ : Aside0 (Below w.heap.size w w39) := ⟨(by rw [hw]; exact (Goto.hx HB))⟩; clear hw; clear HO_8; clear HO305; clear BK285; clear BK291; clear BK306; clear HB; have HO_8 := n0_; have HO305 := n1_; have BK285 := n2_; have BK291 := n3_; have BK306 := n4_; have HB := n5_; clear n0_ n1_ n2_ n3_ n4_ n5_)); go_upto_region 15 with (first | (go_at_call 42; (with_reducible refine (mail_Box_Take.calls gb285 (fun k_ => some k_ = (v294 : Value).ownBlock) v294 t293 t289 t300 t301 t302 t303 w _ ?side1 ?side2 ?side3 ?side4 A32.out).mono ?_); (case side1 => exact by (with_reducible repeat first | refine blk_drewN ?_ _ | refine blk_drew ?_ | refine blk_alloc ?_ _); exact BK285.out); (case side2 => exact GE285.out); (case side3 => repeat (first | (with_reducible first | exact HB.out | apply below_alloc | apply pw_below_drewN | apply below_drew1 | refine below_set ?_ GE285.out | refine below_set ?_ GE291.out) | exact HB.out)); (case side4 => exact Kd.R_tight rfl HO_286000.out); rintro e w34 ⟨v304, rfl, ho0, hi, hb, hkp⟩; have n0_ := Goto.m0 (Kd.Q_mono (ok' := fun k_ => k_ ≠ gb291 ∧ some k_ ≠ (v304 : Value).ownBlock) (Kd.Q_keptB ((Kd.Q_types HO_8.out BK285.out (by decide))) hkp (fun k_ hk_ hs_ => Or.elim hs_ (fun hs_ => (hk_.1.1) hs_) (fun e_ => (hk_.2) e_))) (fun k_ hk_ => ⟨hk_.1.1.2, fun e_ => Or.elim (ho0.1 k_ e_.symm) (fun hs_ => hk_.2.1 (.inl hs_)) (fun hn_ => Nat.not_le.2 hk_.2.2 hn_)⟩)); have n1_ := Goto.m0 (hi); have n2_ := Goto.m0 (blk_kept (Goto.bx BK291) hkp (fun hs_ => Or.elim hs_ (fun hs_ => (fun e_ => (Kd.R_away HO_286000.out (fun _ hk => hk.2)) e_) hs_) (fun e_ => NB291_285.out e_))); have n3_ := Goto.m0 (Kd.R_mono (ok' := fun k_ => some k_ ≠ (u8 : Value).ownBlock ∧ k_ ≠ gb291) ho0 (fun k_ hk_ => ⟨Or.elim hk_ (fun hs_ => fun e_ => ((((Kd.Q_types HO_8.out BK285.out (by decide))).1 k_ e_.symm).1.1) hs_) (fun hn_ => (Kd.fresh' (Kd.Q_lt (by (with_reducible repeat (first | apply Kd.Q_alloc | apply Kd.Q_drewN | apply Kd.Q_drew)); exact HO_8.out)) k_ hn_)), Or.elim hk_ (fun hs_ => fun e_ => (Kd.R_away HO_286000.out (fun _ hk => hk.2)) (by rw [← e_]; exact hs_)) (fun hn_ => (Kd.freshB (g := gb291) (o := .cells #[.int .i64 (wrap64 (Int.tmod (rd l1 x9_2) 4)), .int .i64 x9_2] 63 (0, 0)) (Goto.bx BK291) k_ hn_))⟩)); have n4_ := Goto.m0 (hb); clear HO_8; clear BK285; clear BK291; clear HB; clear HO_286000; have HO_8 := n0_; have BK285 := n1_; have BK291 := n2_; have HO305 := n3_; have HB := n4_; clear n0_ n1_ n2_ n3_ n4_; (try clear hb); (try clear hkp); (try clear ho0)) | ((with_reducible refine gate_dst (N := 11) rfl ?_); (try (refine gate_guard (by rfl) ?_; dsimp only)); refine box_event ?hg (N := 11) ?hd (cs := #[.int .i64 0, .int .i64 0]) (t := 63) ?hr ?_; (case hd => rfl); (case hg => rfl); (case hr => first | (go_simp; done) | (go_simp; rfl)); intro gb306 hg w35 hbox hb; have BK306 := Goto.m0 (hbox); have GW306 := Goto.gs HB hg; have GE306 := Goto.gs HB hg; have NB285_306 := Goto.nl BK285 hg; have NB306_285 := Goto.nr BK285 hg; have NB291_306 := Goto.nl BK291 hg; have NB306_291 := Goto.nr BK291 hg; replace HO_8 := Goto.m0 (Kd.Q_below (Kd.Q_elderB (by (with_reducible repeat (first | apply Kd.Q_alloc | apply Kd.Q_drewN | apply Kd.Q_drew)); exact HO_8.out) gb306 (Nat.le_of_eq hg.symm)) hb); replace HO305 := Goto.m0 (Kd.R_below (Kd.R_elderB (by (with_reducible repeat (first | apply Kd.R_alloc | apply Kd.R_drewN | apply Kd.R_drew)); exact HO305.out) gb306 (Nat.le_of_eq hg.symm)) hb); replace BK285 := Goto.bb BK285 hb; replace BK291 := Goto.bb BK291 hb; replace HB := Goto.hs HB hb; clear hb hbox hg; have hnb36 := NB306_285.out; have hnc36 := NB285_306.out; have hnb37 := NB306_291.out; have hnc37 := NB291_306.out; have hcz38_0 : w35.cell? ⟨gb306, 0, none⟩ = some (.int .i64 0) := (blk_cell BK306.out 0).trans rfl; have hcz38_1 : w35.cell? ⟨gb306, 1, none⟩ = some (.int .i64 0) := (blk_cell BK306.out 1).trans rfl; have hfz38_0 := blk_frozen BK306.out 0; have hfz38_1 := blk_frozen BK306.out 1) | ((with_reducible refine gate_store (t := 63) (p := 11) rfl ?_); (try (rw [drewN_self w35]; generalize hq_ : World.drewN w35 _ = w35; have n0_ := Goto.m0 (Kd.Q_at hq_ HO_8.out); have n1_ := Goto.m0 (Kd.R_at hq_ HO305.out); have n2_ := Goto.m0 (blk_at hq_ BK285.out); have n3_ := Goto.m0 (blk_at hq_ BK291.out); have n4_ := Goto.m0 (blk_at hq_ BK306.out); have n5_ := Goto.m0 (below_at hq_ HB.out); clear hq_ HO_8 HO305 BK285 BK291 BK306 HB; have HO_8 := n0_; have HO305 := n1_; have BK285 := n2_; have BK291 := n3_; have BK306 := n4_; have HB := n5_; clear n0_ n1_ n2_ n3_ n4_ n5_)); refine store_event (t := 63) (p := 11) (v := ?vo_w39) (w1 := ((w35.setCell ⟨gb306, 0, none⟩ (.int .i64 t300)).setCell ⟨gb306, 1, none⟩ (.int .i64 t301))) ?hg ?ho ?hn ?hr ?_; (case ho => rfl); (case hg => rfl); (case hn => rfl); (case hr => first | (go_simp; done) | (go_simp; rfl)); intro w39 hw; have n0_ : Aside0 (Kd.Q k63 63 w39 w.heap.size (fun k_ => some k_ ≠ (v304 : Value).ownBlock ∧ k_ ≠ gb291 ∧ k_ ≠ gb306) u8 x8_14) := ⟨(by rw [hw]; exact (by (with_reducible repeat (first | apply Kd.Q_alloc | apply Kd.Q_drewN | apply Kd.Q_drew)); exact Kd.Q_mono (Kd.Q_far (p := ⟨gb306, 1, none⟩) (Kd.Q_far (p := ⟨gb306, 0, none⟩) (Kd.Q_mono HO_8.out (fun k_ hk => (⟨hk, hk.2⟩ : _ ∧ k_ ≠ gb306))) (fun _ hk => hk.2) (.int .i64 t300)) (fun _ hk => hk.2) (.int .i64 t301)) (fun _ hk => ⟨hk.1.1.2, ⟨hk.1.1.1, hk.1.2⟩⟩)))⟩; have n1_ : Aside0 (Kd.R k63 63 w39 w.heap.size (fun k_ => some k_ ≠ (u8 : Value).ownBlock ∧ k_ ≠ gb291 ∧ k_ ≠ gb306) v304 t303) := ⟨(by rw [hw]; exact (by (with_reducible repeat (first | apply Kd.R_alloc | apply Kd.R_drewN | apply Kd.R_drew)); exact Kd.R_mono (Kd.R_far (p := ⟨gb306, 1, none⟩) (Kd.R_far (p := ⟨gb306, 0, none⟩) (Goto.nx gb306 HO305.out (fun k_ hk => hk.2)) (fun _ hk => hk.2) (.int .i64 t300)) (fun _ hk => hk.2) (.int .i64 t301)) (fun _ hk => ⟨hk.1.1.1, ⟨hk.1.1.2, hk.1.2⟩⟩)))⟩; have n2_ : Aside0 (w39.heap[gb285]? = some (.cells #[v304, .int .i64 t289] 83 (0, 0))) := ⟨(by rw [hw]; exact (Goto.bx BK285))⟩; have n3_ : Aside0 (w39.heap[gb291]? = some (.cells #[.int .i64 (wrap64 (Int.tmod (rd l1 x9_2) 4)), .int .i64 x9_2] 63 (0, 0))) := ⟨(by rw [hw]; exact (Goto.bx BK291))⟩; have n4_ : Aside0 (w39.heap[gb306]? = some (.cells #[.int .i64 t300, .int .i64 t301] 63 (0, 0))) := ⟨(by rw [hw]; exact (Goto.bx BK306))⟩; have n5_ : Aside0 (Below w.heap.size w w39) := ⟨(by rw [hw]; exact (Goto.hx HB))⟩; clear hw; clear HO_8; clear HO305; clear BK285; clear BK291; clear BK306; clear HB; have HO_8 := n0_; have HO305 := n1_; have BK285 := n2_; have BK291 := n3_; have BK306 := n4_; have HB := n5_; clear n0_ n1_ n2_ n3_ n4_ n5_)))
               (try simp only [Act.put, List.setIfInBounds_toArray, List.set_cons_zero, List.set_cons_succ])
               go_cut [78] (fun v78 wc => ∃ (kq : Nat) (x78_32 : Bool), v78 = .bool x78_32 ∧ Aside0 (tontinelaw19_MailOrder.j4 kq l1 l2 x8_14 x9_2 t302 x78_32 t303 t289 = some r) ∧ Aside0 (kq ≤ kj26) ∧ Aside0 (Kd.Q k63 63 wc w.heap.size (fun k_ => some k_ ≠ (v304 : Value).ownBlock ∧ k_ ≠ gb291 ∧ k_ ≠ gb306) u8 x8_14) ∧ Aside0 (Kd.R k63 63 wc w.heap.size (fun k_ => some k_ ≠ (u8 : Value).ownBlock ∧ k_ ≠ gb291 ∧ k_ ≠ gb306) v304 t303) ∧ Aside0 (wc.heap[gb285]? = some (.cells #[v304, .int .i64 t289] 83 (0, 0))) ∧ Aside0 (wc.heap[gb291]? = some (.cells #[.int .i64 (wrap64 (Int.tmod (rd l1 x9_2) 4)), .int .i64 x9_2] 63 (0, 0))) ∧ Aside0 (wc.heap[gb306]? = some (.cells #[.int .i64 t300, .int .i64 t301] 63 (0, 0))) ∧ Aside0 (Below w.heap.size w wc))
               case first =>
                have H := HC33.out; clear HC33
                by_cases c40 : (t302 != (decide ((x8_14.length : Int) > 0))) = true
                ·
                 rw [if_pos c40] at H
                 have c40b0 : (t302 != (decide ((x8_14.length : Int) > 0))) = true := c40
                 (try (have c40b7 : (t302 != decide (0 < x8_14.length)) = true := by simpa using c40b0))
                 (try (have c40b8 : (t302 == decide (0 < x8_14.length)) = false := by simpa using c40b0))
                 (try (have c40b9 : (t302 != decide (0 < (x8_14.length : Int))) = true := by simpa using c40b0))
                 (try (have c40b1 : decide (t302 = (decide ((x8_14.length : Int) > 0))) = false := by simpa using c40))
                 (try (have c40b2 : (t302 == (decide ((x8_14.length : Int) > 0))) = false := by simpa using c40))
                 (try (have c40b3 : ¬ (t302 = (decide ((x8_14.length : Int) > 0))) := by simpa using c40))
                 clear c40
                 (first | rw [c40b0] | (simp only [i64_w, i32_w]; rw [c40b0]) | skip)
                 have H' := Goto.m0 H
                 clear H
                 obtain ⟨Ao41, co41, eo41, _⟩ := Kd.Q_slice HO_8.out
                 subst eo41
                 go_wp2
                 repeat (go_quiet (fail); try go_wp2)
                 go_meet
                 case rel => exact ⟨_, (true), (by first | rfl | (simp; done) | (simp [*]; done)), H', ⟨by have := HJ5.out; have := HK2.out; have := HJ14.out; have := HJ26.out; first | omega | exact Nat.le_refl _⟩, ⟨by (with_reducible repeat (first | apply Kd.Q_alloc | apply Kd.Q_drewN | apply Kd.Q_drew)); exact HO_8.out⟩, ⟨by (with_reducible repeat (first | apply Kd.R_alloc | apply Kd.R_drewN | apply Kd.R_drew)); exact HO305.out⟩, ⟨Goto.bx BK285⟩, ⟨Goto.bx BK291⟩, ⟨Goto.bx BK306⟩, ⟨Goto.hx HB⟩⟩
                ·
                 rw [if_neg c40] at H
                 have c40b0 : (t302 != (decide ((x8_14.length : Int) > 0))) = false := by simpa using c40
                 (try (have c40b7 : (t302 != decide (0 < x8_14.length)) = false := by simpa using c40b0))
                 (try (have c40b8 : (t302 == decide (0 < x8_14.length)) = true := by simpa using c40b0))
                 (try (have c40b9 : (t302 != decide (0 < (x8_14.length : Int))) = false := by simpa using c40b0))
                 (try (have c40b1 : decide (t302 = (decide ((x8_14.length : Int) > 0))) = true := by simpa using c40))
                 (try (have c40b2 : (t302 == (decide ((x8_14.length : Int) > 0))) = true := by simpa using c40))
                 clear c40
                 (first | rw [c40b0] | (simp only [i64_w, i32_w]; rw [c40b0]) | skip)
                 by_cases c42 : t302 = true
                 ·
                  subst c42
                  rw [if_pos rfl] at H
                  by_cases c43 : 0 < (x8_14.length : Int)
                  ·
                   rw [if_pos c43] at H
                   have c43b0 : decide (0 < (x8_14.length : Int)) = true := decide_eq_true c43
                   have c43b1 : decide (0 < x8_14.length) = true := decide_eq_true (by omega)
                   clear c43
                   have H' := Goto.m0 H
                   clear H
                   obtain ⟨Ao44, co44, eo44, _⟩ := Kd.Q_slice HO_8.out
                   subst eo44
                   have hnb45 := NB306_285.out; have hnc45 := NB285_306.out; have hnb46 := NB306_291.out; have hnc46 := NB291_306.out; have hcz47_0 : w39.cell? ⟨gb306, 0, none⟩ = some (.int .i64 t300) := (blk_cell BK306.out 0).trans rfl; have hcz47_1 : w39.cell? ⟨gb306, 1, none⟩ = some (.int .i64 t301) := (blk_cell BK306.out 1).trans rfl; have hfz47_0 := blk_frozen BK306.out 0; have hfz47_1 := blk_frozen BK306.out 1
                   have p307 : 0 ≤ (0 : Int) := (by omega)
                   have q307 : 0 < (x8_14.length : Int) := of_decide_eq_true (by first | (with_reducible assumption) | assumption)
                   obtain ⟨ad307, e307, hx307_0, hx307_1⟩ := at_T63 (Kd.Q_reads' HO_8.out).2.2 0 p307 q307
                   cases e307
                   have qi307 : (0 < x8_14.length) = True := eq_true (by omega)
                   (try rw [show ((0 : Int)).toNat = 0 from rfl] at hx307_0)
                   (try rw [show 0 * 2 = 0 from rfl] at hx307_0)
                   (try rw [Addr.add_zero'] at hx307_0)
                   (try rw [show ((0 : Int)).toNat = 0 from rfl] at hx307_1)
                   (try rw [show 0 * 2 = 0 from rfl] at hx307_1)
                   (try rw [Addr.add_zero'] at hx307_1)
                   replace p307 := eq_true p307; replace q307 := eq_true q307
                   go_wp2
                   repeat (go_quiet (fail); try go_wp2)
                   go_meet
                   case rel => exact ⟨_, ((!(t300 == ((rd_T63 x8_14 0).f0)) || (!(t301 == ((rd_T63 x8_14 0).f1))))), (by first | rfl | (simp; done) | (simp [*]; done)), H', ⟨by have := HJ5.out; have := HK2.out; have := HJ14.out; have := HJ26.out; first | omega | exact Nat.le_refl _⟩, ⟨by (with_reducible repeat (first | apply Kd.Q_alloc | apply Kd.Q_drewN | apply Kd.Q_drew)); exact HO_8.out⟩, ⟨by (with_reducible repeat (first | apply Kd.R_alloc | apply Kd.R_drewN | apply Kd.R_drew)); exact HO305.out⟩, ⟨Goto.bx BK285⟩, ⟨Goto.bx BK291⟩, ⟨Goto.bx BK306⟩, ⟨Goto.hx HB⟩⟩
                  ·
                   rw [if_neg c43] at H
                   exact absurd H (by simp)
                 ·
                  replace c42 := Bool.eq_false_iff.mpr c42
                  subst c42
                  rw [if_neg (show ¬ (false = true) by decide)] at H
                  have H' := Goto.m0 H
                  clear H
                  obtain ⟨Ao48, co48, eo48, _⟩ := Kd.Q_slice HO_8.out
                  subst eo48
                  go_wp2
                  repeat (go_quiet (fail); try go_wp2)
                  go_meet
                  case rel => exact ⟨_, (false), (by first | rfl | (simp; done) | (simp [*]; done)), H', ⟨by have := HJ5.out; have := HK2.out; have := HJ14.out; have := HJ26.out; first | omega | exact Nat.le_refl _⟩, ⟨by (with_reducible repeat (first | apply Kd.Q_alloc | apply Kd.Q_drewN | apply Kd.Q_drew)); exact HO_8.out⟩, ⟨by (with_reducible repeat (first | apply Kd.R_alloc | apply Kd.R_drewN | apply Kd.R_drew)); exact HO305.out⟩, ⟨Goto.bx BK285⟩, ⟨Goto.bx BK291⟩, ⟨Goto.bx BK306⟩, ⟨Goto.hx HB⟩⟩
               case rest =>
                clear HC33; try clear c1; try clear c2; try clear p2; try clear q2; try clear hx2; try clear c3; try clear p3; try clear q3; try clear hx3; try clear qi3; try clear c4; try clear c5; try clear p6; try clear c8; try clear c8b0; try clear c8b1; try clear c9; try clear c12; try clear c12b0; try clear c13; try clear c13b0; try clear c14; try clear c17; try clear c22; try clear c23; try clear c24; try clear c28; try clear c28b0; try clear c29; try clear c29b0; try clear p29; try clear q29; try clear hx29; try clear p30; try clear q30; try clear hx30; try clear qi30; try clear c31; try clear c36; try clear c37; try clear c40; try clear c40b0; try clear c40b1; try clear c40b2; try clear c42; try clear c43; try clear c43b0; try clear c43b1; try clear c45; try clear c46; try clear hcz18_0; try clear hcz18_1; try clear hcz20_0; try clear hcz20_1; try clear hcz25_0; try clear hcz25_1; try clear hcz38_0; try clear hcz38_1; try clear hcz47_0; try clear hcz47_1; try clear hfz18_0; try clear hfz18_1; try clear hfz20_0; try clear hfz20_1; try clear hfz25_0; try clear hfz25_1; try clear hfz38_0; try clear hfz38_1; try clear hfz47_0; try clear hfz47_1; try clear hx290_0; try clear hx299_0; try clear hx307_0; try clear hx307_1; try clear p2; try clear p29; try clear p290; try clear p299; try clear p307; try clear p6; try clear q2; try clear q29; try clear q290; try clear q299; try clear q307
                obtain ⟨kq, x78_32, rfl, HA, HJ32, HO_8, HO_286000, BK285, BK291, BK306, HB⟩ := hcut
                cases kq with
                | zero => exact absurd HA.out (by simp [tontinelaw19_MailOrder.j4])
                | succ kj32 =>
                 have H := HA.out; clear HA
                 simp only [tontinelaw19_MailOrder.j4] at H
                 by_cases c49 : x78_32 = true
                 ·
                  subst c49
                  rw [if_pos rfl] at H
                  exact absurd ((Option.some.inj H).trans HRT.out) (by decide)
                 ·
                  replace c49 := Bool.eq_false_iff.mpr c49
                  subst c49
                  rw [if_neg (show ¬ (false = true) by decide)] at H
                  by_cases c50 : t302 = true
                  ·
                   subst c50
                   rw [if_pos rfl] at H
                   by_cases c51 : 1 ≤ (x8_14.length : Int)
                   ·
                    rw [if_pos c51] at H
                    have c51b0 := eq_true c51
                    have c51b1 : decide (1 ≤ (x8_14.length : Int)) = true := decide_eq_true c51
                    clear c51
                    obtain ⟨y308, hy308⟩ : ∃ y_ : List (S63), y_ = (x8_14.drop (1 : Int).toNat) := ⟨_, rfl⟩
                    replace H : (tontinelaw19_MailOrder.j5 kj32 l1 l2 y308 x9_2 t303 t289) = some r := by first | (rw [hy308]; with_reducible exact H) | (have H2_ := (Option.bind_some _ _).symm.trans H; rw [hy308]; with_reducible exact H2_) | (have H2_ := (Option.bind_some _ _).symm.trans H; with_reducible exact H2_) | with_reducible exact H | (rw [hy308]; exact H) | exact H
                    have Ny308 := Goto.m0 hy308
                    clear hy308
                    have H' := Goto.m0 H
                    clear H
                    obtain ⟨Ao52, co52, eo52, _⟩ := Kd.Q_slice HO_8.out
                    subst eo52
                    have q53 : (1 : Int) ≤ ((x8_14.length : Int) : Int) := of_decide_eq_true (by first | (with_reducible assumption) | assumption)
                    obtain ⟨i053, hi053, _, hsz53, _⟩ := info_parts info63
                    have hcut53 := cut_from (P := Try.prog) 67 63 .i64 Try.underlying67 hi053 2 hsz53 Ao52 x8_14.length co52 1 (by omega) q53
                    have hr53 := Kd.Q_drop (k := (1 : Int).toNat) HO_8.out (by omega)
                    obtain ⟨A53, hA53⟩ : ∃ A1, A1 = (if co52 = (1 : Int).toNat then Ao52 else (Ao52 : Option Addr).map (·.add ((1 : Int).toNat * 2))) := ⟨_, rfl⟩
                    obtain ⟨c53, hc53⟩ : ∃ c1, c1 = co52 - (1 : Int).toNat := ⟨_, rfl⟩
                    have hy53 : y308.length = x8_14.length - (1 : Int).toNat := (by rw [Ny308.out, List.length_drop])
                    rw [← Ny308.out] at hr53
                    rw [← hy53, ← hA53, ← hc53] at hcut53
                    replace hr53 : Kd.Q k63 63 wc w.heap.size (fun k_ => some k_ ≠ (v304 : Value).ownBlock ∧ k_ ≠ gb291 ∧ k_ ≠ gb306) (.slice A53 y308.length c53) y308 := (by rw [hA53, hc53, hy53]; exact hr53)
                    have HE53 : Aside0 ((Value.slice A53 y308.length c53).ownBlock = (.slice Ao52 x8_14.length co52 : Value).ownBlock) := ⟨by rw [hA53]; split <;> (cases (Ao52 : Option Addr) <;> rfl)⟩
                    clear hy53 hi053 hsz53 HO_8 hA53 hc53
                    have HO310 := Goto.m0 hr53
                    clear hr53; replace q53 := eq_true q53
                    have n_ := Goto.m0 (Kd.R_mono (ok' := fun k_ => (some k_ ≠ (.slice A53 y308.length c53 : Value).ownBlock ∧ (k_ ≠ gb291 ∧ k_ ≠ gb306))) HO_286000.out (fun k_ hk => ⟨(by rw [HE53.out]; exact hk.1), ⟨hk.2.1, hk.2.2⟩⟩))
                    clear HO_286000; have HO_286000 := n_; clear n_
                    go_wp2
                    repeat (go_quiet (fail); try go_wp2)
                    go_meet
                    case rel => exact ⟨_, (y308), (t303), (v304), H', ⟨by have := HJ5.out; have := HK2.out; have := HJ14.out; have := HJ26.out; have := HJ32.out; first | omega | exact Nat.le_refl _⟩, ⟨by (with_reducible repeat (first | apply Kd.Q_alloc | apply Kd.Q_drewN | apply Kd.Q_drew)); exact Kd.Q_mono HO310.out (fun _ hk => ⟨hk.1, hk.2.1⟩)⟩, ⟨by (with_reducible repeat (first | apply Kd.R_alloc | apply Kd.R_drewN | apply Kd.R_drew)); exact Kd.R_mono HO_286000.out (fun _ hk => ⟨hk.1, hk.2.1⟩)⟩, ⟨Goto.bx BK285⟩, ⟨Goto.bx BK291⟩, ⟨Goto.hx HB⟩⟩
                   ·
                    rw [if_neg c51] at H
                    exact absurd H (by simp)
                  ·
                   replace c50 := Bool.eq_false_iff.mpr c50
                   subst c50
                   rw [if_neg (show ¬ (false = true) by decide)] at H
                   have H' := Goto.m0 H
                   clear H
                   go_wp2
                   repeat (go_quiet (fail); try go_wp2)
                   go_meet
                   case rel => exact ⟨_, (x8_14), (t303), (v304), H', ⟨by have := HJ5.out; have := HK2.out; have := HJ14.out; have := HJ26.out; have := HJ32.out; first | omega | exact Nat.le_refl _⟩, ⟨by (with_reducible repeat (first | apply Kd.Q_alloc | apply Kd.Q_drewN | apply Kd.Q_drew)); exact Kd.Q_mono HO_8.out (fun _ hk => ⟨hk.1, hk.2.1⟩)⟩, ⟨by (with_reducible repeat (first | apply Kd.R_alloc | apply Kd.R_drewN | apply Kd.R_drew)); exact Kd.R_mono HO_286000.out (fun _ hk => ⟨hk.1, hk.2.1⟩)⟩, ⟨Goto.bx BK285⟩, ⟨Goto.bx BK291⟩, ⟨Goto.hx HB⟩⟩
              ·
               replace c31 := Bool.eq_false_iff.mpr c31
               subst c31
               rw [if_neg (show ¬ (false = true) by decide)] at H
               have H' := Goto.m0 H
               clear H
               go_wp2
               repeat (go_quiet (fail); try go_wp2)
               go_meet
               case rel => exact ⟨_, (x8_14), (t293), (v294), H', ⟨by have := HJ5.out; have := HK2.out; have := HJ14.out; have := HJ26.out; first | omega | exact Nat.le_refl _⟩, ⟨by (with_reducible repeat (first | apply Kd.Q_alloc | apply Kd.Q_drewN | apply Kd.Q_drew)); exact HO_8.out⟩, ⟨by (with_reducible repeat (first | apply Kd.R_alloc | apply Kd.R_drewN | apply Kd.R_drew)); exact HO_286000.out⟩, ⟨Goto.bx BK285⟩, ⟨Goto.bx BK291⟩, ⟨Goto.hx HB⟩⟩
             case rest =>
              clear HC30; try clear c1; try clear c2; try clear p2; try clear q2; try clear hx2; try clear c3; try clear p3; try clear q3; try clear hx3; try clear qi3; try clear c4; try clear c5; try clear q5; try clear p6; try clear c8; try clear c8b0; try clear c8b1; try clear c9; try clear c12; try clear c12b0; try clear c13; try clear c13b0; try clear c14; try clear c17; try clear c22; try clear c23; try clear c24; try clear c28; try clear c28b0; try clear c29; try clear c29b0; try clear p29; try clear q29; try clear hx29; try clear p30; try clear q30; try clear hx30; try clear qi30; try clear c31; try clear c36; try clear c37; try clear c40; try clear c40b0; try clear c40b1; try clear c40b2; try clear c42; try clear c43; try clear c43b0; try clear c43b1; try clear c45; try clear c46; try clear c49; try clear c50; try clear c51; try clear c51b0; try clear c51b1; try clear c53; try clear q53; try clear hcz18_0; try clear hcz18_1; try clear hcz20_0; try clear hcz20_1; try clear hcz25_0; try clear hcz25_1; try clear hcz38_0; try clear hcz38_1; try clear hcz47_0; try clear hcz47_1; try clear hfz18_0; try clear hfz18_1; try clear hfz20_0; try clear hfz20_1; try clear hfz25_0; try clear hfz25_1; try clear hfz38_0; try clear hfz38_1; try clear hfz47_0; try clear hfz47_1; try clear hx290_0; try clear hx299_0; try clear hx307_0; try clear hx307_1; try clear p2; try clear p29; try clear p290; try clear p299; try clear p3; try clear p30; try clear p307; try clear p6; try clear q2; try clear q29; try clear q290; try clear q299; try clear q3; try clear q30; try clear q307; try clear q53
              obtain ⟨kq, x8_29, x286000_29, u286000, HA, HJ29, HO_8, HO_286000, BK285, BK291, HB⟩ := hcut
              cases kq with
              | zero => exact absurd HA.out (by simp [tontinelaw19_MailOrder.j5])
              | succ kj29 =>
               have H := HA.out; clear HA
               simp only [tontinelaw19_MailOrder.j5] at H
               replace H := Option.bind_eq_some_iff.mp H
               obtain ⟨⟨t311, t312⟩, A540, H⟩ := H
               replace H : (if t311 = (x8_29.length : Int) then (tontinelaw19_MailOrder.l0 kj29 l1 l2 x8_29 (wrap64 (x9_2 + 1)) t312 t289) else (some false)) = some r := H
               have A54 := Goto.m0 A540
               clear A540
               by_cases c55 : t311 = (x8_29.length : Int)
               ·
                rw [if_pos c55] at H
                have c55b0 : (t311 == (x8_29.length : Int)) = true := beq_iff_eq.mpr c55
                have c55b1 : (t311 != (x8_29.length : Int)) = false := bne_eq_false_iff_eq.mpr c55
                clear c55
                have H' := Goto.m0 H
                clear H
                go_wp2_with (first | (go_at_call 44; (with_reducible refine (mail_Box_Len.calls gb285 (fun k_ => some k_ = (u286000 : Value).ownBlock) u286000 x286000_29 t289 t311 t312 w _ ?side1 ?side2 ?side3 ?side4 A54.out).mono ?_); (case side1 => exact by (with_reducible repeat first | refine blk_drewN ?_ _ | refine blk_drew ?_ | refine blk_alloc ?_ _); exact BK285.out); (case side2 => exact GE285.out); (case side3 => repeat (first | (with_reducible first | exact HB.out | apply below_alloc | apply pw_below_drewN | apply below_drew1 | refine below_set ?_ GE285.out | refine below_set ?_ GE291.out) | exact HB.out)); (case side4 => exact Kd.R_tight rfl HO_286000.out); rintro e w56 ⟨v313, rfl, ho0, hi, hb, hkp⟩; have n0_ := Goto.m0 (Kd.Q_mono (ok' := fun k_ => k_ ≠ gb291 ∧ some k_ ≠ (v313 : Value).ownBlock) (Kd.Q_keptB ((Kd.Q_types HO_8.out BK285.out (by decide))) hkp (fun k_ hk_ hs_ => Or.elim hs_ (fun hs_ => (hk_.1.1) hs_) (fun e_ => (hk_.2) e_))) (fun k_ hk_ => ⟨hk_.1.1.2, fun e_ => Or.elim (ho0.1 k_ e_.symm) (fun hs_ => hk_.2.1 (.inl hs_)) (fun hn_ => Nat.not_le.2 hk_.2.2 hn_)⟩)); have n1_ := Goto.m0 (hi); have n2_ := Goto.m0 (blk_kept (Goto.bx BK291) hkp (fun hs_ => Or.elim hs_ (fun hs_ => (fun e_ => (Kd.R_away HO_286000.out (fun _ hk => hk.2)) e_) hs_) (fun e_ => NB291_285.out e_))); have n3_ := Goto.m0 (Kd.R_mono (ok' := fun k_ => some k_ ≠ (u8 : Value).ownBlock ∧ k_ ≠ gb291) ho0 (fun k_ hk_ => ⟨Or.elim hk_ (fun hs_ => fun e_ => ((((Kd.Q_types HO_8.out BK285.out (by decide))).1 k_ e_.symm).1.1) hs_) (fun hn_ => (Kd.fresh' (Kd.Q_lt (by (with_reducible repeat (first | apply Kd.Q_alloc | apply Kd.Q_drewN | apply Kd.Q_drew)); exact HO_8.out)) k_ hn_)), Or.elim hk_ (fun hs_ => fun e_ => (Kd.R_away HO_286000.out (fun _ hk => hk.2)) (by rw [← e_]; exact hs_)) (fun hn_ => (Kd.freshB (g := gb291) (o := .cells #[.int .i64 (wrap64 (Int.tmod (rd l1 x9_2) 4)), .int .i64 x9_2] 63 (0, 0)) (Goto.bx BK291) k_ hn_))⟩)); have n4_ := Goto.m0 (hb); clear HO_8; clear BK285; clear BK291; clear HB; clear HO_286000; have HO_8 := n0_; have BK285 := n1_; have BK291 := n2_; have HO314 := n3_; have HB := n4_; clear n0_ n1_ n2_ n3_ n4_; (try clear hb); (try clear hkp); (try clear ho0); obtain ⟨Ao57, co57, eo57, _⟩ := Kd.Q_slice HO_8.out; subst eo57))
                repeat (go_quiet (first | (go_at_call 44; (with_reducible refine (mail_Box_Len.calls gb285 (fun k_ => some k_ = (u286000 : Value).ownBlock) u286000 x286000_29 t289 t311 t312 w _ ?side1 ?side2 ?side3 ?side4 A54.out).mono ?_); (case side1 => exact by (with_reducible repeat first | refine blk_drewN ?_ _ | refine blk_drew ?_ | refine blk_alloc ?_ _); exact BK285.out); (case side2 => exact GE285.out); (case side3 => repeat (first | (with_reducible first | exact HB.out | apply below_alloc | apply pw_below_drewN | apply below_drew1 | refine below_set ?_ GE285.out | refine below_set ?_ GE291.out) | exact HB.out)); (case side4 => exact Kd.R_tight rfl HO_286000.out); rintro e w56 ⟨v313, rfl, ho0, hi, hb, hkp⟩; have n0_ := Goto.m0 (Kd.Q_mono (ok' := fun k_ => k_ ≠ gb291 ∧ some k_ ≠ (v313 : Value).ownBlock) (Kd.Q_keptB ((Kd.Q_types HO_8.out BK285.out (by decide))) hkp (fun k_ hk_ hs_ => Or.elim hs_ (fun hs_ => (hk_.1.1) hs_) (fun e_ => (hk_.2) e_))) (fun k_ hk_ => ⟨hk_.1.1.2, fun e_ => Or.elim (ho0.1 k_ e_.symm) (fun hs_ => hk_.2.1 (.inl hs_)) (fun hn_ => Nat.not_le.2 hk_.2.2 hn_)⟩)); have n1_ := Goto.m0 (hi); have n2_ := Goto.m0 (blk_kept (Goto.bx BK291) hkp (fun hs_ => Or.elim hs_ (fun hs_ => (fun e_ => (Kd.R_away HO_286000.out (fun _ hk => hk.2)) e_) hs_) (fun e_ => NB291_285.out e_))); have n3_ := Goto.m0 (Kd.R_mono (ok' := fun k_ => some k_ ≠ (u8 : Value).ownBlock ∧ k_ ≠ gb291) ho0 (fun k_ hk_ => ⟨Or.elim hk_ (fun hs_ => fun e_ => ((((Kd.Q_types HO_8.out BK285.out (by decide))).1 k_ e_.symm).1.1) hs_) (fun hn_ => (Kd.fresh' (Kd.Q_lt (by (with_reducible repeat (first | apply Kd.Q_alloc | apply Kd.Q_drewN | apply Kd.Q_drew)); exact HO_8.out)) k_ hn_)), Or.elim hk_ (fun hs_ => fun e_ => (Kd.R_away HO_286000.out (fun _ hk => hk.2)) (by rw [← e_]; exact hs_)) (fun hn_ => (Kd.freshB (g := gb291) (o := .cells #[.int .i64 (wrap64 (Int.tmod (rd l1 x9_2) 4)), .int .i64 x9_2] 63 (0, 0)) (Goto.bx BK291) k_ hn_))⟩)); have n4_ := Goto.m0 (hb); clear HO_8; clear BK285; clear BK291; clear HB; clear HO_286000; have HO_8 := n0_; have BK285 := n1_; have BK291 := n2_; have HO314 := n3_; have HB := n4_; clear n0_ n1_ n2_ n3_ n4_; (try clear hb); (try clear hkp); (try clear ho0); obtain ⟨Ao57, co57, eo57, _⟩ := Kd.Q_slice HO_8.out; subst eo57)); try go_wp2_with (first | (go_at_call 44; (with_reducible refine (mail_Box_Len.calls gb285 (fun k_ => some k_ = (u286000 : Value).ownBlock) u286000 x286000_29 t289 t311 t312 w _ ?side1 ?side2 ?side3 ?side4 A54.out).mono ?_); (case side1 => exact by (with_reducible repeat first | refine blk_drewN ?_ _ | refine blk_drew ?_ | refine blk_alloc ?_ _); exact BK285.out); (case side2 => exact GE285.out); (case side3 => repeat (first | (with_reducible first | exact HB.out | apply below_alloc | apply pw_below_drewN | apply below_drew1 | refine below_set ?_ GE285.out | refine below_set ?_ GE291.out) | exact HB.out)); (case side4 => exact Kd.R_tight rfl HO_286000.out); rintro e w56 ⟨v313, rfl, ho0, hi, hb, hkp⟩; have n0_ := Goto.m0 (Kd.Q_mono (ok' := fun k_ => k_ ≠ gb291 ∧ some k_ ≠ (v313 : Value).ownBlock) (Kd.Q_keptB ((Kd.Q_types HO_8.out BK285.out (by decide))) hkp (fun k_ hk_ hs_ => Or.elim hs_ (fun hs_ => (hk_.1.1) hs_) (fun e_ => (hk_.2) e_))) (fun k_ hk_ => ⟨hk_.1.1.2, fun e_ => Or.elim (ho0.1 k_ e_.symm) (fun hs_ => hk_.2.1 (.inl hs_)) (fun hn_ => Nat.not_le.2 hk_.2.2 hn_)⟩)); have n1_ := Goto.m0 (hi); have n2_ := Goto.m0 (blk_kept (Goto.bx BK291) hkp (fun hs_ => Or.elim hs_ (fun hs_ => (fun e_ => (Kd.R_away HO_286000.out (fun _ hk => hk.2)) e_) hs_) (fun e_ => NB291_285.out e_))); have n3_ := Goto.m0 (Kd.R_mono (ok' := fun k_ => some k_ ≠ (u8 : Value).ownBlock ∧ k_ ≠ gb291) ho0 (fun k_ hk_ => ⟨Or.elim hk_ (fun hs_ => fun e_ => ((((Kd.Q_types HO_8.out BK285.out (by decide))).1 k_ e_.symm).1.1) hs_) (fun hn_ => (Kd.fresh' (Kd.Q_lt (by (with_reducible repeat (first | apply Kd.Q_alloc | apply Kd.Q_drewN | apply Kd.Q_drew)); exact HO_8.out)) k_ hn_)), Or.elim hk_ (fun hs_ => fun e_ => (Kd.R_away HO_286000.out (fun _ hk => hk.2)) (by rw [← e_]; exact hs_)) (fun hn_ => (Kd.freshB (g := gb291) (o := .cells #[.int .i64 (wrap64 (Int.tmod (rd l1 x9_2) 4)), .int .i64 x9_2] 63 (0, 0)) (Goto.bx BK291) k_ hn_))⟩)); have n4_ := Goto.m0 (hb); clear HO_8; clear BK285; clear BK291; clear HB; clear HO_286000; have HO_8 := n0_; have BK285 := n1_; have BK291 := n2_; have HO314 := n3_; have HB := n4_; clear n0_ n1_ n2_ n3_ n4_; (try clear hb); (try clear hkp); (try clear ho0); obtain ⟨Ao57, co57, eo57, _⟩ := Kd.Q_slice HO_8.out; subst eo57)))
                go_roundg kj29
                case measure => have := HJ5.out; have := HK2.out; have := HJ14.out; have := HJ26.out; have := HJ29.out; omega
                case rel => exact ⟨(x8_29), (wrap64 (x9_2 + 1)), (t312), (v313), (by first | rfl | (simp; done) | (simp [*]; done)), H', ⟨by have := HJ5.out; have := HK2.out; have := HJ14.out; have := HJ26.out; have := HJ29.out; omega⟩, ⟨by (with_reducible repeat (first | apply Kd.Q_alloc | apply Kd.Q_drewN | apply Kd.Q_drew)); exact Kd.Q_mono HO_8.out (fun _ hk => hk.2)⟩, ⟨by (with_reducible repeat (first | apply Kd.R_alloc | apply Kd.R_drewN | apply Kd.R_drew)); exact Kd.R_mono HO314.out (fun _ hk => hk.1)⟩, ⟨Goto.bx BK285⟩, ⟨Goto.hx HB⟩⟩
               ·
                rw [if_neg c55] at H
                have c55b0 : (t311 == (x8_29.length : Int)) = false := beq_eq_false_iff_ne.mpr c55
                have c55b1 : (t311 != (x8_29.length : Int)) = true := bne_iff_ne.mpr c55
                exact absurd ((Option.some.inj H).trans HRT.out) (by decide)
        ·
         rw [if_neg c13] at H
         exact absurd H (by simp)
       ·
        rw [if_neg c12] at H
        have c12b0 : decide (x9_2 < (l1.length : Int)) = false := decide_eq_false c12
        clear c12
        obtain rfl := Option.some.inj H
        go_wp2
        repeat (go_quiet (fail); try go_wp2)
        go_ret
        exact ⟨by first | rfl | (simp [errW_none, errW_some] <;> rfl) | (simp [*, errW_none, errW_some] <;> rfl), by repeat (first | (with_reducible first | exact HB.out | apply below_alloc | apply pw_below_drewN | apply below_drew1 | refine below_set ?_ GE285.out) | exact HB.out)⟩
 ·
  replace c5 := Bool.eq_false_iff.mpr c5
  subst c5
  rw [if_neg (show ¬ (false = true) by decide)] at H
  exact absurd ((Option.some.inj H).trans HRT.out) (by decide)

end Go.Proofs.Ytpbcamdjcnokfaa.P
