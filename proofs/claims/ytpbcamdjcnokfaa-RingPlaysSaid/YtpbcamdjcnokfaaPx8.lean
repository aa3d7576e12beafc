/- Printed by a program of this workplace (a turned copy of the kit's optional print), out of the translation; not trusted: Lean checks it. -/
import Derived.Test.YtpbcamdjcnokfaaPx0
import Derived.Test.YtpbcamdjcnokfaaPx1
import Derived.Test.YtpbcamdjcnokfaaPx2
import Derived.Test.YtpbcamdjcnokfaaPx3
import Derived.Test.YtpbcamdjcnokfaaPx4
import Derived.Test.YtpbcamdjcnokfaaPx5
import Derived.Test.YtpbcamdjcnokfaaPx6
import Derived.Test.YtpbcamdjcnokfaaPx7
namespace Go.Proofs.Ytpbcamdjcnokfaa.P
open Go.RowKit Go.Proofs.YtpbcamdjcnokfaaW.PrintWords Go.Proofs.YtpbcamdjcnokfaaW.PrintLast Go.Proofs.YtpbcamdjcnokfaaW.PrintMore
attribute [local go_sem] max2_int min2_int max_two min_two max_three min_three max_four min_four   -- for this text's walks alone
set_option linter.unusedVariables false
set_option linter.unusedSimpArgs false

attribute [local go_sem high] eqA43
/-! ### tontinelaw18_RingPlays: function 8 -/
mutual
def tontinelaw18_RingPlays.j0 : Nat → Int → List (S43) → List Int → Bool → Option (Bool)
  | 0, _, _, _, _ => none
  | k + 1, x0, x1, x2, x24 => if x24 = true then (some true) else ((ring_New.f x0).bind fun bt219 => ((tontineref15_NewRing.f x0).bind fun bt225 => (tontinelaw18_RingPlays.l0 k x1 x2 0 bt219.1 bt219.2.1 bt219.2.2 bt225.1 bt225.2.1 bt225.2.2)))
def tontinelaw18_RingPlays.l0 : Nat → List (S43) → List Int → Int → List (S43) → Int → Int → Int → List (S43) → Int → Option (Bool)
  | 0, _, _, _, _, _, _, _, _, _ => none
  | k + 1, x1, x2, x9, x219000, x219001, x219002, x225000, x225001, x225002 => if x9 < (x1.length : Int) then (if 0 ≤ x9 then ((ring_Ring_Add.f x219000 x219001 x219002 ((rd_T43 x1 x9).f1) ((rd_T43 x1 x9).f2) ((rd_T43 x1 x9).f3)).bind fun bt233 => ((tontineref15_Ring_Add.f x225000 x225001 x225002 ((rd_T43 x1 x9).f1) ((rd_T43 x1 x9).f2) ((rd_T43 x1 x9).f3)).bind fun bt241 => ((ring_Ring_All.f bt233.1 bt233.2.1 bt233.2.2).bind fun bt246 => ((tontineref15_SameRecords.f k bt246.1 bt241.2.1).bind fun t254 => (if t254 = true then ((ring_Ring_Last.f bt246.2.1 bt246.2.2.1 bt246.2.2.2).bind fun bt255 => (if bt255.1 = bt241.2.2 then ((ring_Ring_Lost.f bt255.2.1 bt255.2.2.1 bt255.2.2.2).bind fun bt261 => (tontinelaw18_RingPlays.j2 k x1 x2 x9 (bt261.1 != (wrap64 (bt241.2.2 - (bt241.2.1.length : Int)))) bt261.2.1 bt261.2.2.1 bt261.2.2.2 bt241.1 bt241.2.1 bt241.2.2)) else (tontinelaw18_RingPlays.j2 k x1 x2 x9 true bt255.2.1 bt255.2.2.1 bt255.2.2.2 bt241.1 bt241.2.1 bt241.2.2))) else (tontinelaw18_RingPlays.j2 k x1 x2 x9 true bt246.2.1 bt246.2.2.1 bt246.2.2.2 bt241.1 bt241.2.1 bt241.2.2)))))) else (none)) else (some true)
def tontinelaw18_RingPlays.j2 : Nat → List (S43) → List Int → Int → Bool → List (S43) → Int → Int → Int → List (S43) → Int → Option (Bool)
  | 0, _, _, _, _, _, _, _, _, _, _ => none
  | k + 1, x1, x2, x9, x100, x219000, x219001, x219002, x225000, x225001, x225002 => if x100 = true then (some false) else (tontinelaw18_RingPlays.l1 k x1 x2 x9 0 x219000 x219001 x219002 x225000 x225001 x225002)
def tontinelaw18_RingPlays.l1 : Nat → List (S43) → List Int → Int → Int → List (S43) → Int → Int → Int → List (S43) → Int → Option (Bool)
  | 0, _, _, _, _, _, _, _, _, _, _ => none
  | k + 1, x1, x2, x9, x10, x219000, x219001, x219002, x225000, x225001, x225002 => if x10 < (x2.length : Int) then (if 0 ≤ x10 then ((ring_Ring_From.f k x219000 x219001 x219002 (rd x2 x10)).bind fun bt268 => ((tontineref15_Ring_From.f k x225000 x225001 x225002 (rd x2 x10)).bind fun bt280 => (if (!(bt268.1 == bt280.1) || (!(bt268.2.1 == bt280.2.1) || (!(bt268.2.2.1 == bt280.2.2.1) || (!(bt268.2.2.2.1 == bt280.2.2.2.1))))) = true then (some false) else (if (bt268.2.2.2.2.1 != bt280.2.2.2.2.1) = true then (some false) else (tontinelaw18_RingPlays.l1 k x1 x2 x9 (wrap64 (x10 + 1)) bt268.2.2.2.2.2.1 bt268.2.2.2.2.2.2.1 bt268.2.2.2.2.2.2.2 bt280.2.2.2.2.2.1 bt280.2.2.2.2.2.2.1 bt280.2.2.2.2.2.2.2))))) else (none)) else (tontinelaw18_RingPlays.l0 k x1 x2 (wrap64 (x9 + 1)) x219000 x219001 x219002 x225000 x225001 x225002)
end
def tontinelaw18_RingPlays.f (k : Nat) (a0 : Int) (l1 : List (S43)) (l2 : List Int) : Option (Bool) := (tontinelaw18_known.f k).bind fun t217 => (if t217 = true then (if (l1.length : Int) > 60 then (tontinelaw18_RingPlays.j0 k a0 l1 l2 true) else (tontinelaw18_RingPlays.j0 k a0 l1 l2 (decide ((l2.length : Int) > 20)))) else (some false))
theorem tontinelaw18_RingPlays.mono_l : ∀ k, (∀ y0 y1 y2 y3, LeO (tontinelaw18_RingPlays.j0 k y0 y1 y2 y3) (tontinelaw18_RingPlays.j0 (k + 1) y0 y1 y2 y3)) ∧ (∀ y0 y1 y2 y3 y4 y5 y6 y7 y8, LeO (tontinelaw18_RingPlays.l0 k y0 y1 y2 y3 y4 y5 y6 y7 y8) (tontinelaw18_RingPlays.l0 (k + 1) y0 y1 y2 y3 y4 y5 y6 y7 y8)) ∧ (∀ y0 y1 y2 y3 y4 y5 y6 y7 y8 y9, LeO (tontinelaw18_RingPlays.j2 k y0 y1 y2 y3 y4 y5 y6 y7 y8 y9) (tontinelaw18_RingPlays.j2 (k + 1) y0 y1 y2 y3 y4 y5 y6 y7 y8 y9)) ∧ (∀ y0 y1 y2 y3 y4 y5 y6 y7 y8 y9, LeO (tontinelaw18_RingPlays.l1 k y0 y1 y2 y3 y4 y5 y6 y7 y8 y9) (tontinelaw18_RingPlays.l1 (k + 1) y0 y1 y2 y3 y4 y5 y6 y7 y8 y9))
  | 0 => ⟨fun _ _ _ _ r h => by simp [tontinelaw18_RingPlays.j0] at h, fun _ _ _ _ _ _ _ _ _ r h => by simp [tontinelaw18_RingPlays.l0] at h, fun _ _ _ _ _ _ _ _ _ _ r h => by simp [tontinelaw18_RingPlays.j2] at h, fun _ _ _ _ _ _ _ _ _ _ r h => by simp [tontinelaw18_RingPlays.l1] at h⟩
  | k + 1 => by
    obtain ⟨ih0, ih1, ih2, ih3⟩ := tontinelaw18_RingPlays.mono_l k
    refine ⟨?_, ?_, ?_, ?_⟩
    · intro y0 y1 y2 y3
      unfold tontinelaw18_RingPlays.j0
      repeat' first
      | (with_reducible exact ih0 _ _ _ _)
      | (with_reducible exact ih1 _ _ _ _ _ _ _ _ _)
      | (with_reducible exact ih2 _ _ _ _ _ _ _ _ _ _)
      | (with_reducible exact ih3 _ _ _ _ _ _ _ _ _ _)
      | (with_reducible exact ring_Ring_From.mono _ _ _ _ _)
      | (with_reducible exact tontinelaw18_known.mono _)
      | (with_reducible exact tontineref15_Ring_From.mono _ _ _ _ _)
      | (with_reducible exact tontineref15_SameRecords.mono _ _ _)
      | (with_reducible exact LeO.refl _)
      | (with_reducible exact LeO.none _)
      | (with_reducible refine LeO.ite ?_ ?_)
      | (with_reducible refine LeO.bind ?_ (fun _ => ?_))
      | exact ih0 _ _ _ _
      | exact ih1 _ _ _ _ _ _ _ _ _
      | exact ih2 _ _ _ _ _ _ _ _ _ _
      | exact ih3 _ _ _ _ _ _ _ _ _ _
      | exact ring_Ring_From.mono _ _ _ _ _
      | exact tontinelaw18_known.mono _
      | exact tontineref15_Ring_From.mono _ _ _ _ _
      | exact tontineref15_SameRecords.mono _ _ _
      | exact LeO.none _
      | refine LeO.ite ?_ ?_
      | refine LeO.bind ?_ (fun _ => ?_)
    · intro y0 y1 y2 y3 y4 y5 y6 y7 y8
      unfold tontinelaw18_RingPlays.l0
      repeat' first
      | (with_reducible exact ih0 _ _ _ _)
      | (with_reducible exact ih1 _ _ _ _ _ _ _ _ _)
      | (with_reducible exact ih2 _ _ _ _ _ _ _ _ _ _)
      | (with_reducible exact ih3 _ _ _ _ _ _ _ _ _ _)
      | (with_reducible exact ring_Ring_From.mono _ _ _ _ _)
      | (with_reducible exact tontinelaw18_known.mono _)
      | (with_reducible exact tontineref15_Ring_From.mono _ _ _ _ _)
      | (with_reducible exact tontineref15_SameRecords.mono _ _ _)
      | (with_reducible exact LeO.refl _)
      | (with_reducible exact LeO.none _)
      | (with_reducible refine LeO.ite ?_ ?_)
      | (with_reducible refine LeO.bind ?_ (fun _ => ?_))
      | exact ih0 _ _ _ _
      | exact ih1 _ _ _ _ _ _ _ _ _
      | exact ih2 _ _ _ _ _ _ _ _ _ _
      | exact ih3 _ _ _ _ _ _ _ _ _ _
      | exact ring_Ring_From.mono _ _ _ _ _
      | exact tontinelaw18_known.mono _
      | exact tontineref15_Ring_From.mono _ _ _ _ _
      | exact tontineref15_SameRecords.mono _ _ _
      | exact LeO.none _
      | refine LeO.ite ?_ ?_
      | refine LeO.bind ?_ (fun _ => ?_)
    · intro y0 y1 y2 y3 y4 y5 y6 y7 y8 y9
      unfold tontinelaw18_RingPlays.j2
      repeat' first
      | (with_reducible exact ih0 _ _ _ _)
      | (with_reducible exact ih1 _ _ _ _ _ _ _ _ _)
      | (with_reducible exact ih2 _ _ _ _ _ _ _ _ _ _)
      | (with_reducible exact ih3 _ _ _ _ _ _ _ _ _ _)
      | (with_reducible exact ring_Ring_From.mono _ _ _ _ _)
      | (with_reducible exact tontinelaw18_known.mono _)
      | (with_reducible exact tontineref15_Ring_From.mono _ _ _ _ _)
      | (with_reducible exact tontineref15_SameRecords.mono _ _ _)
      | (with_reducible exact LeO.refl _)
      | (with_reducible exact LeO.none _)
      | (with_reducible refine LeO.ite ?_ ?_)
      | (with_reducible refine LeO.bind ?_ (fun _ => ?_))
      | exact ih0 _ _ _ _
      | exact ih1 _ _ _ _ _ _ _ _ _
      | exact ih2 _ _ _ _ _ _ _ _ _ _
      | exact ih3 _ _ _ _ _ _ _ _ _ _
      | exact ring_Ring_From.mono _ _ _ _ _
      | exact tontinelaw18_known.mono _
      | exact tontineref15_Ring_From.mono _ _ _ _ _
      | exact tontineref15_SameRecords.mono _ _ _
      | exact LeO.none _
      | refine LeO.ite ?_ ?_
      | refine LeO.bind ?_ (fun _ => ?_)
    · intro y0 y1 y2 y3 y4 y5 y6 y7 y8 y9
      unfold tontinelaw18_RingPlays.l1
      repeat' first
      | (with_reducible exact ih0 _ _ _ _)
      | (with_reducible exact ih1 _ _ _ _ _ _ _ _ _)
      | (with_reducible exact ih2 _ _ _ _ _ _ _ _ _ _)
      | (with_reducible exact ih3 _ _ _ _ _ _ _ _ _ _)
      | (with_reducible exact ring_Ring_From.mono _ _ _ _ _)
      | (with_reducible exact tontinelaw18_known.mono _)
      | (with_reducible exact tontineref15_Ring_From.mono _ _ _ _ _)
      | (with_reducible exact tontineref15_SameRecords.mono _ _ _)
      | (with_reducible exact LeO.refl _)
      | (with_reducible exact LeO.none _)
      | (with_reducible refine LeO.ite ?_ ?_)
      | (with_reducible refine LeO.bind ?_ (fun _ => ?_))
      | exact ih0 _ _ _ _
      | exact ih1 _ _ _ _ _ _ _ _ _
      | exact ih2 _ _ _ _ _ _ _ _ _ _
      | exact ih3 _ _ _ _ _ _ _ _ _ _
      | exact ring_Ring_From.mono _ _ _ _ _
      | exact tontinelaw18_known.mono _
      | exact tontineref15_Ring_From.mono _ _ _ _ _
      | exact tontineref15_SameRecords.mono _ _ _
      | exact LeO.none _
      | refine LeO.ite ?_ ?_
      | refine LeO.bind ?_ (fun _ => ?_)
theorem tontinelaw18_RingPlays.mono : ∀ a0 a1 a2 k, LeO (tontinelaw18_RingPlays.f k a0 a1 a2) (tontinelaw18_RingPlays.f (k + 1) a0 a1 a2) := by
 intro a0 a1 a2 k
 obtain ⟨ih0, ih1, ih2, ih3⟩ := tontinelaw18_RingPlays.mono_l k
 unfold tontinelaw18_RingPlays.f
 repeat' first
   | (with_reducible exact ih0 _ _ _ _)
   | (with_reducible exact ih1 _ _ _ _ _ _ _ _ _)
   | (with_reducible exact ih2 _ _ _ _ _ _ _ _ _ _)
   | (with_reducible exact ih3 _ _ _ _ _ _ _ _ _ _)
   | (with_reducible exact ring_Ring_From.mono _ _ _ _ _)
   | (with_reducible exact tontinelaw18_known.mono _)
   | (with_reducible exact tontineref15_Ring_From.mono _ _ _ _ _)
   | (with_reducible exact tontineref15_SameRecords.mono _ _ _)
   | (with_reducible exact LeO.refl _)
   | (with_reducible exact LeO.none _)
   | (with_reducible refine LeO.ite ?_ ?_)
   | (with_reducible refine LeO.bind ?_ (fun _ => ?_))
   | exact ih0 _ _ _ _
   | exact ih1 _ _ _ _ _ _ _ _ _
   | exact ih2 _ _ _ _ _ _ _ _ _ _
   | exact ih3 _ _ _ _ _ _ _ _ _ _
   | exact ring_Ring_From.mono _ _ _ _ _
   | exact tontinelaw18_known.mono _
   | exact tontineref15_Ring_From.mono _ _ _ _ _
   | exact tontineref15_SameRecords.mono _ _ _
   | exact LeO.none _
   | refine LeO.ite ?_ ?_
   | refine LeO.bind ?_ (fun _ => ?_)
def tontinelaw18_RingPlays.T9 : Bool × List (List Nat × List Nat) := (true, [([], []), ([], []), ([], []), ([1, 2], [1, 2]), ([3], [3]), ([4], [4]), ([], []), ([], []), ([6, 7], [6, 7]), ([8], [8]), ([9], [9]), ([], []), ([], []), ([11, 12], [11, 12]), ([13], [13]), ([14], [14]), ([0, 5, 10, 15], [0, 5, 10, 15])])
def tontinelaw18_RingPlays.B9 : List Nat := [0, 0, 0, 6, 14, 30, 0, 0, 192, 448, 960, 0, 0, 6144, 14336, 30720, 65535]
theorem tontinelaw18_RingPlays.tab9 : rtab .any (opsOf Try.f8 9) = tontinelaw18_RingPlays.T9 := by kernel_rfl
theorem tontinelaw18_RingPlays.bits9 : waitsOk tontinelaw18_RingPlays.T9.2 tontinelaw18_RingPlays.B9 = true := by kernel_rfl
def tontinelaw18_RingPlays.T10 : Bool × List (List Nat × List Nat) := (true, [([], []), ([], []), ([], []), ([1, 2], [1, 2]), ([3], [3]), ([4], [4]), ([], []), ([], []), ([6, 7], [6, 7]), ([8], [8]), ([9], [9]), ([], []), ([], []), ([11, 12], [11, 12]), ([13], [13]), ([14], [14]), ([0, 5, 10, 15], [0, 5, 10, 15])])
def tontinelaw18_RingPlays.B10 : List Nat := [0, 0, 0, 6, 14, 30, 0, 0, 192, 448, 960, 0, 0, 6144, 14336, 30720, 65535]
theorem tontinelaw18_RingPlays.tab10 : rtab .any (opsOf Try.f8 10) = tontinelaw18_RingPlays.T10 := by kernel_rfl
theorem tontinelaw18_RingPlays.bits10 : waitsOk tontinelaw18_RingPlays.T10.2 tontinelaw18_RingPlays.B10 = true := by kernel_rfl
def tontinelaw18_RingPlays.T11 : Bool × List (List Nat × List Nat) := (true, [([], []), ([0], [0]), ([], []), ([2], [2]), ([3], [3]), ([4], [4]), ([1, 5, 1], [1, 5]), ([6], [6]), ([7, 6], [7]), ([8], [8]), ([9, 8, 8], [8, 9]), ([8], [8]), ([11, 8], [8, 11]), ([12, 8], [8, 12]), ([13, 8], [8, 13]), ([10, 14, 8], [8, 10, 14]), ([8, 15], [8, 15]), ([16, 10], [16]), ([17], [17]), ([18, 17, 17], [17, 18]), ([17], [17]), ([20, 17], [17, 20]), ([21, 17], [17, 21]), ([22, 17], [17, 22]), ([17], [17]), ([24, 17], [17, 24]), ([25, 17], [17, 25]), ([26, 17], [17, 26]), ([27, 17], [17, 27]), ([23, 28, 17], [17, 23, 28]), ([19, 29, 17], [17, 19, 29]), ([17, 30], [17, 30])])
def tontinelaw18_RingPlays.B11 : List Nat := [0, 1, 0, 4, 12, 28, 63, 127, 255, 511, 1023, 511, 2559, 6655, 14847, 32767, 65535, 131071, 262143, 524287, 262143, 1310719, 3407871, 7602175, 262143, 17039359, 50593791, 117702655, 251920383, 536084479, 1073741823, 2147483647]
theorem tontinelaw18_RingPlays.tab11 : rtab .any (opsOf Try.f8 11) = tontinelaw18_RingPlays.T11 := by kernel_rfl
theorem tontinelaw18_RingPlays.bits11 : waitsOk tontinelaw18_RingPlays.T11.2 tontinelaw18_RingPlays.B11 = true := by kernel_rfl
set_option maxHeartbeats 8000000 in
set_option maxRecDepth 100000 in
theorem tontinelaw18_RingPlays.calls (k : Nat) (a0 : Int) (A1 : Option Addr) (c1 : Nat) (l1 : List (S43)) (A2 : Option Addr) (c2 : Nat) (l2 : List Int) (r : Bool) (hrt : r = true) (w : World) (hr1 : Kd.C k43 w A1 l1.length l1) (hc1 : l1.length ≤ c1) (hr2 : Kd.C (Kd.int .i64) w A2 l2.length l2) (hc2 : l2.length ≤ c2) (h : tontinelaw18_RingPlays.f k a0 l1 l2 = some r) :
    Calls Try.prog 8 #[.int .i64 a0, .slice A1 l1.length c1, .slice A2 l2.length c2] w fun e w' => e = .returned (.bool r) ∧ Below w.heap.size w w' := by
 have hu43 := Try.underlying43
 have HR1 := Goto.m0 hr1
 have HC1 := Goto.m0 hc1
 clear hr1 hc1
 have HR2 := Goto.m0 hr2
 have HC2 := Goto.m0 hc2
 clear hr2 hc2
 have HB := Goto.m0 (Below.refl w.heap.size w)
 have HRT := Goto.m0 hrt
 clear hrt
 have H : ((tontinelaw18_known.f k).bind fun t217 => (if t217 = true then (if (l1.length : Int) > 60 then (tontinelaw18_RingPlays.j0 k a0 l1 l2 true) else (tontinelaw18_RingPlays.j0 k a0 l1 l2 (decide ((l2.length : Int) > 20)))) else (some false))) = some r := h
 clear h
 replace H := Option.bind_eq_some_iff.mp H
 obtain ⟨t217, A40, H⟩ := H
 have A4 := Goto.m0 A40
 clear A40
 by_cases c5 : t217 = true
 ·
  subst c5
  rw [if_pos rfl] at H
  have HC6 := Goto.m0 H
  clear H
  go_enter Try.func8, Try.ntmps8
  go_upto_region 3 with (first | ((with_reducible refine gate_callee (f := 26) rfl ?_); refine goesL_ (some 15) rfl rfl Try.func26 (by kernel_rfl) rfl #[] rfl (by (try simp only [List.map_toArray, List.map_cons, List.map_nil]); first | done | rfl | (simp only [List.length_drop, List.length_take]; rfl)) ?_; (with_reducible refine (tontinelaw18_known.calls k  true (by first | rfl | assumption | (simp only [Bool.not_eq_true, Bool.not_eq_false] at *; assumption)) _ A4.out).mono ?_); rintro e w7 ⟨rfl, hb⟩; refine ⟨_, rfl, ?_⟩; replace HB := Goto.hs HB hb; (try clear hb); (try clear hb2); (try clear hk); (try clear hi)))
  (try simp only [Act.put, List.setIfInBounds_toArray, List.set_cons_zero, List.set_cons_succ])
  go_cut [24] (fun v24 wc => ∃ (kq : Nat) (x24_5 : Bool), v24 = .bool x24_5 ∧ Aside0 (tontinelaw18_RingPlays.j0 kq a0 l1 l2 x24_5 = some r) ∧ Aside0 (kq ≤ k) ∧ Aside0 (Below w.heap.size w wc))
  case first =>
   have H := HC6.out; clear HC6
   by_cases c8 : (l1.length : Int) > 60
   ·
    rw [if_pos c8] at H
    have c8b0 : decide (60 < (l1.length : Int)) = true := decide_eq_true c8
    have c8b1 : decide (60 < l1.length) = true := decide_eq_true (by omega)
    clear c8
    (first | rw [c8b0] | (simp only [i64_w, i32_w]; rw [c8b0]) | skip)
    have H' := Goto.m0 H
    clear H
    go_wp2
    go_meet
    case rel => exact ⟨_, (true), (by first | rfl | (simp; done) | (simp [*]; done)), H', ⟨by first | omega | exact Nat.le_refl _⟩, ⟨Goto.hx HB⟩⟩
   ·
    rw [if_neg c8] at H
    have c8b0 : decide (60 < (l1.length : Int)) = false := decide_eq_false c8
    have c8b1 : decide (60 < l1.length) = false := decide_eq_false (by omega)
    clear c8
    (first | rw [c8b0] | (simp only [i64_w, i32_w]; rw [c8b0]) | skip)
    have H' := Goto.m0 H
    clear H
    go_wp2
    go_meet
    case rel => exact ⟨_, (decide ((l2.length : Int) > 20)), (by first | rfl | (simp; done) | (simp [*]; done)), H', ⟨by first | omega | exact Nat.le_refl _⟩, ⟨Goto.hx HB⟩⟩
  case rest =>
   clear HC6; try clear c1; try clear c2; try clear p2; try clear c5; try clear c8; try clear c8b0; try clear c8b1
   obtain ⟨kq, x24_5, rfl, HA, HJ5, HB⟩ := hcut
   cases kq with
   | zero => exact absurd HA.out (by simp [tontinelaw18_RingPlays.j0])
   | succ kj5 =>
    have H := HA.out; clear HA
    simp only [tontinelaw18_RingPlays.j0] at H
    by_cases c9 : x24_5 = true
    ·
     subst c9
     rw [if_pos rfl] at H
     obtain rfl := Option.some.inj H
     go_wp2
     go_ret
     exact ⟨by first | rfl | (simp [errW_none, errW_some] <;> rfl) | (simp [*, errW_none, errW_some] <;> rfl), by repeat (first | (with_reducible first | exact HB.out | apply below_alloc | apply pw_below_drewN | apply below_drew1) | exact HB.out)⟩
    ·
     replace c9 := Bool.eq_false_iff.mpr c9
     subst c9
     rw [if_neg (show ¬ (false = true) by decide)] at H
     replace H := Option.bind_eq_some_iff.mp H
     obtain ⟨⟨t219, t222, t223⟩, A100, H⟩ := H
     replace H : ((tontineref15_NewRing.f a0).bind fun bt225 => (tontinelaw18_RingPlays.l0 kj5 l1 l2 0 t219 t222 t223 bt225.1 bt225.2.1 bt225.2.2)) = some r := H
     have A10 := Goto.m0 A100
     clear A100
     replace H := Option.bind_eq_some_iff.mp H
     obtain ⟨⟨t225, t226, t229⟩, A110, H⟩ := H
     replace H : (tontinelaw18_RingPlays.l0 kj5 l1 l2 0 t219 t222 t223 t225 t226 t229) = some r := H
     have A11 := Goto.m0 A110
     clear A110
     have H' := Goto.m0 H
     clear H
     go_wp2_with (first | ((with_reducible refine gate_callee (f := 27) rfl ?_); refine goesL_ (some 26) rfl rfl Try.func27 (by kernel_rfl) rfl #[.int .i64 a0] rfl (by (try simp only [List.map_toArray, List.map_cons, List.map_nil]); first | done | rfl | (simp only [List.length_drop, List.length_take]; rfl)) ?_; (with_reducible refine (ring_New.calls a0 t219 t222 t223 _ A10.out).mono ?_); rintro e w12 ⟨v220, gb218, rfl, ho0, hi, hge, hb⟩; refine ⟨_, rfl, ?_⟩; have HO221 := Goto.m0 (Kd.R_lower ho0 (below_size (Goto.hx HB))); have BK218 := Goto.m0 (hi); have GW218 := Goto.m0 ((Nat.le_trans (below_size (Goto.hx HB)) hge : w.heap.size ≤ gb218)); have GE218 := Goto.m0 ((Nat.le_trans (below_size (Goto.hx HB)) hge : w.heap.size ≤ gb218)); replace HB := Goto.hs HB hb; (try clear hb); (try clear hi); (try clear hge); (try clear ho0)) | ((with_reducible refine gate_callee (f := 28) rfl ?_); refine goesL_ (some 28) rfl rfl Try.func28 (by kernel_rfl) rfl #[.int .i64 a0] rfl (by (try simp only [List.map_toArray, List.map_cons, List.map_nil]); first | done | rfl | (simp only [List.length_drop, List.length_take]; rfl)) ?_; (with_reducible refine (tontineref15_NewRing.calls a0 t225 t226 t229 _ A11.out).mono ?_); rintro e w13 ⟨v227, gb224, rfl, ho0, hi, hge, hb⟩; refine ⟨_, rfl, ?_⟩; have HO228 := Goto.m0 (Kd.Q_lower (Kd.Q_new' ho0 (Kd.R_lt (by (with_reducible repeat (first | apply Kd.R_alloc | apply Kd.R_drewN | apply Kd.R_drew)); exact HO221.out))) (below_size (Goto.hx HB))); have BK224 := Goto.m0 (hi); have GW224 := Goto.m0 ((Nat.le_trans (below_size (Goto.hx HB)) hge : w.heap.size ≤ gb224)); have GE224 := Goto.m0 ((Nat.le_trans (below_size (Goto.hx HB)) hge : w.heap.size ≤ gb224)); have NB218_224 := Goto.m0 ((Nat.ne_of_lt (Nat.lt_of_lt_of_le (blk_lt (g := gb218) (o := .cells #[v220, .int .i64 t222, .int .i64 t223] 79 (0, 0)) (Goto.bx BK218)) hge) : gb218 ≠ gb224)); have NB224_218 := Goto.m0 ((Nat.ne_of_gt (Nat.lt_of_lt_of_le (blk_lt (g := gb218) (o := .cells #[v220, .int .i64 t222, .int .i64 t223] 79 (0, 0)) (Goto.bx BK218)) hge) : gb224 ≠ gb218)); replace HO221 := Goto.m0 (Kd.R_elder' (by (with_reducible repeat (first | apply Kd.R_alloc | apply Kd.R_drewN | apply Kd.R_drew)); exact HO221.out) (Kd.Q_base ho0) hb); replace BK218 := Goto.bb BK218 hb; replace HB := Goto.hs HB hb; (try clear hb); (try clear hi); (try clear hge); (try clear ho0)))
     go_loopg [9] kj5 (fun kq v9 w' => ∃ (x9_2 : Int) (x219000_2 : List (S43)) (x219001_2 : Int) (x219002_2 : Int) (x225000_2 : Int) (x225001_2 : List (S43)) (x225002_2 : Int) (u219000 : Value) (u225001 : Value), v9 = .int .i64 x9_2 ∧ Aside0 (tontinelaw18_RingPlays.l0 kq l1 l2 x9_2 x219000_2 x219001_2 x219002_2 x225000_2 x225001_2 x225002_2 = some r) ∧ Aside0 (kq ≤ kj5) ∧ Aside0 (Kd.R k43 43 w' w.heap.size (fun k_ => some k_ ≠ (u225001 : Value).ownBlock) u219000 x219000_2) ∧ Aside0 (Kd.Q k43 43 w' w.heap.size (fun k_ => some k_ ≠ (u219000 : Value).ownBlock) u225001 x225001_2) ∧ Aside0 (w'.heap[gb218]? = some (.cells #[u219000, .int .i64 x219001_2, .int .i64 x219002_2] 79 (0, 0))) ∧ Aside0 (w'.heap[gb224]? = some (.cells #[.int .i64 x225000_2, u225001, .int .i64 x225002_2] 47 (0, 0))) ∧ Aside0 (Below w.heap.size w w'))
     case atStart => exact ⟨(0), (t219), (t222), (t223), (t225), (t226), (t229), (v220), (v227), (by first | rfl | (simp; done) | (simp [*]; done)), H', ⟨Nat.le_refl _⟩, ⟨by (with_reducible repeat (first | apply Kd.R_alloc | apply Kd.R_drewN | apply Kd.R_drew)); exact Kd.R_mono HO221.out (fun _ hk => hk.2)⟩, ⟨by (with_reducible repeat (first | apply Kd.Q_alloc | apply Kd.Q_drewN | apply Kd.Q_drew)); exact Kd.Q_mono HO228.out (fun _ hk => hk.2)⟩, ⟨Goto.bx BK218⟩, ⟨Goto.bx BK224⟩, ⟨Goto.hx HB⟩⟩
     case round =>
      clear H'
      try clear c1; try clear c2; try clear p2; try clear c5; try clear c8; try clear c8b0; try clear c8b1; try clear c9; try clear p2
      obtain ⟨x9_2, x219000_2, x219001_2, x219002_2, x225000_2, x225001_2, x225002_2, u219000, u225001, rfl, HA, HK2, HO_219000, HO_225001, BK218, BK224, HB⟩ := hrel
      cases gk with
      | zero => exact absurd HA.out (by simp [tontinelaw18_RingPlays.l0])
      | succ k2 =>
       have H := HA.out; clear HA
       simp only [tontinelaw18_RingPlays.l0] at H
       by_cases c14 : x9_2 < (l1.length : Int)
       ·
        rw [if_pos c14] at H
        have c14b0 : decide (x9_2 < (l1.length : Int)) = true := decide_eq_true c14
        clear c14
        by_cases c15 : 0 ≤ x9_2
        ·
         rw [if_pos c15] at H
         have c15b0 : decide (0 ≤ x9_2) = true := decide_eq_true c15
         clear c15
         replace H := Option.bind_eq_some_iff.mp H
         obtain ⟨⟨t233, t236, t237⟩, A160, H⟩ := H
         replace H : ((tontineref15_Ring_Add.f x225000_2 x225001_2 x225002_2 ((rd_T43 l1 x9_2).f1) ((rd_T43 l1 x9_2).f2) ((rd_T43 l1 x9_2).f3)).bind fun bt241 => ((ring_Ring_All.f t233 t236 t237).bind fun bt246 => ((tontineref15_SameRecords.f k2 bt246.1 bt241.2.1).bind fun t254 => (if t254 = true then ((ring_Ring_Last.f bt246.2.1 bt246.2.2.1 bt246.2.2.2).bind fun bt255 => (if bt255.1 = bt241.2.2 then ((ring_Ring_Lost.f bt255.2.1 bt255.2.2.1 bt255.2.2.2).bind fun bt261 => (tontinelaw18_RingPlays.j2 k2 l1 l2 x9_2 (bt261.1 != (wrap64 (bt241.2.2 - (bt241.2.1.length : Int)))) bt261.2.1 bt261.2.2.1 bt261.2.2.2 bt241.1 bt241.2.1 bt241.2.2)) else (tontinelaw18_RingPlays.j2 k2 l1 l2 x9_2 true bt255.2.1 bt255.2.2.1 bt255.2.2.2 bt241.1 bt241.2.1 bt241.2.2))) else (tontinelaw18_RingPlays.j2 k2 l1 l2 x9_2 true bt246.2.1 bt246.2.2.1 bt246.2.2.2 bt241.1 bt241.2.1 bt241.2.2))))) = some r := H
         have A16 := Goto.m0 A160
         clear A160
         replace H := Option.bind_eq_some_iff.mp H
         obtain ⟨⟨t241, t242, t245⟩, A170, H⟩ := H
         replace H : ((ring_Ring_All.f t233 t236 t237).bind fun bt246 => ((tontineref15_SameRecords.f k2 bt246.1 t242).bind fun t254 => (if t254 = true then ((ring_Ring_Last.f bt246.2.1 bt246.2.2.1 bt246.2.2.2).bind fun bt255 => (if bt255.1 = t245 then ((ring_Ring_Lost.f bt255.2.1 bt255.2.2.1 bt255.2.2.2).bind fun bt261 => (tontinelaw18_RingPlays.j2 k2 l1 l2 x9_2 (bt261.1 != (wrap64 (t245 - (t242.length : Int)))) bt261.2.1 bt261.2.2.1 bt261.2.2.2 t241 t242 t245)) else (tontinelaw18_RingPlays.j2 k2 l1 l2 x9_2 true bt255.2.1 bt255.2.2.1 bt255.2.2.2 t241 t242 t245))) else (tontinelaw18_RingPlays.j2 k2 l1 l2 x9_2 true bt246.2.1 bt246.2.2.1 bt246.2.2.2 t241 t242 t245)))) = some r := H
         have A17 := Goto.m0 A170
         clear A170
         have HC18 := Goto.m0 H
         clear H
         try go_wp2
         replace HO_219000 := Goto.m0 (Kd.R_drew HO_219000.out); replace HO_225001 := Goto.m0 (Kd.Q_drew HO_225001.out); replace BK218 := Goto.m0 (blk_drew BK218.out); replace BK224 := Goto.m0 (blk_drew BK224.out); replace HB := Goto.m0 (below_drew1 HB.out)
         have p230 : 0 ≤ (x9_2 : Int) := of_decide_eq_true (by first | (with_reducible assumption) | assumption)
         have q230 : x9_2 < (l1.length : Int) := of_decide_eq_true (by first | (with_reducible assumption) | assumption)
         obtain ⟨ad230, e230, hx230_0, hx230_1, hx230_2, hx230_3⟩ := at_T43 HR1.out x9_2 p230 q230
         have hw230_3 := hx230_3; have hw230_2 := hx230_2; have hw230_1 := hx230_1; have hw230_0 := hx230_0
         cases e230
         replace hx230_0 := Goto.kc HB.out hx230_0
         replace hx230_1 := Goto.kc HB.out hx230_1
         replace hx230_2 := Goto.kc HB.out hx230_2
         replace hx230_3 := Goto.kc HB.out hx230_3
         replace p230 := eq_true p230; replace q230 := eq_true q230
         have p231 : 0 ≤ (x9_2 : Int) := of_decide_eq_true (by first | (with_reducible assumption) | assumption)
         have q231 : x9_2 < (l1.length : Int) := of_decide_eq_true (by first | (with_reducible assumption) | assumption)
         obtain ⟨ad231, e231, hx231_0, hx231_1, hx231_2, hx231_3⟩ := at_T43 HR1.out x9_2 p231 q231
         have hw231_3 := hx231_3; have hw231_2 := hx231_2; have hw231_1 := hx231_1; have hw231_0 := hx231_0
         obtain rfl : ad230 = ad231 := (by injection e231)
         replace hx231_0 := Goto.kc HB.out hx231_0
         replace hx231_1 := Goto.kc HB.out hx231_1
         replace hx231_2 := Goto.kc HB.out hx231_2
         replace hx231_3 := Goto.kc HB.out hx231_3
         replace p231 := eq_true p231; replace q231 := eq_true q231
         have p232 : 0 ≤ (x9_2 : Int) := of_decide_eq_true (by first | (with_reducible assumption) | assumption)
         have q232 : x9_2 < (l1.length : Int) := of_decide_eq_true (by first | (with_reducible assumption) | assumption)
         obtain ⟨ad232, e232, hx232_0, hx232_1, hx232_2, hx232_3⟩ := at_T43 HR1.out x9_2 p232 q232
         have hw232_3 := hx232_3; have hw232_2 := hx232_2; have hw232_1 := hx232_1; have hw232_0 := hx232_0
         obtain rfl : ad230 = ad232 := (by injection e232)
         replace hx232_0 := Goto.kc HB.out hx232_0
         replace hx232_1 := Goto.kc HB.out hx232_1
         replace hx232_2 := Goto.kc HB.out hx232_2
         replace hx232_3 := Goto.kc HB.out hx232_3
         replace p232 := eq_true p232; replace q232 := eq_true q232
         refine start_ (n := 17) (S := fun w' => w'.cell? (ad230.add ((x9_2).toNat * 4)) = some (.int .i64 ((rd_T43 l1 x9_2).f0)) ∧ w'.cell? ⟨(ad230.add ((x9_2).toNat * 4)).block, (ad230.add ((x9_2).toNat * 4)).off + 1, none⟩ = some (.int .i64 ((rd_T43 l1 x9_2).f1)) ∧ w'.cell? ⟨(ad230.add ((x9_2).toNat * 4)).block, (ad230.add ((x9_2).toNat * 4)).off + 2, none⟩ = some (.int .i64 ((rd_T43 l1 x9_2).f2)) ∧ w'.cell? ⟨(ad230.add ((x9_2).toNat * 4)).block, (ad230.add ((x9_2).toNat * 4)).off + 3, none⟩ = some (.int .i64 ((rd_T43 l1 x9_2).f3)) ∧ w'.cell? (ad230.add ((x9_2).toNat * 4)) = some (.int .i64 ((rd_T43 l1 x9_2).f0)) ∧ w'.cell? ⟨(ad230.add ((x9_2).toNat * 4)).block, (ad230.add ((x9_2).toNat * 4)).off + 1, none⟩ = some (.int .i64 ((rd_T43 l1 x9_2).f1)) ∧ w'.cell? ⟨(ad230.add ((x9_2).toNat * 4)).block, (ad230.add ((x9_2).toNat * 4)).off + 2, none⟩ = some (.int .i64 ((rd_T43 l1 x9_2).f2)) ∧ w'.cell? ⟨(ad230.add ((x9_2).toNat * 4)).block, (ad230.add ((x9_2).toNat * 4)).off + 3, none⟩ = some (.int .i64 ((rd_T43 l1 x9_2).f3)) ∧ w'.cell? (ad230.add ((x9_2).toNat * 4)) = some (.int .i64 ((rd_T43 l1 x9_2).f0)) ∧ w'.cell? ⟨(ad230.add ((x9_2).toNat * 4)).block, (ad230.add ((x9_2).toNat * 4)).off + 1, none⟩ = some (.int .i64 ((rd_T43 l1 x9_2).f1)) ∧ w'.cell? ⟨(ad230.add ((x9_2).toNat * 4)).block, (ad230.add ((x9_2).toNat * 4)).off + 2, none⟩ = some (.int .i64 ((rd_T43 l1 x9_2).f2)) ∧ w'.cell? ⟨(ad230.add ((x9_2).toNat * 4)).block, (ad230.add ((x9_2).toNat * 4)).off + 3, none⟩ = some (.int .i64 ((rd_T43 l1 x9_2).f3))) (ds := []) (.replicate 17 false) (by kernel_rfl) rfl rfl ⟨(Goto.kc HB.out hw230_0), (Goto.kc HB.out hw230_1), (Goto.kc HB.out hw230_2), (Goto.kc HB.out hw230_3), (Goto.kc HB.out hw231_0), (Goto.kc HB.out hw231_1), (Goto.kc HB.out hw231_2), (Goto.kc HB.out hw231_3), (Goto.kc HB.out hw232_0), (Goto.kc HB.out hw232_1), (Goto.kc HB.out hw232_2), (Goto.kc HB.out hw232_3)⟩ (fun hHeld => ?_); refine with_tabW tontinelaw18_RingPlays.tab9 tontinelaw18_RingPlays.bits9 (fun HT_ HW_ => ?_)
         generalize wr.drew = w19 at HO_219000 HO_225001 BK218 BK224 HB hx230_0 hx230_1 hx230_2 hx230_3 hx231_0 hx231_1 hx231_2 hx231_3 hx232_0 hx232_1 hx232_2 hx232_3 hHeld ⊢
         refine pure_ (i := 0) (N := some 35) (v := ?_) (a' := ?_) (Goto.bs 17 1) rfl rfl (any_of HT_.out (by kernel_rfl)) (fun _ _ _ h => h) (Or.inl ⟨by rfl, ?_⟩) ?_ ?_
         rotate_left
         ·
          intro w'
          go_simp
          with_reducible rfl
         rotate_left
         ·
          exact Goto.ap
         refine pure_ (i := 1) (N := some 36) (v := ?_) (a' := ?_) (Goto.bs 17 3) rfl rfl (any_of HT_.out (by kernel_rfl)) (fun _ _ _ h => h) (Or.inl ⟨by rfl, ?_⟩) ?_ ?_
         rotate_left
         ·
          intro w'
          go_simp
          with_reducible rfl
         rotate_left
         ·
          exact Goto.ap
         refine pure_ (i := 2) (N := some 37) (v := ?_) (a' := ?_) (Goto.bs 17 7) rfl rfl (any_of HT_.out (by kernel_rfl)) (fun _ _ _ h => h) (Or.inl ⟨by rfl, ?_⟩) ?_ ?_
         rotate_left
         ·
          intro w'
          go_simp
          with_reducible rfl
         rotate_left
         ·
          exact Goto.ap
         refine pure_ (i := 3) (N := some 38) (v := ?_) (a' := ?_) (Goto.bs 17 15) rfl rfl (any_of HT_.out (by kernel_rfl)) (fun _ _ _ h => h) (Or.inl ⟨by rfl, ?_⟩) ?_ ?_
         rotate_left
         ·
          intro w'
          go_simp
          with_reducible rfl
         rotate_left
         ·
          exact Goto.ap
         refine pure_ (i := 4) (N := some 39) (v := ?_) (a' := ?_) (Goto.bs 17 31) rfl rfl (any_of HT_.out (by kernel_rfl)) (fun _ _ _ h => h) (Or.inl ⟨by rfl, ?_⟩) ?_ ?_
         rotate_left
         ·
          intro w'
          go_simp
          with_reducible rfl
         rotate_left
         ·
          exact Goto.ap
         refine pure_ (i := 6) (N := some 41) (v := ?_) (a' := ?_) (Goto.bs 17 95) rfl rfl (any_of HT_.out (by kernel_rfl)) (fun _ _ _ h => h) (Or.inl ⟨by rfl, ?_⟩) ?_ ?_
         rotate_left
         ·
          intro w'
          go_simp
          with_reducible rfl
         rotate_left
         ·
          exact Goto.ap
         refine pure_ (i := 7) (N := some 42) (v := ?_) (a' := ?_) (Goto.bs 17 223) rfl rfl (any_of HT_.out (by kernel_rfl)) (fun _ _ _ h => h) (Or.inl ⟨by rfl, ?_⟩) ?_ ?_
         rotate_left
         ·
          intro w'
          go_simp
          with_reducible rfl
         rotate_left
         ·
          exact Goto.ap
         refine pure_ (i := 8) (N := some 43) (v := ?_) (a' := ?_) (Goto.bs 17 479) rfl rfl (any_of HT_.out (by kernel_rfl)) (fun _ _ _ h => h) (Or.inl ⟨by rfl, ?_⟩) ?_ ?_
         rotate_left
         ·
          intro w'
          go_simp
          with_reducible rfl
         rotate_left
         ·
          exact Goto.ap
         refine pure_ (i := 9) (N := some 44) (v := ?_) (a' := ?_) (Goto.bs 17 991) rfl rfl (any_of HT_.out (by kernel_rfl)) (fun _ _ _ h => h) (Or.inl ⟨by rfl, ?_⟩) ?_ ?_
         rotate_left
         ·
          intro w'
          go_simp
          with_reducible rfl
         rotate_left
         ·
          exact Goto.ap
         refine pure_ (i := 11) (N := some 46) (v := ?_) (a' := ?_) (Goto.bs 17 3039) rfl rfl (any_of HT_.out (by kernel_rfl)) (fun _ _ _ h => h) (Or.inl ⟨by rfl, ?_⟩) ?_ ?_
         rotate_left
         ·
          intro w'
          go_simp
          with_reducible rfl
         rotate_left
         ·
          exact Goto.ap
         refine pure_ (i := 12) (N := some 47) (v := ?_) (a' := ?_) (Goto.bs 17 7135) rfl rfl (any_of HT_.out (by kernel_rfl)) (fun _ _ _ h => h) (Or.inl ⟨by rfl, ?_⟩) ?_ ?_
         rotate_left
         ·
          intro w'
          go_simp
          with_reducible rfl
         rotate_left
         ·
          exact Goto.ap
         refine pure_ (i := 13) (N := some 48) (v := ?_) (a' := ?_) (Goto.bs 17 15327) rfl rfl (any_of HT_.out (by kernel_rfl)) (fun _ _ _ h => h) (Or.inl ⟨by rfl, ?_⟩) ?_ ?_
         rotate_left
         ·
          intro w'
          go_simp
          with_reducible rfl
         rotate_left
         ·
          exact Goto.ap
         refine pure_ (i := 14) (N := some 49) (v := ?_) (a' := ?_) (Goto.bs 17 31711) rfl rfl (any_of HT_.out (by kernel_rfl)) (fun _ _ _ h => h) (Or.inl ⟨by rfl, ?_⟩) ?_ ?_
         rotate_left
         ·
          intro w'
          go_simp
          with_reducible rfl
         rotate_left
         ·
          exact Goto.ap
         refine take_ (i := 5) (N := some 40) (v := ?_) (a' := ?_) (Goto.bs 17 31743) rfl rfl (take_ofW HT_.out HW_.out (by kernel_rfl)) (fun _ _ _ h => h) (Or.inl ⟨by rfl, ?_⟩) hHeld ?_ ?_
         rotate_left
         ·
          rintro w' ⟨s0, s1, s2, s3, s4, s5, s6, s7, s8, s9, s10, s11⟩
          go_simp
          with_reducible rfl
         rotate_left
         ·
          exact Goto.ap
         refine take_ (i := 10) (N := some 45) (v := ?_) (a' := ?_) (Goto.bs 17 32767) rfl rfl (take_ofW HT_.out HW_.out (by kernel_rfl)) (fun _ _ _ h => h) (Or.inl ⟨by rfl, ?_⟩) hHeld ?_ ?_
         rotate_left
         ·
          rintro w' ⟨s0, s1, s2, s3, s4, s5, s6, s7, s8, s9, s10, s11⟩
          go_simp
          with_reducible rfl
         rotate_left
         ·
          exact Goto.ap
         refine take_ (i := 15) (N := some 50) (v := ?_) (a' := ?_) (Goto.bs 17 65535) rfl rfl (take_ofW HT_.out HW_.out (by kernel_rfl)) (fun _ _ _ h => h) (Or.inl ⟨by rfl, ?_⟩) hHeld ?_ ?_
         rotate_left
         ·
          rintro w' ⟨s0, s1, s2, s3, s4, s5, s6, s7, s8, s9, s10, s11⟩
          go_simp
          with_reducible rfl
         rotate_left
         ·
          exact Goto.ap
         refine one_ (i := 16) (N := some 51) (Goto.bs 17 131071) rfl rfl (one_of HT_.out (by kernel_rfl)) (by decide) (fun K hK => ?_)
         refine goes_ Try.func29 (by kernel_rfl) rfl #[.pointer (some ⟨gb218, 0, none⟩), .int .i64 ((rd_T43 l1 x9_2).f1), .int .i64 ((rd_T43 l1 x9_2).f2), .int .i64 ((rd_T43 l1 x9_2).f3)] (by rfl) rfl rfl (by (try simp only [List.map_toArray, List.map_cons, List.map_nil]); first | done | rfl | (simp only [List.length_drop, List.length_take]; rfl)) ?_
         with_reducible refine (ring_Ring_Add.calls gb218 (fun k_ => some k_ = (u219000 : Value).ownBlock) u219000 x219000_2 x219001_2 x219002_2 ((rd_T43 l1 x9_2).f1) ((rd_T43 l1 x9_2).f2) ((rd_T43 l1 x9_2).f3) t233 t236 t237 w _ ?side1 ?side2 ?side3 ?side4 A16.out).mono ?_
         (case side1 => exact by (with_reducible repeat first | refine blk_drewN ?_ _ | refine blk_drew ?_ | refine blk_alloc ?_ _); exact BK218.out)
         (case side2 => exact GE218.out)
         (case side3 => repeat (first | (with_reducible first | exact HB.out | apply below_alloc | apply pw_below_drewN | apply below_drew1 | refine below_set ?_ GE218.out | refine below_set ?_ GE224.out) | exact HB.out))
         (case side4 => exact Kd.R_tight rfl HO_219000.out)
         rintro e w20 ⟨v234, rfl, ho0, hi, hb, hkp⟩
         refine ⟨_, rfl, ?_⟩
         have n0_ := Goto.m0 (Kd.Q_mono (ok' := fun k_ => some k_ ≠ (v234 : Value).ownBlock) (Kd.Q_keptB ((Kd.Q_types HO_225001.out BK218.out (by decide))) hkp (fun k_ hk_ hs_ => Or.elim hs_ (fun hs_ => (hk_.1) hs_) (fun e_ => (hk_.2) e_))) (fun k_ hk_ => fun e_ => Or.elim (ho0.1 k_ e_.symm) (fun hs_ => hk_.2.1 (.inl hs_)) (fun hn_ => Nat.not_le.2 hk_.2.2 hn_)))
         have n1_ := Goto.m0 (hi)
         have n2_ := Goto.m0 (blk_kept (Goto.bx BK224) hkp (fun hs_ => Or.elim hs_ (fun hs_ => (fun e_ => (Kd.R_ne HO_219000.out BK224.out (by decide)) e_) hs_) (fun e_ => NB224_218.out e_)))
         have n3_ := Goto.m0 (Kd.R_mono (ok' := fun k_ => some k_ ≠ (u225001 : Value).ownBlock) ho0 (fun k_ hk_ => Or.elim hk_ (fun hs_ => fun e_ => ((((Kd.Q_types HO_225001.out BK218.out (by decide))).1 k_ e_.symm).1) hs_) (fun hn_ => (Kd.fresh' (Kd.Q_lt (by (with_reducible repeat (first | apply Kd.Q_alloc | apply Kd.Q_drewN | apply Kd.Q_drew)); exact HO_225001.out)) k_ hn_))))
         have n4_ := Goto.m0 (hb)
         clear HO_225001; clear BK218; clear BK224; clear HB; clear HO_219000; have HO_225001 := n0_; have BK218 := n1_; have BK224 := n2_; have HO235 := n3_; have HB := n4_; clear n0_ n1_ n2_ n3_ n4_
         (try clear hb)
         (try clear hkp)
         (try clear ho0)
         refine hK.out _ _ ⟨(Goto.kc HB.out hw230_0), (Goto.kc HB.out hw230_1), (Goto.kc HB.out hw230_2), (Goto.kc HB.out hw230_3), (Goto.kc HB.out hw231_0), (Goto.kc HB.out hw231_1), (Goto.kc HB.out hw231_2), (Goto.kc HB.out hw231_3), (Goto.kc HB.out hw232_0), (Goto.kc HB.out hw232_1), (Goto.kc HB.out hw232_2), (Goto.kc HB.out hw232_3)⟩ (fun hHeld => ?_)
         clear hK K
         refine norm_ (a' := ?_) ?_ ?_
         rotate_left
         ·
          show Act.put _ (some 51) _ = _
          exact Goto.ap
         refine done_ (done_of HT_.out (by kernel_rfl)) ?_
         try go_wp2
         replace HO_225001 := Goto.m0 (Kd.Q_drew HO_225001.out); replace HO235 := Goto.m0 (Kd.R_drew HO235.out); replace BK218 := Goto.m0 (blk_drew BK218.out); replace BK224 := Goto.m0 (blk_drew BK224.out); replace HB := Goto.m0 (below_drew1 HB.out)
         have p238 : 0 ≤ (x9_2 : Int) := of_decide_eq_true (by first | (with_reducible assumption) | assumption)
         have q238 : x9_2 < (l1.length : Int) := of_decide_eq_true (by first | (with_reducible assumption) | assumption)
         obtain ⟨ad238, e238, hx238_0, hx238_1, hx238_2, hx238_3⟩ := at_T43 HR1.out x9_2 p238 q238
         have hw238_3 := hx238_3; have hw238_2 := hx238_2; have hw238_1 := hx238_1; have hw238_0 := hx238_0
         obtain rfl : ad230 = ad238 := (by injection e238)
         replace hx238_0 := Goto.kc HB.out hx238_0
         replace hx238_1 := Goto.kc HB.out hx238_1
         replace hx238_2 := Goto.kc HB.out hx238_2
         replace hx238_3 := Goto.kc HB.out hx238_3
         replace p238 := eq_true p238; replace q238 := eq_true q238
         have p239 : 0 ≤ (x9_2 : Int) := of_decide_eq_true (by first | (with_reducible assumption) | assumption)
         have q239 : x9_2 < (l1.length : Int) := of_decide_eq_true (by first | (with_reducible assumption) | assumption)
         obtain ⟨ad239, e239, hx239_0, hx239_1, hx239_2, hx239_3⟩ := at_T43 HR1.out x9_2 p239 q239
         have hw239_3 := hx239_3; have hw239_2 := hx239_2; have hw239_1 := hx239_1; have hw239_0 := hx239_0
         obtain rfl : ad230 = ad239 := (by injection e239)
         replace hx239_0 := Goto.kc HB.out hx239_0
         replace hx239_1 := Goto.kc HB.out hx239_1
         replace hx239_2 := Goto.kc HB.out hx239_2
         replace hx239_3 := Goto.kc HB.out hx239_3
         replace p239 := eq_true p239; replace q239 := eq_true q239
         have p240 : 0 ≤ (x9_2 : Int) := of_decide_eq_true (by first | (with_reducible assumption) | assumption)
         have q240 : x9_2 < (l1.length : Int) := of_decide_eq_true (by first | (with_reducible assumption) | assumption)
         obtain ⟨ad240, e240, hx240_0, hx240_1, hx240_2, hx240_3⟩ := at_T43 HR1.out x9_2 p240 q240
         have hw240_3 := hx240_3; have hw240_2 := hx240_2; have hw240_1 := hx240_1; have hw240_0 := hx240_0
         obtain rfl : ad230 = ad240 := (by injection e240)
         replace hx240_0 := Goto.kc HB.out hx240_0
         replace hx240_1 := Goto.kc HB.out hx240_1
         replace hx240_2 := Goto.kc HB.out hx240_2
         replace hx240_3 := Goto.kc HB.out hx240_3
         replace p240 := eq_true p240; replace q240 := eq_true q240
         refine start_ (n := 17) (S := fun w' => w'.cell? (ad230.add ((x9_2).toNat * 4)) = some (.int .i64 ((rd_T43 l1 x9_2).f0)) ∧ w'.cell? ⟨(ad230.add ((x9_2).toNat * 4)).block, (ad230.add ((x9_2).toNat * 4)).off + 1, none⟩ = some (.int .i64 ((rd_T43 l1 x9_2).f1)) ∧ w'.cell? ⟨(ad230.add ((x9_2).toNat * 4)).block, (ad230.add ((x9_2).toNat * 4)).off + 2, none⟩ = some (.int .i64 ((rd_T43 l1 x9_2).f2)) ∧ w'.cell? ⟨(ad230.add ((x9_2).toNat * 4)).block, (ad230.add ((x9_2).toNat * 4)).off + 3, none⟩ = some (.int .i64 ((rd_T43 l1 x9_2).f3)) ∧ w'.cell? (ad230.add ((x9_2).toNat * 4)) = some (.int .i64 ((rd_T43 l1 x9_2).f0)) ∧ w'.cell? ⟨(ad230.add ((x9_2).toNat * 4)).block, (ad230.add ((x9_2).toNat * 4)).off + 1, none⟩ = some (.int .i64 ((rd_T43 l1 x9_2).f1)) ∧ w'.cell? ⟨(ad230.add ((x9_2).toNat * 4)).block, (ad230.add ((x9_2).toNat * 4)).off + 2, none⟩ = some (.int .i64 ((rd_T43 l1 x9_2).f2)) ∧ w'.cell? ⟨(ad230.add ((x9_2).toNat * 4)).block, (ad230.add ((x9_2).toNat * 4)).off + 3, none⟩ = some (.int .i64 ((rd_T43 l1 x9_2).f3)) ∧ w'.cell? (ad230.add ((x9_2).toNat * 4)) = some (.int .i64 ((rd_T43 l1 x9_2).f0)) ∧ w'.cell? ⟨(ad230.add ((x9_2).toNat * 4)).block, (ad230.add ((x9_2).toNat * 4)).off + 1, none⟩ = some (.int .i64 ((rd_T43 l1 x9_2).f1)) ∧ w'.cell? ⟨(ad230.add ((x9_2).toNat * 4)).block, (ad230.add ((x9_2).toNat * 4)).off + 2, none⟩ = some (.int .i64 ((rd_T43 l1 x9_2).f2)) ∧ w'.cell? ⟨(ad230.add ((x9_2).toNat * 4)).block, (ad230.add ((x9_2).toNat * 4)).off + 3, none⟩ = some (.int .i64 ((rd_T43 l1 x9_2).f3))) (ds := []) (.replicate 17 false) (by kernel_rfl) rfl rfl ⟨(Goto.kc HB.out hw238_0), (Goto.kc HB.out hw238_1), (Goto.kc HB.out hw238_2), (Goto.kc HB.out hw238_3), (Goto.kc HB.out hw239_0), (Goto.kc HB.out hw239_1), (Goto.kc HB.out hw239_2), (Goto.kc HB.out hw239_3), (Goto.kc HB.out hw240_0), (Goto.kc HB.out hw240_1), (Goto.kc HB.out hw240_2), (Goto.kc HB.out hw240_3)⟩ (fun hHeld => ?_); refine with_tabW tontinelaw18_RingPlays.tab10 tontinelaw18_RingPlays.bits10 (fun HT_ HW_ => ?_)
         generalize w20.drew = w21 at HO_225001 HO235 BK218 BK224 HB hx238_0 hx238_1 hx238_2 hx238_3 hx239_0 hx239_1 hx239_2 hx239_3 hx240_0 hx240_1 hx240_2 hx240_3 hHeld ⊢
         refine pure_ (i := 0) (N := some 52) (v := ?_) (a' := ?_) (Goto.bs 17 1) rfl rfl (any_of HT_.out (by kernel_rfl)) (fun _ _ _ h => h) (Or.inl ⟨by rfl, ?_⟩) ?_ ?_
         rotate_left
         ·
          intro w'
          go_simp
          with_reducible rfl
         rotate_left
         ·
          exact Goto.ap
         refine pure_ (i := 1) (N := some 53) (v := ?_) (a' := ?_) (Goto.bs 17 3) rfl rfl (any_of HT_.out (by kernel_rfl)) (fun _ _ _ h => h) (Or.inl ⟨by rfl, ?_⟩) ?_ ?_
         rotate_left
         ·
          intro w'
          go_simp
          with_reducible rfl
         rotate_left
         ·
          exact Goto.ap
         refine pure_ (i := 2) (N := some 54) (v := ?_) (a' := ?_) (Goto.bs 17 7) rfl rfl (any_of HT_.out (by kernel_rfl)) (fun _ _ _ h => h) (Or.inl ⟨by rfl, ?_⟩) ?_ ?_
         rotate_left
         ·
          intro w'
          go_simp
          with_reducible rfl
         rotate_left
         ·
          exact Goto.ap
         refine pure_ (i := 3) (N := some 55) (v := ?_) (a' := ?_) (Goto.bs 17 15) rfl rfl (any_of HT_.out (by kernel_rfl)) (fun _ _ _ h => h) (Or.inl ⟨by rfl, ?_⟩) ?_ ?_
         rotate_left
         ·
          intro w'
          go_simp
          with_reducible rfl
         rotate_left
         ·
          exact Goto.ap
         refine pure_ (i := 4) (N := some 56) (v := ?_) (a' := ?_) (Goto.bs 17 31) rfl rfl (any_of HT_.out (by kernel_rfl)) (fun _ _ _ h => h) (Or.inl ⟨by rfl, ?_⟩) ?_ ?_
         rotate_left
         ·
          intro w'
          go_simp
          with_reducible rfl
         rotate_left
         ·
          exact Goto.ap
         refine pure_ (i := 6) (N := some 58) (v := ?_) (a' := ?_) (Goto.bs 17 95) rfl rfl (any_of HT_.out (by kernel_rfl)) (fun _ _ _ h => h) (Or.inl ⟨by rfl, ?_⟩) ?_ ?_
         rotate_left
         ·
          intro w'
          go_simp
          with_reducible rfl
         rotate_left
         ·
          exact Goto.ap
         refine pure_ (i := 7) (N := some 59) (v := ?_) (a' := ?_) (Goto.bs 17 223) rfl rfl (any_of HT_.out (by kernel_rfl)) (fun _ _ _ h => h) (Or.inl ⟨by rfl, ?_⟩) ?_ ?_
         rotate_left
         ·
          intro w'
          go_simp
          with_reducible rfl
         rotate_left
         ·
          exact Goto.ap
         refine pure_ (i := 8) (N := some 60) (v := ?_) (a' := ?_) (Goto.bs 17 479) rfl rfl (any_of HT_.out (by kernel_rfl)) (fun _ _ _ h => h) (Or.inl ⟨by rfl, ?_⟩) ?_ ?_
         rotate_left
         ·
          intro w'
          go_simp
          with_reducible rfl
         rotate_left
         ·
          exact Goto.ap
         refine pure_ (i := 9) (N := some 61) (v := ?_) (a' := ?_) (Goto.bs 17 991) rfl rfl (any_of HT_.out (by kernel_rfl)) (fun _ _ _ h => h) (Or.inl ⟨by rfl, ?_⟩) ?_ ?_
         rotate_left
         ·
          intro w'
          go_simp
          with_reducible rfl
         rotate_left
         ·
          exact Goto.ap
         refine pure_ (i := 11) (N := some 63) (v := ?_) (a' := ?_) (Goto.bs 17 3039) rfl rfl (any_of HT_.out (by kernel_rfl)) (fun _ _ _ h => h) (Or.inl ⟨by rfl, ?_⟩) ?_ ?_
         rotate_left
         ·
          intro w'
          go_simp
          with_reducible rfl
         rotate_left
         ·
          exact Goto.ap
         refine pure_ (i := 12) (N := some 64) (v := ?_) (a' := ?_) (Goto.bs 17 7135) rfl rfl (any_of HT_.out (by kernel_rfl)) (fun _ _ _ h => h) (Or.inl ⟨by rfl, ?_⟩) ?_ ?_
         rotate_left
         ·
          intro w'
          go_simp
          with_reducible rfl
         rotate_left
         ·
          exact Goto.ap
         refine pure_ (i := 13) (N := some 65) (v := ?_) (a' := ?_) (Goto.bs 17 15327) rfl rfl (any_of HT_.out (by kernel_rfl)) (fun _ _ _ h => h) (Or.inl ⟨by rfl, ?_⟩) ?_ ?_
         rotate_left
         ·
          intro w'
          go_simp
          with_reducible rfl
         rotate_left
         ·
          exact Goto.ap
         refine pure_ (i := 14) (N := some 66) (v := ?_) (a' := ?_) (Goto.bs 17 31711) rfl rfl (any_of HT_.out (by kernel_rfl)) (fun _ _ _ h => h) (Or.inl ⟨by rfl, ?_⟩) ?_ ?_
         rotate_left
         ·
          intro w'
          go_simp
          with_reducible rfl
         rotate_left
         ·
          exact Goto.ap
         refine take_ (i := 5) (N := some 57) (v := ?_) (a' := ?_) (Goto.bs 17 31743) rfl rfl (take_ofW HT_.out HW_.out (by kernel_rfl)) (fun _ _ _ h => h) (Or.inl ⟨by rfl, ?_⟩) hHeld ?_ ?_
         rotate_left
         ·
          rintro w' ⟨s0, s1, s2, s3, s4, s5, s6, s7, s8, s9, s10, s11⟩
          go_simp
          with_reducible rfl
         rotate_left
         ·
          exact Goto.ap
         refine take_ (i := 10) (N := some 62) (v := ?_) (a' := ?_) (Goto.bs 17 32767) rfl rfl (take_ofW HT_.out HW_.out (by kernel_rfl)) (fun _ _ _ h => h) (Or.inl ⟨by rfl, ?_⟩) hHeld ?_ ?_
         rotate_left
         ·
          rintro w' ⟨s0, s1, s2, s3, s4, s5, s6, s7, s8, s9, s10, s11⟩
          go_simp
          with_reducible rfl
         rotate_left
         ·
          exact Goto.ap
         refine take_ (i := 15) (N := some 67) (v := ?_) (a' := ?_) (Goto.bs 17 65535) rfl rfl (take_ofW HT_.out HW_.out (by kernel_rfl)) (fun _ _ _ h => h) (Or.inl ⟨by rfl, ?_⟩) hHeld ?_ ?_
         rotate_left
         ·
          rintro w' ⟨s0, s1, s2, s3, s4, s5, s6, s7, s8, s9, s10, s11⟩
          go_simp
          with_reducible rfl
         rotate_left
         ·
          exact Goto.ap
         refine one_ (i := 16) (N := some 68) (Goto.bs 17 131071) rfl rfl (one_of HT_.out (by kernel_rfl)) (by decide) (fun K hK => ?_)
         refine goes_ Try.func30 (by kernel_rfl) rfl #[.pointer (some ⟨gb224, 0, none⟩), .int .i64 ((rd_T43 l1 x9_2).f1), .int .i64 ((rd_T43 l1 x9_2).f2), .int .i64 ((rd_T43 l1 x9_2).f3)] (by rfl) rfl rfl (by (try simp only [List.map_toArray, List.map_cons, List.map_nil]); first | done | rfl | (simp only [List.length_drop, List.length_take]; rfl)) ?_
         with_reducible refine (tontineref15_Ring_Add.calls gb224 x225000_2 (fun k_ => some k_ = (u225001 : Value).ownBlock) u225001 x225001_2 x225002_2 ((rd_T43 l1 x9_2).f1) ((rd_T43 l1 x9_2).f2) ((rd_T43 l1 x9_2).f3) t241 t242 t245 w _ ?side1 ?side2 ?side3 ?side4 A17.out).mono ?_
         (case side1 => exact by (with_reducible repeat first | refine blk_drewN ?_ _ | refine blk_drew ?_ | refine blk_alloc ?_ _); exact BK224.out)
         (case side2 => exact GE224.out)
         (case side3 => repeat (first | (with_reducible first | exact HB.out | apply below_alloc | apply pw_below_drewN | apply below_drew1 | refine below_set ?_ GE218.out | refine below_set ?_ GE224.out) | exact HB.out))
         (case side4 => exact Goto.Q_tight rfl (HO_225001.out))
         rintro e w22 ⟨v243, rfl, ho0, hi, hb, hkp⟩
         refine ⟨_, rfl, ?_⟩
         have n0_ := Goto.m0 (blk_kept (Goto.bx BK218) hkp (fun hs_ => Or.elim hs_ (fun hs_ => (fun e_ => (Kd.Q_ne HO_225001.out BK218.out (by decide)) e_) hs_) (fun e_ => NB218_224.out e_)))
         have n1_ := Goto.m0 (hi)
         have n2_ := Goto.m0 (Kd.R_mono (ok' := fun k_ => some k_ ≠ (v243 : Value).ownBlock) (Kd.R_keptB ((Kd.R_types HO235.out BK224.out (by decide))) hkp (fun k_ hk_ hs_ => Or.elim hs_ (fun hs_ => (hk_.1) hs_) (fun e_ => (hk_.2) e_))) (fun k_ hk_ => fun e_ => Or.elim (ho0.1 k_ e_.symm) (fun hs_ => hk_.2.1 (.inl hs_)) (fun hn_ => Nat.not_le.2 hk_.2.2 hn_)))
         have n3_ := Goto.m0 (Kd.Q_mono (ok' := fun k_ => some k_ ≠ (v234 : Value).ownBlock) ho0 (fun k_ hk_ => Or.elim hk_ (fun hs_ => fun e_ => ((((Kd.R_types HO235.out BK224.out (by decide))).1 k_ e_.symm).1) hs_) (fun hn_ => (Kd.fresh' (Kd.R_lt (by (with_reducible repeat (first | apply Kd.R_alloc | apply Kd.R_drewN | apply Kd.R_drew)); exact HO235.out)) k_ hn_))))
         have n4_ := Goto.m0 (hb)
         clear BK218; clear BK224; clear HO235; clear HB; clear HO_225001; have BK218 := n0_; have BK224 := n1_; have HO235 := n2_; have HO244 := n3_; have HB := n4_; clear n0_ n1_ n2_ n3_ n4_
         (try clear hb)
         (try clear hkp)
         (try clear ho0)
         refine hK.out _ _ ⟨(Goto.kc HB.out hw238_0), (Goto.kc HB.out hw238_1), (Goto.kc HB.out hw238_2), (Goto.kc HB.out hw238_3), (Goto.kc HB.out hw239_0), (Goto.kc HB.out hw239_1), (Goto.kc HB.out hw239_2), (Goto.kc HB.out hw239_3), (Goto.kc HB.out hw240_0), (Goto.kc HB.out hw240_1), (Goto.kc HB.out hw240_2), (Goto.kc HB.out hw240_3)⟩ (fun hHeld => ?_)
         clear hK K
         refine norm_ (a' := ?_) ?_ ?_
         rotate_left
         ·
          show Act.put _ (some 68) _ = _
          exact Goto.ap
         refine done_ (done_of HT_.out (by kernel_rfl)) ?_
         go_upto_region 11 with (fail)
         go_cut [100] (fun v100 wc => ∃ (kq : Nat) (x100_17 : Bool) (x219000_17 : List (S43)) (x219001_17 : Int) (x219002_17 : Int) (u219000 : Value), v100 = .bool x100_17 ∧ Aside0 (tontinelaw18_RingPlays.j2 kq l1 l2 x9_2 x100_17 x219000_17 x219001_17 x219002_17 t241 t242 t245 = some r) ∧ Aside0 (kq ≤ k2) ∧ Aside0 (Kd.R k43 43 wc w.heap.size (fun k_ => some k_ ≠ (v243 : Value).ownBlock) u219000 x219000_17) ∧ Aside0 (Kd.Q k43 43 wc w.heap.size (fun k_ => some k_ ≠ (u219000 : Value).ownBlock) v243 t242) ∧ Aside0 (wc.heap[gb218]? = some (.cells #[u219000, .int .i64 x219001_17, .int .i64 x219002_17] 79 (0, 0))) ∧ Aside0 (wc.heap[gb224]? = some (.cells #[.int .i64 t241, v243, .int .i64 t245] 47 (0, 0))) ∧ Aside0 (Below w.heap.size w wc))
         case first =>
          have H := HC18.out; clear HC18
          replace H := Option.bind_eq_some_iff.mp H
          obtain ⟨⟨t246, t249, t252, t253⟩, A230, H⟩ := H
          replace H : ((tontineref15_SameRecords.f k2 t246 t242).bind fun t254 => (if t254 = true then ((ring_Ring_Last.f t249 t252 t253).bind fun bt255 => (if bt255.1 = t245 then ((ring_Ring_Lost.f bt255.2.1 bt255.2.2.1 bt255.2.2.2).bind fun bt261 => (tontinelaw18_RingPlays.j2 k2 l1 l2 x9_2 (bt261.1 != (wrap64 (t245 - (t242.length : Int)))) bt261.2.1 bt261.2.2.1 bt261.2.2.2 t241 t242 t245)) else (tontinelaw18_RingPlays.j2 k2 l1 l2 x9_2 true bt255.2.1 bt255.2.2.1 bt255.2.2.2 t241 t242 t245))) else (tontinelaw18_RingPlays.j2 k2 l1 l2 x9_2 true t249 t252 t253 t241 t242 t245))) = some r := H
          have A23 := Goto.m0 A230
          clear A230
          replace H := Option.bind_eq_some_iff.mp H
          obtain ⟨t254, A240, H⟩ := H
          have A24 := Goto.m0 A240
          clear A240
          by_cases c25 : t254 = true
          ·
           subst c25
           rw [if_pos rfl] at H
           replace H := Option.bind_eq_some_iff.mp H
           obtain ⟨⟨t255, t256, t259, t260⟩, A260, H⟩ := H
           replace H : (if t255 = t245 then ((ring_Ring_Lost.f t256 t259 t260).bind fun bt261 => (tontinelaw18_RingPlays.j2 k2 l1 l2 x9_2 (bt261.1 != (wrap64 (t245 - (t242.length : Int)))) bt261.2.1 bt261.2.2.1 bt261.2.2.2 t241 t242 t245)) else (tontinelaw18_RingPlays.j2 k2 l1 l2 x9_2 true t256 t259 t260 t241 t242 t245)) = some r := H
           have A26 := Goto.m0 A260
           clear A260
           by_cases c27 : t255 = t245
           ·
            rw [if_pos c27] at H
            have c27b0 : (t255 == t245) = true := beq_iff_eq.mpr c27
            have c27b1 : (t255 != t245) = false := bne_eq_false_iff_eq.mpr c27
            clear c27
            (first | rw [c27b0] | (simp only [i64_w, i32_w]; rw [c27b0]) | skip)
            replace H := Option.bind_eq_some_iff.mp H
            obtain ⟨⟨t261, t262, t265, t266⟩, A280, H⟩ := H
            replace H : (tontinelaw18_RingPlays.j2 k2 l1 l2 x9_2 (t261 != (wrap64 (t245 - (t242.length : Int)))) t262 t265 t266 t241 t242 t245) = some r := H
            have A28 := Goto.m0 A280
            clear A280
            have H' := Goto.m0 H
            clear H
            try go_wp2
            replace HO235 := Goto.m0 (Kd.R_drew HO235.out); replace HO244 := Goto.m0 (Kd.Q_drew HO244.out); replace BK218 := Goto.m0 (blk_drew BK218.out); replace BK224 := Goto.m0 (blk_drew BK224.out); replace HB := Goto.m0 (below_drew1 HB.out)
            refine start_ (n := 32) (S := fun w' => w'.cell? ⟨gb224, 0, none⟩ = some (.int .i64 t241) ∧ w'.cell? ⟨gb224, 1, none⟩ = some (v243) ∧ w'.cell? ⟨gb224, 2, none⟩ = some (.int .i64 t245)) (ds := []) (.replicate 32 false) (by kernel_rfl) rfl rfl ⟨(blk_cell BK224.out 0).trans rfl, (blk_cell BK224.out 1).trans rfl, (blk_cell BK224.out 2).trans rfl⟩ (fun hHeld => ?_); refine with_tabW tontinelaw18_RingPlays.tab11 tontinelaw18_RingPlays.bits11 (fun HT_ HW_ => ?_)
            generalize w22.drew = w29 at HO235 HO244 BK218 BK224 HB hHeld ⊢
            refine pure_ (i := 0) (N := some 69) (v := ?_) (a' := ?_) (Goto.bs 32 1) rfl rfl (any_of HT_.out (by kernel_rfl)) (fun _ _ _ h => h) (Or.inl ⟨by rfl, ?_⟩) ?_ ?_
            rotate_left
            ·
             intro w'
             go_simp
             with_reducible rfl
            rotate_left
            ·
             exact Goto.ap
            refine pure_ (i := 2) (N := some 71) (v := ?_) (a' := ?_) (Goto.bs 32 5) rfl rfl (any_of HT_.out (by kernel_rfl)) (fun _ _ _ h => h) (Or.inl ⟨by rfl, ?_⟩) ?_ ?_
            rotate_left
            ·
             intro w'
             go_simp
             with_reducible rfl
            rotate_left
            ·
             exact Goto.ap
            refine pure_ (i := 3) (N := some 72) (v := ?_) (a' := ?_) (Goto.bs 32 13) rfl rfl (any_of HT_.out (by kernel_rfl)) (fun _ _ _ h => h) (Or.inl ⟨by rfl, ?_⟩) ?_ ?_
            rotate_left
            ·
             intro w'
             go_simp
             with_reducible rfl
            rotate_left
            ·
             exact Goto.ap
            refine pure_ (i := 4) (N := some 73) (v := ?_) (a' := ?_) (Goto.bs 32 29) rfl rfl (any_of HT_.out (by kernel_rfl)) (fun _ _ _ h => h) (Or.inl ⟨by rfl, ?_⟩) ?_ ?_
            rotate_left
            ·
             intro w'
             go_simp
             with_reducible rfl
            rotate_left
            ·
             exact Goto.ap
            refine take_ (i := 5) (N := some 74) (v := ?_) (a' := ?_) (Goto.bs 32 61) rfl rfl (take_ofW HT_.out HW_.out (by kernel_rfl)) (fun _ _ _ h => h) (Or.inl ⟨by rfl, ?_⟩) hHeld ?_ ?_
            rotate_left
            ·
             rintro w' ⟨s0, s1, s2⟩
             go_simp
             with_reducible rfl
            rotate_left
            ·
             exact Goto.ap
            refine one_ (i := 1) (N := some 70) (Goto.bs 32 63) rfl rfl (one_of HT_.out (by kernel_rfl)) (by decide) (fun K hK => ?_)
            refine goes_ Try.func32 (by kernel_rfl) rfl #[.pointer (some ⟨gb218, 0, none⟩)] (by rfl) rfl rfl (by (try simp only [List.map_toArray, List.map_cons, List.map_nil]); first | done | rfl | (simp only [List.length_drop, List.length_take]; rfl)) ?_
            with_reducible refine (ring_Ring_All.calls gb218 (fun k_ => some k_ = (v234 : Value).ownBlock) v234 t233 t236 t237 t246 t249 t252 t253 w _ ?side1 ?side2 ?side3 ?side4 A23.out).mono ?_
            (case side1 => exact by (with_reducible repeat first | refine blk_drewN ?_ _ | refine blk_drew ?_ | refine blk_alloc ?_ _); exact BK218.out)
            (case side2 => exact GE218.out)
            (case side3 => repeat (first | (with_reducible first | exact HB.out | apply below_alloc | apply pw_below_drewN | apply below_drew1 | refine below_set ?_ GE218.out | refine below_set ?_ GE224.out) | exact HB.out))
            (case side4 => exact Kd.R_tight rfl HO235.out)
            rintro e w30 ⟨v247, v250, rfl, ho0, ho1, hi, hb, hkp⟩
            refine ⟨_, rfl, ?_⟩
            have n0_ := Goto.m0 (hi)
            have n1_ := Goto.m0 (blk_kept (Goto.bx BK224) hkp (fun hs_ => Or.elim hs_ (fun hs_ => (fun e_ => (Kd.R_ne HO235.out BK224.out (by decide)) e_) hs_) (fun e_ => NB224_218.out e_)))
            have n2_ := Goto.m0 (Kd.Q_mono (ok' := fun k_ => some k_ ≠ (v247 : Value).ownBlock ∧ some k_ ≠ (v250 : Value).ownBlock) (Kd.Q_keptB ((Kd.Q_types HO244.out BK218.out (by decide))) hkp (fun k_ hk_ hs_ => Or.elim hs_ (fun hs_ => (hk_.1) hs_) (fun e_ => (hk_.2) e_))) (fun k_ hk_ => ⟨fun e_ => Or.elim (ho0.1 k_ e_.symm).1 (fun hs_ => hk_.2.1 (.inl hs_)) (fun hn_ => Nat.not_le.2 hk_.2.2 hn_), fun e_ => Or.elim (ho1.1 k_ e_.symm).1 (fun hs_ => hk_.2.1 (.inl hs_)) (fun hn_ => Nat.not_le.2 hk_.2.2 hn_)⟩))
            have n3_ := Goto.m0 (Kd.R_mono (ok' := fun k_ => some k_ ≠ (v250 : Value).ownBlock ∧ some k_ ≠ (v243 : Value).ownBlock) ho0 (fun k_ hk_ => ⟨hk_.2, Or.elim hk_.1 (fun hs_ => fun e_ => ((((Kd.Q_types HO244.out BK218.out (by decide))).1 k_ e_.symm).1) hs_) (fun hn_ => (Kd.fresh' (Kd.Q_lt (by (with_reducible repeat (first | apply Kd.Q_alloc | apply Kd.Q_drewN | apply Kd.Q_drew)); exact HO244.out)) k_ hn_))⟩))
            have n4_ := Goto.m0 (Kd.R_mono (ok' := fun k_ => some k_ ≠ (v247 : Value).ownBlock ∧ some k_ ≠ (v243 : Value).ownBlock) ho1 (fun k_ hk_ => ⟨hk_.2, Or.elim hk_.1 (fun hs_ => fun e_ => ((((Kd.Q_types HO244.out BK218.out (by decide))).1 k_ e_.symm).1) hs_) (fun hn_ => (Kd.fresh' (Kd.Q_lt (by (with_reducible repeat (first | apply Kd.Q_alloc | apply Kd.Q_drewN | apply Kd.Q_drew)); exact HO244.out)) k_ hn_))⟩))
            have n5_ := Goto.m0 (hb)
            clear BK218; clear BK224; clear HO244; clear HB; clear HO235; have BK218 := n0_; have BK224 := n1_; have HO244 := n2_; have HO248 := n3_; have HO251 := n4_; have HB := n5_; clear n0_ n1_ n2_ n3_ n4_ n5_
            (try clear hb)
            (try clear hkp)
            (try clear ho0)
            (try clear ho1)
            obtain ⟨Ao31, co31, eo31⟩ := Kd.R_slice HO248.out
            (first | subst eo31 | (injection eo31 with f1_ f2_ f3_; have f4_ := f1_.symm; have f5_ := f3_.symm; clear f1_ f2_ f3_; subst f4_; subst f5_))
            obtain ⟨Ao32, co32, eo32, _⟩ := Kd.Q_slice HO244.out
            (first | subst eo32 | (injection eo32 with f1_ f2_ f3_; have f4_ := f1_.symm; have f5_ := f3_.symm; clear f1_ f2_ f3_; subst f4_; subst f5_))
            refine hK.out _ _ ⟨(blk_cell BK224.out 0).trans rfl, (blk_cell BK224.out 1).trans rfl, (blk_cell BK224.out 2).trans rfl⟩ (fun hHeld => ?_)
            clear hK K
            refine norm_ (a' := ?_) ?_ ?_
            rotate_left
            ·
             show Act.put _ (some 70) _ = _
             exact Goto.ap
            refine one_ (i := 6) (N := some 75) (Goto.bs 32 127) rfl rfl (one_of HT_.out (by kernel_rfl)) (by decide) (fun K hK => ?_)
            refine goes_ Try.func31 (by kernel_rfl) rfl #[.slice Ao31 t246.length co31, .slice Ao32 t242.length co32] (by rfl) rfl rfl (by (try simp only [List.map_toArray, List.map_cons, List.map_nil]); first | done | rfl | (simp only [List.length_drop, List.length_take]; rfl)) ?_
            with_reducible refine (tontineref15_SameRecords.calls k2 _ _ t246 _ _ t242 true _ ?side1 ?side2 ?side3 ?side4 A24.out).mono ?_
            (case side1 => repeat (first | exact (Kd.R_reads' HO248.out).2.2 | (with_reducible refine Kd.C_alloc ?_ _) | (with_reducible refine Kd.C_drewN ?_ _) | (with_reducible refine Kd.C_drew ?_)))
            (case side2 => exact (Kd.R_reads' HO248.out).2.1)
            (case side3 => repeat (first | exact (Kd.Q_reads' HO244.out).2.2 | (with_reducible refine Kd.C_alloc ?_ _) | (with_reducible refine Kd.C_drewN ?_ _) | (with_reducible refine Kd.C_drew ?_)))
            (case side4 => exact (Kd.Q_reads' HO244.out).2.1)
            rintro e w' ⟨rfl, ⟨nd, rfl⟩⟩
            refine ⟨_, rfl, ?_⟩
            refine hK.out _ _ ⟨(blk_cell BK224.out 0).trans rfl, (blk_cell BK224.out 1).trans rfl, (blk_cell BK224.out 2).trans rfl⟩ (fun hHeld => ?_)
            clear hK K
            refine norm_ (a' := ?_) ?_ ?_
            rotate_left
            ·
             show Act.put _ (some 75) _ = _
             exact Goto.ap
            refine pure_ (i := 7) (N := some 76) (v := ?_) (a' := ?_) (Goto.bs 32 255) rfl rfl (any_of HT_.out (by kernel_rfl)) (fun _ _ _ h => h) (Or.inl ⟨by rfl, ?_⟩) ?_ ?_
            rotate_left
            ·
             intro w'
             go_simp
             with_reducible rfl
            rotate_left
            ·
             exact Goto.ap
            refine pure_ (i := 8) (N := some 77) (v := ?_) (a' := ?_) (Goto.bs 32 511) rfl rfl (any_of HT_.out (by kernel_rfl)) (fun _ _ _ h => h) (Or.inl ⟨by rfl, ?_⟩) ?_ ?_
            rotate_left
            ·
             intro w'
             go_simp
             with_reducible rfl
            rotate_left
            ·
             exact Goto.ap
            refine pure_ (i := 9) (N := some 78) (v := ?_) (a' := ?_) (Goto.bs 32 1023) rfl rfl (any_of HT_.out (by kernel_rfl)) (fun _ _ _ h => h) (Or.inl ⟨by rfl, ?_⟩) ?_ ?_
            rotate_left
            ·
             intro w'
             go_simp
             with_reducible rfl
            rotate_left
            ·
             exact Goto.ap
            refine pure_ (i := 11) (N := some 80) (v := ?_) (a' := ?_) (Goto.bs 32 3071) rfl rfl (any_of HT_.out (by kernel_rfl)) (fun _ _ _ h => h) (Or.inl ⟨by rfl, ?_⟩) ?_ ?_
            rotate_left
            ·
             intro w'
             go_simp
             with_reducible rfl
            rotate_left
            ·
             exact Goto.ap
            refine pure_ (i := 12) (N := some 81) (v := ?_) (a' := ?_) (Goto.bs 32 7167) rfl rfl (any_of HT_.out (by kernel_rfl)) (fun _ _ _ h => h) (Or.inl ⟨by rfl, ?_⟩) ?_ ?_
            rotate_left
            ·
             intro w'
             go_simp
             with_reducible rfl
            rotate_left
            ·
             exact Goto.ap
            refine pure_ (i := 13) (N := some 82) (v := ?_) (a' := ?_) (Goto.bs 32 15359) rfl rfl (any_of HT_.out (by kernel_rfl)) (fun _ _ _ h => h) (Or.inl ⟨by rfl, ?_⟩) ?_ ?_
            rotate_left
            ·
             intro w'
             go_simp
             with_reducible rfl
            rotate_left
            ·
             exact Goto.ap
            refine take_ (i := 14) (N := some 83) (v := ?_) (a' := ?_) (Goto.bs 32 31743) rfl rfl (take_ofW HT_.out HW_.out (by kernel_rfl)) (fun _ _ _ h => h) (Or.inl ⟨by rfl, ?_⟩) hHeld ?_ ?_
            rotate_left
            ·
             rintro w' ⟨s0, s1, s2⟩
             go_simp
             with_reducible rfl
            rotate_left
            ·
             exact Goto.ap
            refine one_ (i := 10) (N := some 79) (Goto.bs 32 32767) rfl rfl (one_of HT_.out (by kernel_rfl)) (by decide) (fun K hK => ?_)
            refine goes_ Try.func33 (by kernel_rfl) rfl #[.pointer (some ⟨gb218, 0, none⟩)] (by rfl) rfl rfl (by (try simp only [List.map_toArray, List.map_cons, List.map_nil]); first | done | rfl | (simp only [List.length_drop, List.length_take]; rfl)) ?_
            with_reducible refine (ring_Ring_Last.calls gb218 (fun k_ => some k_ = (v250 : Value).ownBlock) v250 t249 t252 t253 t255 t256 t259 t260 w _ ?side1 ?side2 ?side3 ?side4 A26.out).mono ?_
            (case side1 => exact by (with_reducible repeat first | refine blk_drewN ?_ _ | refine blk_drew ?_ | refine blk_alloc ?_ _); exact BK218.out)
            (case side2 => exact GE218.out)
            (case side3 => repeat (first | (with_reducible first | exact HB.out | apply below_alloc | apply pw_below_drewN | apply below_drew1 | refine below_set ?_ GE218.out | refine below_set ?_ GE224.out) | exact HB.out))
            (case side4 => exact Kd.R_tight rfl HO251.out)
            rintro e w33 ⟨v257, rfl, ho0, hi, hb, hkp⟩
            refine ⟨_, rfl, ?_⟩
            have n0_ := Goto.m0 (hi)
            have n1_ := Goto.m0 (blk_kept (Goto.bx BK224) hkp (fun hs_ => Or.elim hs_ (fun hs_ => (fun e_ => (Kd.R_ne HO251.out BK224.out (by decide)) e_) hs_) (fun e_ => NB224_218.out e_)))
            have n2_ := Goto.m0 (Kd.Q_mono (ok' := fun k_ => some k_ ≠ (.slice Ao31 t246.length co31 : Value).ownBlock ∧ some k_ ≠ (v257 : Value).ownBlock) (Kd.Q_keptB ((Kd.Q_types HO244.out BK218.out (by decide))) hkp (fun k_ hk_ hs_ => Or.elim hs_ (fun hs_ => (hk_.1.2) hs_) (fun e_ => (hk_.2) e_))) (fun k_ hk_ => ⟨hk_.1.1.1, fun e_ => Or.elim (ho0.1 k_ e_.symm) (fun hs_ => hk_.2.1 (.inl hs_)) (fun hn_ => Nat.not_le.2 hk_.2.2 hn_)⟩))
            have n3_ := Goto.m0 (Kd.R_mono (ok' := fun k_ => some k_ ≠ (.slice Ao32 t242.length co32 : Value).ownBlock ∧ some k_ ≠ (v257 : Value).ownBlock) (Kd.R_keptB ((Kd.R_types HO248.out BK218.out (by decide))) hkp (fun k_ hk_ hs_ => Or.elim hs_ (fun hs_ => (hk_.1.1) hs_) (fun e_ => (hk_.2) e_))) (fun k_ hk_ => ⟨hk_.1.1.2, fun e_ => Or.elim (ho0.1 k_ e_.symm) (fun hs_ => hk_.2.1 (.inl hs_)) (fun hn_ => Nat.not_le.2 hk_.2.2 hn_)⟩))
            have n4_ := Goto.m0 (Kd.R_mono (ok' := fun k_ => some k_ ≠ (.slice Ao32 t242.length co32 : Value).ownBlock ∧ some k_ ≠ (.slice Ao31 t246.length co31 : Value).ownBlock) ho0 (fun k_ hk_ => ⟨Or.elim hk_ (fun hs_ => fun e_ => ((((Kd.Q_types HO244.out BK218.out (by decide))).1 k_ e_.symm).1.2) hs_) (fun hn_ => (Kd.fresh' (Kd.Q_lt (by (with_reducible repeat (first | apply Kd.Q_alloc | apply Kd.Q_drewN | apply Kd.Q_drew)); exact HO244.out)) k_ hn_)), Or.elim hk_ (fun hs_ => fun e_ => ((((Kd.R_types HO248.out BK218.out (by decide))).1 k_ e_.symm).1.1) hs_) (fun hn_ => (Kd.fresh' (Kd.R_lt (by (with_reducible repeat (first | apply Kd.R_alloc | apply Kd.R_drewN | apply Kd.R_drew)); exact HO248.out)) k_ hn_))⟩))
            have n5_ := Goto.m0 (hb)
            clear BK218; clear BK224; clear HO244; clear HO248; clear HB; clear HO251; have BK218 := n0_; have BK224 := n1_; have HO244 := n2_; have HO248 := n3_; have HO258 := n4_; have HB := n5_; clear n0_ n1_ n2_ n3_ n4_ n5_
            (try clear hb)
            (try clear hkp)
            (try clear ho0)
            refine hK.out _ _ ⟨(blk_cell BK224.out 0).trans rfl, (blk_cell BK224.out 1).trans rfl, (blk_cell BK224.out 2).trans rfl⟩ (fun hHeld => ?_)
            clear hK K
            refine norm_ (a' := ?_) ?_ ?_
            rotate_left
            ·
             show Act.put _ (some 79) _ = _
             exact Goto.ap
            refine pure_ (i := 15) (N := some 84) (v := ?_) (a' := ?_) (Goto.bs 32 65535) rfl rfl (any_of HT_.out (by kernel_rfl)) (fun _ _ _ h => h) (Or.inl ⟨by rfl, ?_⟩) ?_ ?_
            rotate_left
            ·
             intro w'
             go_simp
             with_reducible rfl
            rotate_left
            ·
             exact Goto.ap
            refine pure_ (i := 16) (N := some 85) (v := ?_) (a' := ?_) (Goto.bs 32 131071) rfl rfl (any_of HT_.out (by kernel_rfl)) (fun _ _ _ h => h) (Or.inl ⟨by rfl, ?_⟩) ?_ ?_
            rotate_left
            ·
             intro w'
             go_simp
             with_reducible rfl
            rotate_left
            ·
             exact Goto.ap
            refine pure_ (i := 17) (N := some 86) (v := ?_) (a' := ?_) (Goto.bs 32 262143) rfl rfl (any_of HT_.out (by kernel_rfl)) (fun _ _ _ h => h) (Or.inl ⟨by rfl, ?_⟩) ?_ ?_
            rotate_left
            ·
             intro w'
             go_simp
             with_reducible rfl
            rotate_left
            ·
             exact Goto.ap
            refine pure_ (i := 18) (N := some 87) (v := ?_) (a' := ?_) (Goto.bs 32 524287) rfl rfl (any_of HT_.out (by kernel_rfl)) (fun _ _ _ h => h) (Or.inl ⟨by rfl, ?_⟩) ?_ ?_
            rotate_left
            ·
             intro w'
             go_simp
             with_reducible rfl
            rotate_left
            ·
             exact Goto.ap
            refine pure_ (i := 20) (N := some 89) (v := ?_) (a' := ?_) (Goto.bs 32 1572863) rfl rfl (any_of HT_.out (by kernel_rfl)) (fun _ _ _ h => h) (Or.inl ⟨by rfl, ?_⟩) ?_ ?_
            rotate_left
            ·
             intro w'
             go_simp
             with_reducible rfl
            rotate_left
            ·
             exact Goto.ap
            refine pure_ (i := 21) (N := some 90) (v := ?_) (a' := ?_) (Goto.bs 32 3670015) rfl rfl (any_of HT_.out (by kernel_rfl)) (fun _ _ _ h => h) (Or.inl ⟨by rfl, ?_⟩) ?_ ?_
            rotate_left
            ·
             intro w'
             go_simp
             with_reducible rfl
            rotate_left
            ·
             exact Goto.ap
            refine pure_ (i := 22) (N := some 91) (v := ?_) (a' := ?_) (Goto.bs 32 7864319) rfl rfl (any_of HT_.out (by kernel_rfl)) (fun _ _ _ h => h) (Or.inl ⟨by rfl, ?_⟩) ?_ ?_
            rotate_left
            ·
             intro w'
             go_simp
             with_reducible rfl
            rotate_left
            ·
             exact Goto.ap
            refine pure_ (i := 24) (N := some 93) (v := ?_) (a' := ?_) (Goto.bs 32 24641535) rfl rfl (any_of HT_.out (by kernel_rfl)) (fun _ _ _ h => h) (Or.inl ⟨by rfl, ?_⟩) ?_ ?_
            rotate_left
            ·
             intro w'
             go_simp
             with_reducible rfl
            rotate_left
            ·
             exact Goto.ap
            refine pure_ (i := 25) (N := some 94) (v := ?_) (a' := ?_) (Goto.bs 32 58195967) rfl rfl (any_of HT_.out (by kernel_rfl)) (fun _ _ _ h => h) (Or.inl ⟨by rfl, ?_⟩) ?_ ?_
            rotate_left
            ·
             intro w'
             go_simp
             with_reducible rfl
            rotate_left
            ·
             exact Goto.ap
            refine pure_ (i := 26) (N := some 95) (v := ?_) (a' := ?_) (Goto.bs 32 125304831) rfl rfl (any_of HT_.out (by kernel_rfl)) (fun _ _ _ h => h) (Or.inl ⟨by rfl, ?_⟩) ?_ ?_
            rotate_left
            ·
             intro w'
             go_simp
             with_reducible rfl
            rotate_left
            ·
             exact Goto.ap
            refine take_ (i := 23) (N := some 92) (v := ?_) (a' := ?_) (Goto.bs 32 133693439) rfl rfl (take_ofW HT_.out HW_.out (by kernel_rfl)) (fun _ _ _ h => h) (Or.inl ⟨by rfl, ?_⟩) hHeld ?_ ?_
            rotate_left
            ·
             rintro w' ⟨s0, s1, s2⟩
             go_simp
             with_reducible rfl
            rotate_left
            ·
             exact Goto.ap
            refine take_ (i := 27) (N := some 96) (v := ?_) (a' := ?_) (Goto.bs 32 267911167) rfl rfl (take_ofW HT_.out HW_.out (by kernel_rfl)) (fun _ _ _ h => h) (Or.inl ⟨by rfl, ?_⟩) hHeld ?_ ?_
            rotate_left
            ·
             rintro w' ⟨s0, s1, s2⟩
             go_simp
             with_reducible rfl
            rotate_left
            ·
             exact Goto.ap
            refine pure_ (i := 28) (N := some 97) (v := ?_) (a' := ?_) (Goto.bs 32 536346623) rfl rfl (any_of HT_.out (by kernel_rfl)) (fun _ _ _ h => h) (Or.inl ⟨by rfl, ?_⟩) ?_ ?_
            rotate_left
            ·
             intro w'
             go_simp
             with_reducible rfl
            rotate_left
            ·
             exact Goto.ap
            refine pure_ (i := 29) (N := some 98) (v := ?_) (a' := ?_) (Goto.bs 32 1073217535) rfl rfl (any_of HT_.out (by kernel_rfl)) (fun _ _ _ h => h) (Or.inl ⟨by rfl, ?_⟩) ?_ ?_
            rotate_left
            ·
             intro w'
             go_simp
             with_reducible rfl
            rotate_left
            ·
             exact Goto.ap
            refine one_ (i := 19) (N := some 88) (Goto.bs 32 1073741823) rfl rfl (one_of HT_.out (by kernel_rfl)) (by decide) (fun K hK => ?_)
            refine goes_ Try.func34 (by kernel_rfl) rfl #[.pointer (some ⟨gb218, 0, none⟩)] (by rfl) rfl rfl (by (try simp only [List.map_toArray, List.map_cons, List.map_nil]); first | done | rfl | (simp only [List.length_drop, List.length_take]; rfl)) ?_
            with_reducible refine (ring_Ring_Lost.calls gb218 (fun k_ => some k_ = (v257 : Value).ownBlock) v257 t256 t259 t260 t261 t262 t265 t266 w _ ?side1 ?side2 ?side3 ?side4 A28.out).mono ?_
            (case side1 => exact by (with_reducible repeat first | refine blk_drewN ?_ _ | refine blk_drew ?_ | refine blk_alloc ?_ _); exact BK218.out)
            (case side2 => exact GE218.out)
            (case side3 => repeat (first | (with_reducible first | exact HB.out | apply below_alloc | apply pw_below_drewN | apply below_drew1 | refine below_set ?_ GE218.out | refine below_set ?_ GE224.out) | exact HB.out))
            (case side4 => exact Kd.R_tight rfl HO258.out)
            rintro e w34 ⟨v263, rfl, ho0, hi, hb, hkp⟩
            refine ⟨_, rfl, ?_⟩
            have n0_ := Goto.m0 (hi)
            have n1_ := Goto.m0 (blk_kept (Goto.bx BK224) hkp (fun hs_ => Or.elim hs_ (fun hs_ => (fun e_ => (Kd.R_ne HO258.out BK224.out (by decide)) e_) hs_) (fun e_ => NB224_218.out e_)))
            have n2_ := Goto.m0 (Kd.Q_mono (ok' := fun k_ => some k_ ≠ (.slice Ao31 t246.length co31 : Value).ownBlock ∧ some k_ ≠ (v263 : Value).ownBlock) (Kd.Q_keptB ((Kd.Q_types HO244.out BK218.out (by decide))) hkp (fun k_ hk_ hs_ => Or.elim hs_ (fun hs_ => (hk_.1.2) hs_) (fun e_ => (hk_.2) e_))) (fun k_ hk_ => ⟨hk_.1.1.1, fun e_ => Or.elim (ho0.1 k_ e_.symm) (fun hs_ => hk_.2.1 (.inl hs_)) (fun hn_ => Nat.not_le.2 hk_.2.2 hn_)⟩))
            have n3_ := Goto.m0 (Kd.R_mono (ok' := fun k_ => some k_ ≠ (.slice Ao32 t242.length co32 : Value).ownBlock ∧ some k_ ≠ (v263 : Value).ownBlock) (Kd.R_keptB ((Kd.R_types HO248.out BK218.out (by decide))) hkp (fun k_ hk_ hs_ => Or.elim hs_ (fun hs_ => (hk_.1.2) hs_) (fun e_ => (hk_.2) e_))) (fun k_ hk_ => ⟨hk_.1.1.1, fun e_ => Or.elim (ho0.1 k_ e_.symm) (fun hs_ => hk_.2.1 (.inl hs_)) (fun hn_ => Nat.not_le.2 hk_.2.2 hn_)⟩))
            have n4_ := Goto.m0 (Kd.R_mono (ok' := fun k_ => some k_ ≠ (.slice Ao32 t242.length co32 : Value).ownBlock ∧ some k_ ≠ (.slice Ao31 t246.length co31 : Value).ownBlock) ho0 (fun k_ hk_ => ⟨Or.elim hk_ (fun hs_ => fun e_ => ((((Kd.Q_types HO244.out BK218.out (by decide))).1 k_ e_.symm).1.2) hs_) (fun hn_ => (Kd.fresh' (Kd.Q_lt (by (with_reducible repeat (first | apply Kd.Q_alloc | apply Kd.Q_drewN | apply Kd.Q_drew)); exact HO244.out)) k_ hn_)), Or.elim hk_ (fun hs_ => fun e_ => ((((Kd.R_types HO248.out BK218.out (by decide))).1 k_ e_.symm).1.2) hs_) (fun hn_ => (Kd.fresh' (Kd.R_lt (by (with_reducible repeat (first | apply Kd.R_alloc | apply Kd.R_drewN | apply Kd.R_drew)); exact HO248.out)) k_ hn_))⟩))
            have n5_ := Goto.m0 (hb)
            clear BK218; clear BK224; clear HO244; clear HO248; clear HB; clear HO258; have BK218 := n0_; have BK224 := n1_; have HO244 := n2_; have HO248 := n3_; have HO264 := n4_; have HB := n5_; clear n0_ n1_ n2_ n3_ n4_ n5_
            (try clear hb)
            (try clear hkp)
            (try clear ho0)
            refine hK.out _ _ ⟨(blk_cell BK224.out 0).trans rfl, (blk_cell BK224.out 1).trans rfl, (blk_cell BK224.out 2).trans rfl⟩ (fun hHeld => ?_)
            clear hK K
            refine norm_ (a' := ?_) ?_ ?_
            rotate_left
            ·
             show Act.put _ (some 88) _ = _
             exact Goto.ap
            refine pure_ (i := 30) (N := some 99) (v := ?_) (a' := ?_) (Goto.bs 32 2147483647) rfl rfl (any_of HT_.out (by kernel_rfl)) (fun _ _ _ h => h) (Or.inl ⟨by rfl, ?_⟩) ?_ ?_
            rotate_left
            ·
             intro w'
             go_simp
             with_reducible rfl
            rotate_left
            ·
             exact Goto.ap
            refine pure_ (i := 31) (N := some 100) (v := ?_) (a' := ?_) (Goto.bs 32 4294967295) rfl rfl (any_of HT_.out (by kernel_rfl)) (fun _ _ _ h => h) (Or.inl ⟨by rfl, ?_⟩) ?_ ?_
            rotate_left
            ·
             intro w'
             go_simp
             with_reducible rfl
            rotate_left
            ·
             exact Goto.ap
            refine done_ (done_of HT_.out (by kernel_rfl)) ?_
            try go_wp2
            go_meet
            case rel => exact ⟨_, ((t261 != (wrap64 (t245 - (t242.length : Int))))), (t262), (t265), (t266), (v263), (by first | rfl | (simp; done) | (simp [*]; done)), H', ⟨by have := HJ5.out; have := HK2.out; first | omega | exact Nat.le_refl _⟩, ⟨by (with_reducible repeat (first | apply Kd.R_alloc | apply Kd.R_drewN | apply Kd.R_drew)); exact Kd.R_mono HO264.out (fun _ hk => hk.1)⟩, ⟨by (with_reducible repeat (first | apply Kd.Q_alloc | apply Kd.Q_drewN | apply Kd.Q_drew)); exact Kd.Q_mono HO244.out (fun _ hk => hk.2)⟩, ⟨Goto.bx BK218⟩, ⟨Goto.bx BK224⟩, ⟨Goto.hx HB⟩⟩
           ·
            rw [if_neg c27] at H
            have c27b0 : (t255 == t245) = false := beq_eq_false_iff_ne.mpr c27
            have c27b1 : (t255 != t245) = true := bne_iff_ne.mpr c27
            (first | rw [c27b0] | (simp only [i64_w, i32_w]; rw [c27b0]) | skip)
            have H' := Goto.m0 H
            clear H
            try go_wp2
            replace HO235 := Goto.m0 (Kd.R_drew HO235.out); replace HO244 := Goto.m0 (Kd.Q_drew HO244.out); replace BK218 := Goto.m0 (blk_drew BK218.out); replace BK224 := Goto.m0 (blk_drew BK224.out); replace HB := Goto.m0 (below_drew1 HB.out)
            refine start_ (n := 32) (S := fun w' => w'.cell? ⟨gb224, 0, none⟩ = some (.int .i64 t241) ∧ w'.cell? ⟨gb224, 1, none⟩ = some (v243) ∧ w'.cell? ⟨gb224, 2, none⟩ = some (.int .i64 t245)) (ds := []) (.replicate 32 false) (by kernel_rfl) rfl rfl ⟨(blk_cell BK224.out 0).trans rfl, (blk_cell BK224.out 1).trans rfl, (blk_cell BK224.out 2).trans rfl⟩ (fun hHeld => ?_); refine with_tabW tontinelaw18_RingPlays.tab11 tontinelaw18_RingPlays.bits11 (fun HT_ HW_ => ?_)
            generalize w22.drew = w35 at HO235 HO244 BK218 BK224 HB hHeld ⊢
            refine pure_ (i := 0) (N := some 69) (v := ?_) (a' := ?_) (Goto.bs 32 1) rfl rfl (any_of HT_.out (by kernel_rfl)) (fun _ _ _ h => h) (Or.inl ⟨by rfl, ?_⟩) ?_ ?_
            rotate_left
            ·
             intro w'
             go_simp
             with_reducible rfl
            rotate_left
            ·
             exact Goto.ap
            refine pure_ (i := 2) (N := some 71) (v := ?_) (a' := ?_) (Goto.bs 32 5) rfl rfl (any_of HT_.out (by kernel_rfl)) (fun _ _ _ h => h) (Or.inl ⟨by rfl, ?_⟩) ?_ ?_
            rotate_left
            ·
             intro w'
             go_simp
             with_reducible rfl
            rotate_left
            ·
             exact Goto.ap
            refine pure_ (i := 3) (N := some 72) (v := ?_) (a' := ?_) (Goto.bs 32 13) rfl rfl (any_of HT_.out (by kernel_rfl)) (fun _ _ _ h => h) (Or.inl ⟨by rfl, ?_⟩) ?_ ?_
            rotate_left
            ·
             intro w'
             go_simp
             with_reducible rfl
            rotate_left
            ·
             exact Goto.ap
            refine pure_ (i := 4) (N := some 73) (v := ?_) (a' := ?_) (Goto.bs 32 29) rfl rfl (any_of HT_.out (by kernel_rfl)) (fun _ _ _ h => h) (Or.inl ⟨by rfl, ?_⟩) ?_ ?_
            rotate_left
            ·
             intro w'
             go_simp
             with_reducible rfl
            rotate_left
            ·
             exact Goto.ap
            refine take_ (i := 5) (N := some 74) (v := ?_) (a' := ?_) (Goto.bs 32 61) rfl rfl (take_ofW HT_.out HW_.out (by kernel_rfl)) (fun _ _ _ h => h) (Or.inl ⟨by rfl, ?_⟩) hHeld ?_ ?_
            rotate_left
            ·
             rintro w' ⟨s0, s1, s2⟩
             go_simp
             with_reducible rfl
            rotate_left
            ·
             exact Goto.ap
            refine one_ (i := 1) (N := some 70) (Goto.bs 32 63) rfl rfl (one_of HT_.out (by kernel_rfl)) (by decide) (fun K hK => ?_)
            refine goes_ Try.func32 (by kernel_rfl) rfl #[.pointer (some ⟨gb218, 0, none⟩)] (by rfl) rfl rfl (by (try simp only [List.map_toArray, List.map_cons, List.map_nil]); first | done | rfl | (simp only [List.length_drop, List.length_take]; rfl)) ?_
            with_reducible refine (ring_Ring_All.calls gb218 (fun k_ => some k_ = (v234 : Value).ownBlock) v234 t233 t236 t237 t246 t249 t252 t253 w _ ?side1 ?side2 ?side3 ?side4 A23.out).mono ?_
            (case side1 => exact by (with_reducible repeat first | refine blk_drewN ?_ _ | refine blk_drew ?_ | refine blk_alloc ?_ _); exact BK218.out)
            (case side2 => exact GE218.out)
            (case side3 => repeat (first | (with_reducible first | exact HB.out | apply below_alloc | apply pw_below_drewN | apply below_drew1 | refine below_set ?_ GE218.out | refine below_set ?_ GE224.out) | exact HB.out))
            (case side4 => exact Kd.R_tight rfl HO235.out)
            rintro e w36 ⟨v247, v250, rfl, ho0, ho1, hi, hb, hkp⟩
            refine ⟨_, rfl, ?_⟩
            have n0_ := Goto.m0 (hi)
            have n1_ := Goto.m0 (blk_kept (Goto.bx BK224) hkp (fun hs_ => Or.elim hs_ (fun hs_ => (fun e_ => (Kd.R_ne HO235.out BK224.out (by decide)) e_) hs_) (fun e_ => NB224_218.out e_)))
            have n2_ := Goto.m0 (Kd.Q_mono (ok' := fun k_ => some k_ ≠ (v247 : Value).ownBlock ∧ some k_ ≠ (v250 : Value).ownBlock) (Kd.Q_keptB ((Kd.Q_types HO244.out BK218.out (by decide))) hkp (fun k_ hk_ hs_ => Or.elim hs_ (fun hs_ => (hk_.1) hs_) (fun e_ => (hk_.2) e_))) (fun k_ hk_ => ⟨fun e_ => Or.elim (ho0.1 k_ e_.symm).1 (fun hs_ => hk_.2.1 (.inl hs_)) (fun hn_ => Nat.not_le.2 hk_.2.2 hn_), fun e_ => Or.elim (ho1.1 k_ e_.symm).1 (fun hs_ => hk_.2.1 (.inl hs_)) (fun hn_ => Nat.not_le.2 hk_.2.2 hn_)⟩))
            have n3_ := Goto.m0 (Kd.R_mono (ok' := fun k_ => some k_ ≠ (v250 : Value).ownBlock ∧ some k_ ≠ (v243 : Value).ownBlock) ho0 (fun k_ hk_ => ⟨hk_.2, Or.elim hk_.1 (fun hs_ => fun e_ => ((((Kd.Q_types HO244.out BK218.out (by decide))).1 k_ e_.symm).1) hs_) (fun hn_ => (Kd.fresh' (Kd.Q_lt (by (with_reducible repeat (first | apply Kd.Q_alloc | apply Kd.Q_drewN | apply Kd.Q_drew)); exact HO244.out)) k_ hn_))⟩))
            have n4_ := Goto.m0 (Kd.R_mono (ok' := fun k_ => some k_ ≠ (v247 : Value).ownBlock ∧ some k_ ≠ (v243 : Value).ownBlock) ho1 (fun k_ hk_ => ⟨hk_.2, Or.elim hk_.1 (fun hs_ => fun e_ => ((((Kd.Q_types HO244.out BK218.out (by decide))).1 k_ e_.symm).1) hs_) (fun hn_ => (Kd.fresh' (Kd.Q_lt (by (with_reducible repeat (first | apply Kd.Q_alloc | apply Kd.Q_drewN | apply Kd.Q_drew)); exact HO244.out)) k_ hn_))⟩))
            have n5_ := Goto.m0 (hb)
            clear BK218; clear BK224; clear HO244; clear HB; clear HO235; have BK218 := n0_; have BK224 := n1_; have HO244 := n2_; have HO248 := n3_; have HO251 := n4_; have HB := n5_; clear n0_ n1_ n2_ n3_ n4_ n5_
            (try clear hb)
            (try clear hkp)
            (try clear ho0)
            (try clear ho1)
            obtain ⟨Ao37, co37, eo37⟩ := Kd.R_slice HO248.out
            (first | subst eo37 | (injection eo37 with f1_ f2_ f3_; have f4_ := f1_.symm; have f5_ := f3_.symm; clear f1_ f2_ f3_; subst f4_; subst f5_))
            obtain ⟨Ao38, co38, eo38, _⟩ := Kd.Q_slice HO244.out
            (first | subst eo38 | (injection eo38 with f1_ f2_ f3_; have f4_ := f1_.symm; have f5_ := f3_.symm; clear f1_ f2_ f3_; subst f4_; subst f5_))
            refine hK.out _ _ ⟨(blk_cell BK224.out 0).trans rfl, (blk_cell BK224.out 1).trans rfl, (blk_cell BK224.out 2).trans rfl⟩ (fun hHeld => ?_)
            clear hK K
            refine norm_ (a' := ?_) ?_ ?_
            rotate_left
            ·
             show Act.put _ (some 70) _ = _
             exact Goto.ap
            refine one_ (i := 6) (N := some 75) (Goto.bs 32 127) rfl rfl (one_of HT_.out (by kernel_rfl)) (by decide) (fun K hK => ?_)
            refine goes_ Try.func31 (by kernel_rfl) rfl #[.slice Ao37 t246.length co37, .slice Ao38 t242.length co38] (by rfl) rfl rfl (by (try simp only [List.map_toArray, List.map_cons, List.map_nil]); first | done | rfl | (simp only [List.length_drop, List.length_take]; rfl)) ?_
            with_reducible refine (tontineref15_SameRecords.calls k2 _ _ t246 _ _ t242 true _ ?side1 ?side2 ?side3 ?side4 A24.out).mono ?_
            (case side1 => repeat (first | exact (Kd.R_reads' HO248.out).2.2 | (with_reducible refine Kd.C_alloc ?_ _) | (with_reducible refine Kd.C_drewN ?_ _) | (with_reducible refine Kd.C_drew ?_)))
            (case side2 => exact (Kd.R_reads' HO248.out).2.1)
            (case side3 => repeat (first | exact (Kd.Q_reads' HO244.out).2.2 | (with_reducible refine Kd.C_alloc ?_ _) | (with_reducible refine Kd.C_drewN ?_ _) | (with_reducible refine Kd.C_drew ?_)))
            (case side4 => exact (Kd.Q_reads' HO244.out).2.1)
            rintro e w' ⟨rfl, ⟨nd, rfl⟩⟩
            refine ⟨_, rfl, ?_⟩
            refine hK.out _ _ ⟨(blk_cell BK224.out 0).trans rfl, (blk_cell BK224.out 1).trans rfl, (blk_cell BK224.out 2).trans rfl⟩ (fun hHeld => ?_)
            clear hK K
            refine norm_ (a' := ?_) ?_ ?_
            rotate_left
            ·
             show Act.put _ (some 75) _ = _
             exact Goto.ap
            refine pure_ (i := 7) (N := some 76) (v := ?_) (a' := ?_) (Goto.bs 32 255) rfl rfl (any_of HT_.out (by kernel_rfl)) (fun _ _ _ h => h) (Or.inl ⟨by rfl, ?_⟩) ?_ ?_
            rotate_left
            ·
             intro w'
             go_simp
             with_reducible rfl
            rotate_left
            ·
             exact Goto.ap
            refine pure_ (i := 8) (N := some 77) (v := ?_) (a' := ?_) (Goto.bs 32 511) rfl rfl (any_of HT_.out (by kernel_rfl)) (fun _ _ _ h => h) (Or.inl ⟨by rfl, ?_⟩) ?_ ?_
            rotate_left
            ·
             intro w'
             go_simp
             with_reducible rfl
            rotate_left
            ·
             exact Goto.ap
            refine pure_ (i := 9) (N := some 78) (v := ?_) (a' := ?_) (Goto.bs 32 1023) rfl rfl (any_of HT_.out (by kernel_rfl)) (fun _ _ _ h => h) (Or.inl ⟨by rfl, ?_⟩) ?_ ?_
            rotate_left
            ·
             intro w'
             go_simp
             with_reducible rfl
            rotate_left
            ·
             exact Goto.ap
            refine pure_ (i := 11) (N := some 80) (v := ?_) (a' := ?_) (Goto.bs 32 3071) rfl rfl (any_of HT_.out (by kernel_rfl)) (fun _ _ _ h => h) (Or.inl ⟨by rfl, ?_⟩) ?_ ?_
            rotate_left
            ·
             intro w'
             go_simp
             with_reducible rfl
            rotate_left
            ·
             exact Goto.ap
            refine pure_ (i := 12) (N := some 81) (v := ?_) (a' := ?_) (Goto.bs 32 7167) rfl rfl (any_of HT_.out (by kernel_rfl)) (fun _ _ _ h => h) (Or.inl ⟨by rfl, ?_⟩) ?_ ?_
            rotate_left
            ·
             intro w'
             go_simp
             with_reducible rfl
            rotate_left
            ·
             exact Goto.ap
            refine pure_ (i := 13) (N := some 82) (v := ?_) (a' := ?_) (Goto.bs 32 15359) rfl rfl (any_of HT_.out (by kernel_rfl)) (fun _ _ _ h => h) (Or.inl ⟨by rfl, ?_⟩) ?_ ?_
            rotate_left
            ·
             intro w'
             go_simp
             with_reducible rfl
            rotate_left
            ·
             exact Goto.ap
            refine take_ (i := 14) (N := some 83) (v := ?_) (a' := ?_) (Goto.bs 32 31743) rfl rfl (take_ofW HT_.out HW_.out (by kernel_rfl)) (fun _ _ _ h => h) (Or.inl ⟨by rfl, ?_⟩) hHeld ?_ ?_
            rotate_left
            ·
             rintro w' ⟨s0, s1, s2⟩
             go_simp
             with_reducible rfl
            rotate_left
            ·
             exact Goto.ap
            refine one_ (i := 10) (N := some 79) (Goto.bs 32 32767) rfl rfl (one_of HT_.out (by kernel_rfl)) (by decide) (fun K hK => ?_)
            refine goes_ Try.func33 (by kernel_rfl) rfl #[.pointer (some ⟨gb218, 0, none⟩)] (by rfl) rfl rfl (by (try simp only [List.map_toArray, List.map_cons, List.map_nil]); first | done | rfl | (simp only [List.length_drop, List.length_take]; rfl)) ?_
            with_reducible refine (ring_Ring_Last.calls gb218 (fun k_ => some k_ = (v250 : Value).ownBlock) v250 t249 t252 t253 t255 t256 t259 t260 w _ ?side1 ?side2 ?side3 ?side4 A26.out).mono ?_
            (case side1 => exact by (with_reducible repeat first | refine blk_drewN ?_ _ | refine blk_drew ?_ | refine blk_alloc ?_ _); exact BK218.out)
            (case side2 => exact GE218.out)
            (case side3 => repeat (first | (with_reducible first | exact HB.out | apply below_alloc | apply pw_below_drewN | apply below_drew1 | refine below_set ?_ GE218.out | refine below_set ?_ GE224.out) | exact HB.out))
            (case side4 => exact Kd.R_tight rfl HO251.out)
            rintro e w39 ⟨v257, rfl, ho0, hi, hb, hkp⟩
            refine ⟨_, rfl, ?_⟩
            have n0_ := Goto.m0 (hi)
            have n1_ := Goto.m0 (blk_kept (Goto.bx BK224) hkp (fun hs_ => Or.elim hs_ (fun hs_ => (fun e_ => (Kd.R_ne HO251.out BK224.out (by decide)) e_) hs_) (fun e_ => NB224_218.out e_)))
            have n2_ := Goto.m0 (Kd.Q_mono (ok' := fun k_ => some k_ ≠ (.slice Ao37 t246.length co37 : Value).ownBlock ∧ some k_ ≠ (v257 : Value).ownBlock) (Kd.Q_keptB ((Kd.Q_types HO244.out BK218.out (by decide))) hkp (fun k_ hk_ hs_ => Or.elim hs_ (fun hs_ => (hk_.1.2) hs_) (fun e_ => (hk_.2) e_))) (fun k_ hk_ => ⟨hk_.1.1.1, fun e_ => Or.elim (ho0.1 k_ e_.symm) (fun hs_ => hk_.2.1 (.inl hs_)) (fun hn_ => Nat.not_le.2 hk_.2.2 hn_)⟩))
            have n3_ := Goto.m0 (Kd.R_mono (ok' := fun k_ => some k_ ≠ (.slice Ao38 t242.length co38 : Value).ownBlock ∧ some k_ ≠ (v257 : Value).ownBlock) (Kd.R_keptB ((Kd.R_types HO248.out BK218.out (by decide))) hkp (fun k_ hk_ hs_ => Or.elim hs_ (fun hs_ => (hk_.1.1) hs_) (fun e_ => (hk_.2) e_))) (fun k_ hk_ => ⟨hk_.1.1.2, fun e_ => Or.elim (ho0.1 k_ e_.symm) (fun hs_ => hk_.2.1 (.inl hs_)) (fun hn_ => Nat.not_le.2 hk_.2.2 hn_)⟩))
            have n4_ := Goto.m0 (Kd.R_mono (ok' := fun k_ => some k_ ≠ (.slice Ao38 t242.length co38 : Value).ownBlock ∧ some k_ ≠ (.slice Ao37 t246.length co37 : Value).ownBlock) ho0 (fun k_ hk_ => ⟨Or.elim hk_ (fun hs_ => fun e_ => ((((Kd.Q_types HO244.out BK218.out (by decide))).1 k_ e_.symm).1.2) hs_) (fun hn_ => (Kd.fresh' (Kd.Q_lt (by (with_reducible repeat (first | apply Kd.Q_alloc | apply Kd.Q_drewN | apply Kd.Q_drew)); exact HO244.out)) k_ hn_)), Or.elim hk_ (fun hs_ => fun e_ => ((((Kd.R_types HO248.out BK218.out (by decide))).1 k_ e_.symm).1.1) hs_) (fun hn_ => (Kd.fresh' (Kd.R_lt (by (with_reducible repeat (first | apply Kd.R_alloc | apply Kd.R_drewN | apply Kd.R_drew)); exact HO248.out)) k_ hn_))⟩))
            have n5_ := Goto.m0 (hb)
            clear BK218; clear BK224; clear HO244; clear HO248; clear HB; clear HO251; have BK218 := n0_; have BK224 := n1_; have HO244 := n2_; have HO248 := n3_; have HO258 := n4_; have HB := n5_; clear n0_ n1_ n2_ n3_ n4_ n5_
            (try clear hb)
            (try clear hkp)
            (try clear ho0)
            refine hK.out _ _ ⟨(blk_cell BK224.out 0).trans rfl, (blk_cell BK224.out 1).trans rfl, (blk_cell BK224.out 2).trans rfl⟩ (fun hHeld => ?_)
            clear hK K
            refine norm_ (a' := ?_) ?_ ?_
            rotate_left
            ·
             show Act.put _ (some 79) _ = _
             exact Goto.ap
            refine pure_ (i := 15) (N := some 84) (v := ?_) (a' := ?_) (Goto.bs 32 65535) rfl rfl (any_of HT_.out (by kernel_rfl)) (fun _ _ _ h => h) (Or.inl ⟨by rfl, ?_⟩) ?_ ?_
            rotate_left
            ·
             intro w'
             go_simp
             with_reducible rfl
            rotate_left
            ·
             exact Goto.ap
            refine pure_ (i := 16) (N := some 85) (v := ?_) (a' := ?_) (Goto.bs 32 131071) rfl rfl (any_of HT_.out (by kernel_rfl)) (fun _ _ _ h => h) (Or.inl ⟨by rfl, ?_⟩) ?_ ?_
            rotate_left
            ·
             intro w'
             go_simp
             with_reducible rfl
            rotate_left
            ·
             exact Goto.ap
            refine pure_ (i := 17) (N := some 86) (v := ?_) (a' := ?_) (Goto.bs 32 262143) rfl rfl (any_of HT_.out (by kernel_rfl)) (fun _ _ _ h => h) (Or.inl ⟨by rfl, ?_⟩) ?_ ?_
            rotate_left
            ·
             intro w'
             go_simp
             with_reducible rfl
            rotate_left
            ·
             exact Goto.ap
            refine pure_ (i := 18) (N := some 87) (v := undef) (a' := ?_) (Goto.bs 32 524287) rfl rfl (any_of HT_.out (by kernel_rfl)) (fun _ _ _ h => h) (Or.inr ⟨by rfl, rfl⟩) ?_ ?_
            rotate_left
            ·
             exact Goto.ap
            refine pure_ (i := 19) (N := some 88) (v := undef) (a' := ?_) (Goto.bs 32 1048575) rfl rfl (any_of HT_.out (by kernel_rfl)) (fun _ _ _ h => h) (Or.inr ⟨by rfl, rfl⟩) ?_ ?_
            rotate_left
            ·
             exact Goto.ap
            refine pure_ (i := 20) (N := some 89) (v := undef) (a' := ?_) (Goto.bs 32 2097151) rfl rfl (any_of HT_.out (by kernel_rfl)) (fun _ _ _ h => h) (Or.inr ⟨by rfl, rfl⟩) ?_ ?_
            rotate_left
            ·
             exact Goto.ap
            refine pure_ (i := 21) (N := some 90) (v := undef) (a' := ?_) (Goto.bs 32 4194303) rfl rfl (any_of HT_.out (by kernel_rfl)) (fun _ _ _ h => h) (Or.inr ⟨by rfl, rfl⟩) ?_ ?_
            rotate_left
            ·
             exact Goto.ap
            refine pure_ (i := 22) (N := some 91) (v := undef) (a' := ?_) (Goto.bs 32 8388607) rfl rfl (any_of HT_.out (by kernel_rfl)) (fun _ _ _ h => h) (Or.inr ⟨by rfl, rfl⟩) ?_ ?_
            rotate_left
            ·
             exact Goto.ap
            refine pure_ (i := 23) (N := some 92) (v := undef) (a' := ?_) (Goto.bs 32 16777215) rfl rfl (any_of HT_.out (by kernel_rfl)) (fun _ _ _ h => h) (Or.inr ⟨by rfl, rfl⟩) ?_ ?_
            rotate_left
            ·
             exact Goto.ap
            refine pure_ (i := 24) (N := some 93) (v := undef) (a' := ?_) (Goto.bs 32 33554431) rfl rfl (any_of HT_.out (by kernel_rfl)) (fun _ _ _ h => h) (Or.inr ⟨by rfl, rfl⟩) ?_ ?_
            rotate_left
            ·
             exact Goto.ap
            refine pure_ (i := 25) (N := some 94) (v := undef) (a' := ?_) (Goto.bs 32 67108863) rfl rfl (any_of HT_.out (by kernel_rfl)) (fun _ _ _ h => h) (Or.inr ⟨by rfl, rfl⟩) ?_ ?_
            rotate_left
            ·
             exact Goto.ap
            refine pure_ (i := 26) (N := some 95) (v := undef) (a' := ?_) (Goto.bs 32 134217727) rfl rfl (any_of HT_.out (by kernel_rfl)) (fun _ _ _ h => h) (Or.inr ⟨by rfl, rfl⟩) ?_ ?_
            rotate_left
            ·
             exact Goto.ap
            refine pure_ (i := 27) (N := some 96) (v := undef) (a' := ?_) (Goto.bs 32 268435455) rfl rfl (any_of HT_.out (by kernel_rfl)) (fun _ _ _ h => h) (Or.inr ⟨by rfl, rfl⟩) ?_ ?_
            rotate_left
            ·
             exact Goto.ap
            refine pure_ (i := 28) (N := some 97) (v := undef) (a' := ?_) (Goto.bs 32 536870911) rfl rfl (any_of HT_.out (by kernel_rfl)) (fun _ _ _ h => h) (Or.inr ⟨by rfl, rfl⟩) ?_ ?_
            rotate_left
            ·
             exact Goto.ap
            refine pure_ (i := 29) (N := some 98) (v := undef) (a' := ?_) (Goto.bs 32 1073741823) rfl rfl (any_of HT_.out (by kernel_rfl)) (fun _ _ _ h => h) (Or.inr ⟨by rfl, rfl⟩) ?_ ?_
            rotate_left
            ·
             exact Goto.ap
            refine pure_ (i := 30) (N := some 99) (v := undef) (a' := ?_) (Goto.bs 32 2147483647) rfl rfl (any_of HT_.out (by kernel_rfl)) (fun _ _ _ h => h) (Or.inr ⟨by rfl, rfl⟩) ?_ ?_
            rotate_left
            ·
             exact Goto.ap
            refine pure_ (i := 31) (N := some 100) (v := ?_) (a' := ?_) (Goto.bs 32 4294967295) rfl rfl (any_of HT_.out (by kernel_rfl)) (fun _ _ _ h => h) (Or.inl ⟨by rfl, ?_⟩) ?_ ?_
            rotate_left
            ·
             intro w'
             go_simp
             with_reducible rfl
            rotate_left
            ·
             exact Goto.ap
            refine done_ (done_of HT_.out (by kernel_rfl)) ?_
            try go_wp2
            go_meet
            case rel => exact ⟨_, (true), (t256), (t259), (t260), (v257), (by first | rfl | (simp; done) | (simp [*]; done)), H', ⟨by have := HJ5.out; have := HK2.out; first | omega | exact Nat.le_refl _⟩, ⟨by (with_reducible repeat (first | apply Kd.R_alloc | apply Kd.R_drewN | apply Kd.R_drew)); exact Kd.R_mono HO258.out (fun _ hk => hk.1)⟩, ⟨by (with_reducible repeat (first | apply Kd.Q_alloc | apply Kd.Q_drewN | apply Kd.Q_drew)); exact Kd.Q_mono HO244.out (fun _ hk => hk.2)⟩, ⟨Goto.bx BK218⟩, ⟨Goto.bx BK224⟩, ⟨Goto.hx HB⟩⟩
          ·
           replace c25 := Bool.eq_false_iff.mpr c25
           subst c25
           rw [if_neg (show ¬ (false = true) by decide)] at H
           have H' := Goto.m0 H
           clear H
           try go_wp2
           replace HO235 := Goto.m0 (Kd.R_drew HO235.out); replace HO244 := Goto.m0 (Kd.Q_drew HO244.out); replace BK218 := Goto.m0 (blk_drew BK218.out); replace BK224 := Goto.m0 (blk_drew BK224.out); replace HB := Goto.m0 (below_drew1 HB.out)
           refine start_ (n := 32) (S := fun w' => w'.cell? ⟨gb224, 0, none⟩ = some (.int .i64 t241) ∧ w'.cell? ⟨gb224, 1, none⟩ = some (v243) ∧ w'.cell? ⟨gb224, 2, none⟩ = some (.int .i64 t245)) (ds := []) (.replicate 32 false) (by kernel_rfl) rfl rfl ⟨(blk_cell BK224.out 0).trans rfl, (blk_cell BK224.out 1).trans rfl, (blk_cell BK224.out 2).trans rfl⟩ (fun hHeld => ?_); refine with_tabW tontinelaw18_RingPlays.tab11 tontinelaw18_RingPlays.bits11 (fun HT_ HW_ => ?_)
           generalize w22.drew = w40 at HO235 HO244 BK218 BK224 HB hHeld ⊢
           refine pure_ (i := 0) (N := some 69) (v := ?_) (a' := ?_) (Goto.bs 32 1) rfl rfl (any_of HT_.out (by kernel_rfl)) (fun _ _ _ h => h) (Or.inl ⟨by rfl, ?_⟩) ?_ ?_
           rotate_left
           ·
            intro w'
            go_simp
            with_reducible rfl
           rotate_left
           ·
            exact Goto.ap
           refine pure_ (i := 2) (N := some 71) (v := ?_) (a' := ?_) (Goto.bs 32 5) rfl rfl (any_of HT_.out (by kernel_rfl)) (fun _ _ _ h => h) (Or.inl ⟨by rfl, ?_⟩) ?_ ?_
           rotate_left
           ·
            intro w'
            go_simp
            with_reducible rfl
           rotate_left
           ·
            exact Goto.ap
           refine pure_ (i := 3) (N := some 72) (v := ?_) (a' := ?_) (Goto.bs 32 13) rfl rfl (any_of HT_.out (by kernel_rfl)) (fun _ _ _ h => h) (Or.inl ⟨by rfl, ?_⟩) ?_ ?_
           rotate_left
           ·
            intro w'
            go_simp
            with_reducible rfl
           rotate_left
           ·
            exact Goto.ap
           refine pure_ (i := 4) (N := some 73) (v := ?_) (a' := ?_) (Goto.bs 32 29) rfl rfl (any_of HT_.out (by kernel_rfl)) (fun _ _ _ h => h) (Or.inl ⟨by rfl, ?_⟩) ?_ ?_
           rotate_left
           ·
            intro w'
            go_simp
            with_reducible rfl
           rotate_left
           ·
            exact Goto.ap
           refine take_ (i := 5) (N := some 74) (v := ?_) (a' := ?_) (Goto.bs 32 61) rfl rfl (take_ofW HT_.out HW_.out (by kernel_rfl)) (fun _ _ _ h => h) (Or.inl ⟨by rfl, ?_⟩) hHeld ?_ ?_
           rotate_left
           ·
            rintro w' ⟨s0, s1, s2⟩
            go_simp
            with_reducible rfl
           rotate_left
           ·
            exact Goto.ap
           refine one_ (i := 1) (N := some 70) (Goto.bs 32 63) rfl rfl (one_of HT_.out (by kernel_rfl)) (by decide) (fun K hK => ?_)
           refine goes_ Try.func32 (by kernel_rfl) rfl #[.pointer (some ⟨gb218, 0, none⟩)] (by rfl) rfl rfl (by (try simp only [List.map_toArray, List.map_cons, List.map_nil]); first | done | rfl | (simp only [List.length_drop, List.length_take]; rfl)) ?_
           with_reducible refine (ring_Ring_All.calls gb218 (fun k_ => some k_ = (v234 : Value).ownBlock) v234 t233 t236 t237 t246 t249 t252 t253 w _ ?side1 ?side2 ?side3 ?side4 A23.out).mono ?_
           (case side1 => exact by (with_reducible repeat first | refine blk_drewN ?_ _ | refine blk_drew ?_ | refine blk_alloc ?_ _); exact BK218.out)
           (case side2 => exact GE218.out)
           (case side3 => repeat (first | (with_reducible first | exact HB.out | apply below_alloc | apply pw_below_drewN | apply below_drew1 | refine below_set ?_ GE218.out | refine below_set ?_ GE224.out) | exact HB.out))
           (case side4 => exact Kd.R_tight rfl HO235.out)
           rintro e w41 ⟨v247, v250, rfl, ho0, ho1, hi, hb, hkp⟩
           refine ⟨_, rfl, ?_⟩
           have n0_ := Goto.m0 (hi)
           have n1_ := Goto.m0 (blk_kept (Goto.bx BK224) hkp (fun hs_ => Or.elim hs_ (fun hs_ => (fun e_ => (Kd.R_ne HO235.out BK224.out (by decide)) e_) hs_) (fun e_ => NB224_218.out e_)))
           have n2_ := Goto.m0 (Kd.Q_mono (ok' := fun k_ => some k_ ≠ (v247 : Value).ownBlock ∧ some k_ ≠ (v250 : Value).ownBlock) (Kd.Q_keptB ((Kd.Q_types HO244.out BK218.out (by decide))) hkp (fun k_ hk_ hs_ => Or.elim hs_ (fun hs_ => (hk_.1) hs_) (fun e_ => (hk_.2) e_))) (fun k_ hk_ => ⟨fun e_ => Or.elim (ho0.1 k_ e_.symm).1 (fun hs_ => hk_.2.1 (.inl hs_)) (fun hn_ => Nat.not_le.2 hk_.2.2 hn_), fun e_ => Or.elim (ho1.1 k_ e_.symm).1 (fun hs_ => hk_.2.1 (.inl hs_)) (fun hn_ => Nat.not_le.2 hk_.2.2 hn_)⟩))
           have n3_ := Goto.m0 (Kd.R_mono (ok' := fun k_ => some k_ ≠ (v250 : Value).ownBlock ∧ some k_ ≠ (v243 : Value).ownBlock) ho0 (fun k_ hk_ => ⟨hk_.2, Or.elim hk_.1 (fun hs_ => fun e_ => ((((Kd.Q_types HO244.out BK218.out (by decide))).1 k_ e_.symm).1) hs_) (fun hn_ => (Kd.fresh' (Kd.Q_lt (by (with_reducible repeat (first | apply Kd.Q_alloc | apply Kd.Q_drewN | apply Kd.Q_drew)); exact HO244.out)) k_ hn_))⟩))
           have n4_ := Goto.m0 (Kd.R_mono (ok' := fun k_ => some k_ ≠ (v247 : Value).ownBlock ∧ some k_ ≠ (v243 : Value).ownBlock) ho1 (fun k_ hk_ => ⟨hk_.2, Or.elim hk_.1 (fun hs_ => fun e_ => ((((Kd.Q_types HO244.out BK218.out (by decide))).1 k_ e_.symm).1) hs_) (fun hn_ => (Kd.fresh' (Kd.Q_lt (by (with_reducible repeat (first | apply Kd.Q_alloc | apply Kd.Q_drewN | apply Kd.Q_drew)); exact HO244.out)) k_ hn_))⟩))
           have n5_ := Goto.m0 (hb)
           clear BK218; clear BK224; clear HO244; clear HB; clear HO235; have BK218 := n0_; have BK224 := n1_; have HO244 := n2_; have HO248 := n3_; have HO251 := n4_; have HB := n5_; clear n0_ n1_ n2_ n3_ n4_ n5_
           (try clear hb)
           (try clear hkp)
           (try clear ho0)
           (try clear ho1)
           obtain ⟨Ao42, co42, eo42⟩ := Kd.R_slice HO248.out
           (first | subst eo42 | (injection eo42 with f1_ f2_ f3_; have f4_ := f1_.symm; have f5_ := f3_.symm; clear f1_ f2_ f3_; subst f4_; subst f5_))
           obtain ⟨Ao43, co43, eo43, _⟩ := Kd.Q_slice HO244.out
           (first | subst eo43 | (injection eo43 with f1_ f2_ f3_; have f4_ := f1_.symm; have f5_ := f3_.symm; clear f1_ f2_ f3_; subst f4_; subst f5_))
           refine hK.out _ _ ⟨(blk_cell BK224.out 0).trans rfl, (blk_cell BK224.out 1).trans rfl, (blk_cell BK224.out 2).trans rfl⟩ (fun hHeld => ?_)
           clear hK K
           refine norm_ (a' := ?_) ?_ ?_
           rotate_left
           ·
            show Act.put _ (some 70) _ = _
            exact Goto.ap
           refine one_ (i := 6) (N := some 75) (Goto.bs 32 127) rfl rfl (one_of HT_.out (by kernel_rfl)) (by decide) (fun K hK => ?_)
           refine goes_ Try.func31 (by kernel_rfl) rfl #[.slice Ao42 t246.length co42, .slice Ao43 t242.length co43] (by rfl) rfl rfl (by (try simp only [List.map_toArray, List.map_cons, List.map_nil]); first | done | rfl | (simp only [List.length_drop, List.length_take]; rfl)) ?_
           with_reducible refine (tontineref15_SameRecords.calls k2 _ _ t246 _ _ t242 false _ ?side1 ?side2 ?side3 ?side4 A24.out).mono ?_
           (case side1 => repeat (first | exact (Kd.R_reads' HO248.out).2.2 | (with_reducible refine Kd.C_alloc ?_ _) | (with_reducible refine Kd.C_drewN ?_ _) | (with_reducible refine Kd.C_drew ?_)))
           (case side2 => exact (Kd.R_reads' HO248.out).2.1)
           (case side3 => repeat (first | exact (Kd.Q_reads' HO244.out).2.2 | (with_reducible refine Kd.C_alloc ?_ _) | (with_reducible refine Kd.C_drewN ?_ _) | (with_reducible refine Kd.C_drew ?_)))
           (case side4 => exact (Kd.Q_reads' HO244.out).2.1)
           rintro e w' ⟨rfl, ⟨nd, rfl⟩⟩
           refine ⟨_, rfl, ?_⟩
           refine hK.out _ _ ⟨(blk_cell BK224.out 0).trans rfl, (blk_cell BK224.out 1).trans rfl, (blk_cell BK224.out 2).trans rfl⟩ (fun hHeld => ?_)
           clear hK K
           refine norm_ (a' := ?_) ?_ ?_
           rotate_left
           ·
            show Act.put _ (some 75) _ = _
            exact Goto.ap
           refine pure_ (i := 7) (N := some 76) (v := ?_) (a' := ?_) (Goto.bs 32 255) rfl rfl (any_of HT_.out (by kernel_rfl)) (fun _ _ _ h => h) (Or.inl ⟨by rfl, ?_⟩) ?_ ?_
           rotate_left
           ·
            intro w'
            go_simp
            with_reducible rfl
           rotate_left
           ·
            exact Goto.ap
           refine pure_ (i := 8) (N := some 77) (v := ?_) (a' := ?_) (Goto.bs 32 511) rfl rfl (any_of HT_.out (by kernel_rfl)) (fun _ _ _ h => h) (Or.inl ⟨by rfl, ?_⟩) ?_ ?_
           rotate_left
           ·
            intro w'
            go_simp
            with_reducible rfl
           rotate_left
           ·
            exact Goto.ap
           refine pure_ (i := 9) (N := some 78) (v := undef) (a' := ?_) (Goto.bs 32 1023) rfl rfl (any_of HT_.out (by kernel_rfl)) (fun _ _ _ h => h) (Or.inr ⟨by rfl, rfl⟩) ?_ ?_
           rotate_left
           ·
            exact Goto.ap
           refine pure_ (i := 10) (N := some 79) (v := undef) (a' := ?_) (Goto.bs 32 2047) rfl rfl (any_of HT_.out (by kernel_rfl)) (fun _ _ _ h => h) (Or.inr ⟨by rfl, rfl⟩) ?_ ?_
           rotate_left
           ·
            exact Goto.ap
           refine pure_ (i := 11) (N := some 80) (v := undef) (a' := ?_) (Goto.bs 32 4095) rfl rfl (any_of HT_.out (by kernel_rfl)) (fun _ _ _ h => h) (Or.inr ⟨by rfl, rfl⟩) ?_ ?_
           rotate_left
           ·
            exact Goto.ap
           refine pure_ (i := 12) (N := some 81) (v := undef) (a' := ?_) (Goto.bs 32 8191) rfl rfl (any_of HT_.out (by kernel_rfl)) (fun _ _ _ h => h) (Or.inr ⟨by rfl, rfl⟩) ?_ ?_
           rotate_left
           ·
            exact Goto.ap
           refine pure_ (i := 13) (N := some 82) (v := undef) (a' := ?_) (Goto.bs 32 16383) rfl rfl (any_of HT_.out (by kernel_rfl)) (fun _ _ _ h => h) (Or.inr ⟨by rfl, rfl⟩) ?_ ?_
           rotate_left
           ·
            exact Goto.ap
           refine pure_ (i := 14) (N := some 83) (v := undef) (a' := ?_) (Goto.bs 32 32767) rfl rfl (any_of HT_.out (by kernel_rfl)) (fun _ _ _ h => h) (Or.inr ⟨by rfl, rfl⟩) ?_ ?_
           rotate_left
           ·
            exact Goto.ap
           refine pure_ (i := 15) (N := some 84) (v := undef) (a' := ?_) (Goto.bs 32 65535) rfl rfl (any_of HT_.out (by kernel_rfl)) (fun _ _ _ h => h) (Or.inr ⟨by rfl, rfl⟩) ?_ ?_
           rotate_left
           ·
            exact Goto.ap
           refine pure_ (i := 16) (N := some 85) (v := ?_) (a' := ?_) (Goto.bs 32 131071) rfl rfl (any_of HT_.out (by kernel_rfl)) (fun _ _ _ h => h) (Or.inl ⟨by rfl, ?_⟩) ?_ ?_
           rotate_left
           ·
            intro w'
            go_simp
            with_reducible rfl
           rotate_left
           ·
            exact Goto.ap
           refine pure_ (i := 17) (N := some 86) (v := ?_) (a' := ?_) (Goto.bs 32 262143) rfl rfl (any_of HT_.out (by kernel_rfl)) (fun _ _ _ h => h) (Or.inl ⟨by rfl, ?_⟩) ?_ ?_
           rotate_left
           ·
            intro w'
            go_simp
            with_reducible rfl
           rotate_left
           ·
            exact Goto.ap
           refine pure_ (i := 18) (N := some 87) (v := undef) (a' := ?_) (Goto.bs 32 524287) rfl rfl (any_of HT_.out (by kernel_rfl)) (fun _ _ _ h => h) (Or.inr ⟨by rfl, rfl⟩) ?_ ?_
           rotate_left
           ·
            exact Goto.ap
           refine pure_ (i := 19) (N := some 88) (v := undef) (a' := ?_) (Goto.bs 32 1048575) rfl rfl (any_of HT_.out (by kernel_rfl)) (fun _ _ _ h => h) (Or.inr ⟨by rfl, rfl⟩) ?_ ?_
           rotate_left
           ·
            exact Goto.ap
           refine pure_ (i := 20) (N := some 89) (v := undef) (a' := ?_) (Goto.bs 32 2097151) rfl rfl (any_of HT_.out (by kernel_rfl)) (fun _ _ _ h => h) (Or.inr ⟨by rfl, rfl⟩) ?_ ?_
           rotate_left
           ·
            exact Goto.ap
           refine pure_ (i := 21) (N := some 90) (v := undef) (a' := ?_) (Goto.bs 32 4194303) rfl rfl (any_of HT_.out (by kernel_rfl)) (fun _ _ _ h => h) (Or.inr ⟨by rfl, rfl⟩) ?_ ?_
           rotate_left
           ·
            exact Goto.ap
           refine pure_ (i := 22) (N := some 91) (v := undef) (a' := ?_) (Goto.bs 32 8388607) rfl rfl (any_of HT_.out (by kernel_rfl)) (fun _ _ _ h => h) (Or.inr ⟨by rfl, rfl⟩) ?_ ?_
           rotate_left
           ·
            exact Goto.ap
           refine pure_ (i := 23) (N := some 92) (v := undef) (a' := ?_) (Goto.bs 32 16777215) rfl rfl (any_of HT_.out (by kernel_rfl)) (fun _ _ _ h => h) (Or.inr ⟨by rfl, rfl⟩) ?_ ?_
           rotate_left
           ·
            exact Goto.ap
           refine pure_ (i := 24) (N := some 93) (v := undef) (a' := ?_) (Goto.bs 32 33554431) rfl rfl (any_of HT_.out (by kernel_rfl)) (fun _ _ _ h => h) (Or.inr ⟨by rfl, rfl⟩) ?_ ?_
           rotate_left
           ·
            exact Goto.ap
           refine pure_ (i := 25) (N := some 94) (v := undef) (a' := ?_) (Goto.bs 32 67108863) rfl rfl (any_of HT_.out (by kernel_rfl)) (fun _ _ _ h => h) (Or.inr ⟨by rfl, rfl⟩) ?_ ?_
           rotate_left
           ·
            exact Goto.ap
           refine pure_ (i := 26) (N := some 95) (v := undef) (a' := ?_) (Goto.bs 32 134217727) rfl rfl (any_of HT_.out (by kernel_rfl)) (fun _ _ _ h => h) (Or.inr ⟨by rfl, rfl⟩) ?_ ?_
           rotate_left
           ·
            exact Goto.ap
           refine pure_ (i := 27) (N := some 96) (v := undef) (a' := ?_) (Goto.bs 32 268435455) rfl rfl (any_of HT_.out (by kernel_rfl)) (fun _ _ _ h => h) (Or.inr ⟨by rfl, rfl⟩) ?_ ?_
           rotate_left
           ·
            exact Goto.ap
           refine pure_ (i := 28) (N := some 97) (v := undef) (a' := ?_) (Goto.bs 32 536870911) rfl rfl (any_of HT_.out (by kernel_rfl)) (fun _ _ _ h => h) (Or.inr ⟨by rfl, rfl⟩) ?_ ?_
           rotate_left
           ·
            exact Goto.ap
           refine pure_ (i := 29) (N := some 98) (v := undef) (a' := ?_) (Goto.bs 32 1073741823) rfl rfl (any_of HT_.out (by kernel_rfl)) (fun _ _ _ h => h) (Or.inr ⟨by rfl, rfl⟩) ?_ ?_
           rotate_left
           ·
            exact Goto.ap
           refine pure_ (i := 30) (N := some 99) (v := undef) (a' := ?_) (Goto.bs 32 2147483647) rfl rfl (any_of HT_.out (by kernel_rfl)) (fun _ _ _ h => h) (Or.inr ⟨by rfl, rfl⟩) ?_ ?_
           rotate_left
           ·
            exact Goto.ap
           refine pure_ (i := 31) (N := some 100) (v := ?_) (a' := ?_) (Goto.bs 32 4294967295) rfl rfl (any_of HT_.out (by kernel_rfl)) (fun _ _ _ h => h) (Or.inl ⟨by rfl, ?_⟩) ?_ ?_
           rotate_left
           ·
            intro w'
            go_simp
            with_reducible rfl
           rotate_left
           ·
            exact Goto.ap
           refine done_ (done_of HT_.out (by kernel_rfl)) ?_
           try go_wp2
           go_meet
           case rel => exact ⟨_, (true), (t249), (t252), (t253), (v250), (by first | rfl | (simp; done) | (simp [*]; done)), H', ⟨by have := HJ5.out; have := HK2.out; first | omega | exact Nat.le_refl _⟩, ⟨by (with_reducible repeat (first | apply Kd.R_alloc | apply Kd.R_drewN | apply Kd.R_drew)); exact Kd.R_mono HO251.out (fun _ hk => hk.2)⟩, ⟨by (with_reducible repeat (first | apply Kd.Q_alloc | apply Kd.Q_drewN | apply Kd.Q_drew)); exact Kd.Q_mono HO244.out (fun _ hk => hk.2)⟩, ⟨Goto.bx BK218⟩, ⟨Goto.bx BK224⟩, ⟨Goto.hx HB⟩⟩
         case rest =>
          clear HC18; try clear c2; try clear p2; try clear c3; try clear p6; try clear c25; try clear c27; try clear c27b0; try clear c27b1; try clear c31; try clear c32; try clear c33
          obtain ⟨kq, x100_17, x219000_17, x219001_17, x219002_17, u219000, rfl, HA, HJ17, HO_219000, HO_225001, BK218, BK224, HB⟩ := hcut
          cases kq with
          | zero => exact absurd HA.out (by simp [tontinelaw18_RingPlays.j2])
          | succ kj17 =>
           have H := HA.out; clear HA
           simp only [tontinelaw18_RingPlays.j2] at H
           by_cases c44 : x100_17 = true
           ·
            subst c44
            rw [if_pos rfl] at H
            exact absurd ((Option.some.inj H).trans HRT.out) (by decide)
           ·
            replace c44 := Bool.eq_false_iff.mpr c44
            subst c44
            rw [if_neg (show ¬ (false = true) by decide)] at H
            have H' := Goto.m0 H
            clear H
            go_wp2
            go_loopg [10] kj17 (fun kq v10 w' => ∃ (x10_4 : Int) (x219000_4 : List (S43)) (x219001_4 : Int) (x219002_4 : Int) (x225000_4 : Int) (x225001_4 : List (S43)) (x225002_4 : Int) (u219000 : Value) (u225001 : Value), v10 = .int .i64 x10_4 ∧ Aside0 (tontinelaw18_RingPlays.l1 kq l1 l2 x9_2 x10_4 x219000_4 x219001_4 x219002_4 x225000_4 x225001_4 x225002_4 = some r) ∧ Aside0 (kq ≤ kj17) ∧ Aside0 (Kd.R k43 43 w' w.heap.size (fun k_ => some k_ ≠ (u225001 : Value).ownBlock) u219000 x219000_4) ∧ Aside0 (Kd.Q k43 43 w' w.heap.size (fun k_ => some k_ ≠ (u219000 : Value).ownBlock) u225001 x225001_4) ∧ Aside0 (w'.heap[gb218]? = some (.cells #[u219000, .int .i64 x219001_4, .int .i64 x219002_4] 79 (0, 0))) ∧ Aside0 (w'.heap[gb224]? = some (.cells #[.int .i64 x225000_4, u225001, .int .i64 x225002_4] 47 (0, 0))) ∧ Aside0 (Below w.heap.size w w'))
            case atStart => exact ⟨(0), (x219000_17), (x219001_17), (x219002_17), (t241), (t242), (t245), (u219000), (v243), (by first | rfl | (simp; done) | (simp [*]; done)), H', ⟨Nat.le_refl _⟩, ⟨by (with_reducible repeat (first | apply Kd.R_alloc | apply Kd.R_drewN | apply Kd.R_drew)); exact HO_219000.out⟩, ⟨by (with_reducible repeat (first | apply Kd.Q_alloc | apply Kd.Q_drewN | apply Kd.Q_drew)); exact HO_225001.out⟩, ⟨Goto.bx BK218⟩, ⟨Goto.bx BK224⟩, ⟨Goto.hx HB⟩⟩
            case round =>
             clear H'
             try clear c2; try clear p2; try clear c3; try clear c4; try clear p6; try clear c25; try clear c27; try clear c27b0; try clear c27b1; try clear c31; try clear c32; try clear c33; try clear c44; try clear p2; try clear p6
             obtain ⟨x10_4, x219000_4, x219001_4, x219002_4, x225000_4, x225001_4, x225002_4, u219000, u225001, rfl, HA, HK4, HO_219000, HO_225001, BK218, BK224, HB⟩ := hrel
             cases gk with
             | zero => exact absurd HA.out (by simp [tontinelaw18_RingPlays.l1])
             | succ k4 =>
              have H := HA.out; clear HA
              simp only [tontinelaw18_RingPlays.l1] at H
              by_cases c45 : x10_4 < (l2.length : Int)
              ·
               rw [if_pos c45] at H
               have c45b0 : decide (x10_4 < (l2.length : Int)) = true := decide_eq_true c45
               clear c45
               by_cases c46 : 0 ≤ x10_4
               ·
                rw [if_pos c46] at H
                have c46b0 : decide (0 ≤ x10_4) = true := decide_eq_true c46
                clear c46
                replace H := Option.bind_eq_some_iff.mp H
                obtain ⟨⟨t268, t269, t270, t271, t272, t273, t276, t277⟩, A470, H⟩ := H
                replace H : ((tontineref15_Ring_From.f k4 x225000_4 x225001_4 x225002_4 (rd l2 x10_4)).bind fun bt280 => (if (!(t268 == bt280.1) || (!(t269 == bt280.2.1) || (!(t270 == bt280.2.2.1) || (!(t271 == bt280.2.2.2.1))))) = true then (some false) else (if (t272 != bt280.2.2.2.2.1) = true then (some false) else (tontinelaw18_RingPlays.l1 k4 l1 l2 x9_2 (wrap64 (x10_4 + 1)) t273 t276 t277 bt280.2.2.2.2.2.1 bt280.2.2.2.2.2.2.1 bt280.2.2.2.2.2.2.2)))) = some r := H
                have A47 := Goto.m0 A470
                clear A470
                replace H := Option.bind_eq_some_iff.mp H
                obtain ⟨⟨t280, t281, t282, t283, t284, t285, t286, t289⟩, A480, H⟩ := H
                replace H : (if (!(t268 == t280) || (!(t269 == t281) || (!(t270 == t282) || (!(t271 == t283))))) = true then (some false) else (if (t272 != t284) = true then (some false) else (tontinelaw18_RingPlays.l1 k4 l1 l2 x9_2 (wrap64 (x10_4 + 1)) t273 t276 t277 t285 t286 t289))) = some r := H
                have A48 := Goto.m0 A480
                clear A480
                by_cases c49 : (!(t268 == t280) || (!(t269 == t281) || (!(t270 == t282) || (!(t271 == t283))))) = true
                ·
                 rw [if_pos c49] at H
                 have c49b0 : (!(t268 == t280) || (!(t269 == t281) || (!(t270 == t282) || (!(t271 == t283))))) = true := c49
                 clear c49
                 exact absurd ((Option.some.inj H).trans HRT.out) (by decide)
                ·
                 rw [if_neg c49] at H
                 have c49b0 : (!(t268 == t280) || (!(t269 == t281) || (!(t270 == t282) || (!(t271 == t283))))) = false := by simpa using c49
                 clear c49
                 by_cases c50 : (t272 != t284) = true
                 ·
                  rw [if_pos c50] at H
                  have c50b0 : (t272 != t284) = true := c50
                  (try (have c50b1 : decide (t272 = t284) = false := by simpa using c50))
                  (try (have c50b2 : (t272 == t284) = false := by simpa using c50))
                  (try (have c50b3 : ¬ (t272 = t284) := by simpa using c50))
                  clear c50
                  exact absurd ((Option.some.inj H).trans HRT.out) (by decide)
                 ·
                  rw [if_neg c50] at H
                  have c50b0 : (t272 != t284) = false := by simpa using c50
                  (try (have c50b1 : decide (t272 = t284) = true := by simpa using c50))
                  (try (have c50b2 : (t272 == t284) = true := by simpa using c50))
                  clear c50
                  have H' := Goto.m0 H
                  clear H
                  have p267 : 0 ≤ (x10_4 : Int) := of_decide_eq_true (by first | (with_reducible assumption) | assumption)
                  have q267 : x10_4 < (l2.length : Int) := of_decide_eq_true (by first | (with_reducible assumption) | assumption)
                  obtain ⟨ad267, e267, hx267_0⟩ := Kd.at_int HR2.out x10_4 p267 q267
                  cases e267
                  replace hx267_0 := Goto.kc HB.out hx267_0
                  replace p267 := eq_true p267; replace q267 := eq_true q267
                  go_wp2_with (first | ((with_reducible refine gate_callee (f := 35) rfl ?_); refine goesL_ (some 113) rfl rfl Try.func35 (by kernel_rfl) rfl #[.pointer (some ⟨gb218, 0, none⟩), .int .i64 (rd l2 x10_4)] rfl (by (try simp only [List.map_toArray, List.map_cons, List.map_nil]); first | done | rfl | (simp only [List.length_drop, List.length_take]; rfl)) ?_; (with_reducible refine (ring_Ring_From.calls k4 gb218 (fun k_ => some k_ = (u219000 : Value).ownBlock) u219000 x219000_4 x219001_4 x219002_4 (rd l2 x10_4) t268 t269 t270 t271 t272 t273 t276 t277 w _ ?side1 ?side2 ?side3 ?side4 A47.out).mono ?_); (case side1 => exact by (with_reducible repeat first | refine blk_drewN ?_ _ | refine blk_drew ?_ | refine blk_alloc ?_ _); exact BK218.out); (case side2 => exact GE218.out); (case side3 => repeat (first | (with_reducible first | exact HB.out | apply below_alloc | apply pw_below_drewN | apply below_drew1 | refine below_set ?_ GE218.out | refine below_set ?_ GE224.out) | exact HB.out)); (case side4 => exact Kd.R_tight rfl HO_219000.out); rintro e w51 ⟨v274, rfl, ho0, hi, hb, hkp⟩; refine ⟨_, rfl, ?_⟩; have n0_ := Goto.m0 (Kd.Q_mono (ok' := fun k_ => some k_ ≠ (v274 : Value).ownBlock) (Kd.Q_keptB ((Kd.Q_types HO_225001.out BK218.out (by decide))) hkp (fun k_ hk_ hs_ => Or.elim hs_ (fun hs_ => (hk_.1) hs_) (fun e_ => (hk_.2) e_))) (fun k_ hk_ => fun e_ => Or.elim (ho0.1 k_ e_.symm) (fun hs_ => hk_.2.1 (.inl hs_)) (fun hn_ => Nat.not_le.2 hk_.2.2 hn_))); have n1_ := Goto.m0 (hi); have n2_ := Goto.m0 (blk_kept (Goto.bx BK224) hkp (fun hs_ => Or.elim hs_ (fun hs_ => (fun e_ => (Kd.R_ne HO_219000.out BK224.out (by decide)) e_) hs_) (fun e_ => NB224_218.out e_))); have n3_ := Goto.m0 (Kd.R_mono (ok' := fun k_ => some k_ ≠ (u225001 : Value).ownBlock) ho0 (fun k_ hk_ => Or.elim hk_ (fun hs_ => fun e_ => ((((Kd.Q_types HO_225001.out BK218.out (by decide))).1 k_ e_.symm).1) hs_) (fun hn_ => (Kd.fresh' (Kd.Q_lt (by (with_reducible repeat (first | apply Kd.Q_alloc | apply Kd.Q_drewN | apply Kd.Q_drew)); exact HO_225001.out)) k_ hn_)))); have n4_ := Goto.m0 (hb); clear HO_225001; clear BK218; clear BK224; clear HB; clear HO_219000; have HO_225001 := n0_; have BK218 := n1_; have BK224 := n2_; have HO275 := n3_; have HB := n4_; clear n0_ n1_ n2_ n3_ n4_; (try clear hb); (try clear hkp); (try clear ho0)) | ((with_reducible refine gate_dst (N := 11) rfl ?_); (try (refine gate_guard (by rfl) ?_; dsimp only)); refine box_event ?hg (N := 11) ?hd (cs := #[.int .i64 0, .int .i64 0, .int .i64 0, .int .i64 0]) (t := 43) ?hr ?_; (case hd => rfl); (case hg => rfl); (case hr => first | (go_simp; done) | (go_simp; rfl)); intro gb278 hg w52 hbox hb; have BK278 := Goto.m0 (hbox); have GW278 := Goto.gs HB hg; have GE278 := Goto.gs HB hg; have NB218_278 := Goto.nl BK218 hg; have NB278_218 := Goto.nr BK218 hg; have NB224_278 := Goto.nl BK224 hg; have NB278_224 := Goto.nr BK224 hg; replace HO_225001 := Goto.m0 (Kd.Q_below (Kd.Q_elderB (by (with_reducible repeat (first | apply Kd.Q_alloc | apply Kd.Q_drewN | apply Kd.Q_drew)); exact HO_225001.out) gb278 (Nat.le_of_eq hg.symm)) hb); replace HO275 := Goto.m0 (Kd.R_below (Kd.R_elderB (by (with_reducible repeat (first | apply Kd.R_alloc | apply Kd.R_drewN | apply Kd.R_drew)); exact HO275.out) gb278 (Nat.le_of_eq hg.symm)) hb); replace BK218 := Goto.bb BK218 hb; replace BK224 := Goto.bb BK224 hb; replace HB := Goto.hs HB hb; clear hb hbox hg; have hnb53 := NB278_218.out; have hnc53 := NB218_278.out; have hnb54 := NB278_224.out; have hnc54 := NB224_278.out; have hcz55_0 : w52.cell? ⟨gb278, 0, none⟩ = some (.int .i64 0) := (blk_cell BK278.out 0).trans rfl; have hcz55_1 : w52.cell? ⟨gb278, 1, none⟩ = some (.int .i64 0) := (blk_cell BK278.out 1).trans rfl; have hcz55_2 : w52.cell? ⟨gb278, 2, none⟩ = some (.int .i64 0) := (blk_cell BK278.out 2).trans rfl; have hcz55_3 : w52.cell? ⟨gb278, 3, none⟩ = some (.int .i64 0) := (blk_cell BK278.out 3).trans rfl; have hfz55_0 := blk_frozen BK278.out 0; have hfz55_1 := blk_frozen BK278.out 1; have hfz55_2 := blk_frozen BK278.out 2; have hfz55_3 := blk_frozen BK278.out 3) | ((with_reducible refine gate_store (t := 43) (p := 11) rfl ?_); refine store_event (t := 43) (p := 11) (v := ?vo_w56) (w1 := ((((w52.setCell ⟨gb278, 0, none⟩ (.int .i64 t268)).setCell ⟨gb278, 1, none⟩ (.int .i64 t269)).setCell ⟨gb278, 2, none⟩ (.int .i64 t270)).setCell ⟨gb278, 3, none⟩ (.int .i64 t271))) ?hg ?ho ?hn ?hr ?_; (case ho => rfl); (case hg => rfl); (case hn => rfl); (case hr => first | (go_simp; done) | (go_simp; rfl)); intro w56 hw; have n0_ : Aside0 (Kd.Q k43 43 w56 w.heap.size (fun k_ => some k_ ≠ (v274 : Value).ownBlock ∧ k_ ≠ gb278) u225001 x225001_4) := ⟨(by rw [hw]; exact (by (with_reducible repeat (first | apply Kd.Q_alloc | apply Kd.Q_drewN | apply Kd.Q_drew)); exact Kd.Q_mono (Kd.Q_far (p := ⟨gb278, 3, none⟩) (Kd.Q_far (p := ⟨gb278, 2, none⟩) (Kd.Q_far (p := ⟨gb278, 1, none⟩) (Kd.Q_far (p := ⟨gb278, 0, none⟩) (Kd.Q_mono HO_225001.out (fun k_ hk => (⟨hk, hk.2⟩ : _ ∧ k_ ≠ gb278))) (fun _ hk => hk.2) (.int .i64 t268)) (fun _ hk => hk.2) (.int .i64 t269)) (fun _ hk => hk.2) (.int .i64 t270)) (fun _ hk => hk.2) (.int .i64 t271)) (fun _ hk => ⟨hk.1.1, hk.1.2⟩)))⟩; have n1_ : Aside0 (Kd.R k43 43 w56 w.heap.size (fun k_ => some k_ ≠ (u225001 : Value).ownBlock ∧ k_ ≠ gb278) v274 t273) := ⟨(by rw [hw]; exact (by (with_reducible repeat (first | apply Kd.R_alloc | apply Kd.R_drewN | apply Kd.R_drew)); exact Kd.R_mono (Kd.R_far (p := ⟨gb278, 3, none⟩) (Kd.R_far (p := ⟨gb278, 2, none⟩) (Kd.R_far (p := ⟨gb278, 1, none⟩) (Kd.R_far (p := ⟨gb278, 0, none⟩) (Goto.nx gb278 HO275.out (fun k_ hk => hk.2)) (fun _ hk => hk.2) (.int .i64 t268)) (fun _ hk => hk.2) (.int .i64 t269)) (fun _ hk => hk.2) (.int .i64 t270)) (fun _ hk => hk.2) (.int .i64 t271)) (fun _ hk => ⟨hk.1.1, hk.1.2⟩)))⟩; have n2_ : Aside0 (w56.heap[gb218]? = some (.cells #[v274, .int .i64 t276, .int .i64 t277] 79 (0, 0))) := ⟨(by rw [hw]; exact (Goto.bx BK218))⟩; have n3_ : Aside0 (w56.heap[gb224]? = some (.cells #[.int .i64 x225000_4, u225001, .int .i64 x225002_4] 47 (0, 0))) := ⟨(by rw [hw]; exact (Goto.bx BK224))⟩; have n4_ : Aside0 (w56.heap[gb278]? = some (.cells #[.int .i64 t268, .int .i64 t269, .int .i64 t270, .int .i64 t271] 43 (0, 0))) := ⟨(by rw [hw]; exact (Goto.bx BK278))⟩; have n5_ : Aside0 (Below w.heap.size w w56) := ⟨(by rw [hw]; exact (Goto.hx HB))⟩; clear hw; clear HO_225001; clear HO275; clear BK218; clear BK224; clear BK278; clear HB; have HO_225001 := n0_; have HO275 := n1_; have BK218 := n2_; have BK224 := n3_; have BK278 := n4_; have HB := n5_; clear n0_ n1_ n2_ n3_ n4_ n5_; have p279 : 0 ≤ (x10_4 : Int) := of_decide_eq_true (by first | (with_reducible assumption) | assumption); have q279 : x10_4 < (l2.length : Int) := of_decide_eq_true (by first | (with_reducible assumption) | assumption); obtain ⟨ad279, e279, hx279_0⟩ := Kd.at_int HR2.out x10_4 p279 q279; obtain rfl : ad267 = ad279 := (by injection e279); replace hx279_0 := Goto.kc HB.out hx279_0; replace p279 := eq_true p279; replace q279 := eq_true q279) | ((with_reducible refine gate_callee (f := 36) rfl ?_); refine goesL_ (some 122) rfl rfl Try.func36 (by kernel_rfl) rfl #[.pointer (some ⟨gb224, 0, none⟩), .int .i64 (rd l2 x10_4)] rfl (by (try simp only [List.map_toArray, List.map_cons, List.map_nil]); first | done | rfl | (simp only [List.length_drop, List.length_take]; rfl)) ?_; (with_reducible refine (tontineref15_Ring_From.calls k4 gb224 x225000_4 (fun k_ => some k_ = (u225001 : Value).ownBlock) u225001 x225001_4 x225002_4 (rd l2 x10_4) t280 t281 t282 t283 t284 t285 t286 t289 w _ ?side1 ?side2 ?side3 ?side4 A48.out).mono ?_); (case side1 => exact by (with_reducible repeat first | refine blk_drewN ?_ _ | refine blk_drew ?_ | refine blk_alloc ?_ _); exact BK224.out); (case side2 => exact GE224.out); (case side3 => repeat (first | (with_reducible first | exact HB.out | apply below_alloc | apply pw_below_drewN | apply below_drew1 | refine below_set ?_ GE218.out | refine below_set ?_ GE224.out | refine below_set ?_ GE278.out) | exact HB.out)); (case side4 => exact Goto.Q_tight rfl (HO_225001.out)); rintro e w57 ⟨v287, rfl, ho0, hi, hb, hkp⟩; refine ⟨_, rfl, ?_⟩; have n0_ := Goto.m0 (blk_kept (Goto.bx BK218) hkp (fun hs_ => Or.elim hs_ (fun hs_ => (fun e_ => (Kd.Q_ne HO_225001.out BK218.out (by decide)) e_) hs_) (fun e_ => NB218_224.out e_))); have n1_ := Goto.m0 (hi); have n2_ := Goto.m0 (Kd.R_mono (ok' := fun k_ => k_ ≠ gb278 ∧ some k_ ≠ (v287 : Value).ownBlock) (Kd.R_keptB ((Kd.R_types HO275.out BK224.out (by decide))) hkp (fun k_ hk_ hs_ => Or.elim hs_ (fun hs_ => (hk_.1.1) hs_) (fun e_ => (hk_.2) e_))) (fun k_ hk_ => ⟨hk_.1.1.2, fun e_ => Or.elim (ho0.1 k_ e_.symm) (fun hs_ => hk_.2.1 (.inl hs_)) (fun hn_ => Nat.not_le.2 hk_.2.2 hn_)⟩)); have n3_ := Goto.m0 (blk_kept (Goto.bx BK278) hkp (fun hs_ => Or.elim hs_ (fun hs_ => (fun e_ => (Kd.Q_away HO_225001.out (fun _ hk => hk.2)) e_) hs_) (fun e_ => NB278_224.out e_))); have n4_ := Goto.m0 (Kd.Q_mono (ok' := fun k_ => some k_ ≠ (v274 : Value).ownBlock ∧ k_ ≠ gb278) ho0 (fun k_ hk_ => ⟨Or.elim hk_ (fun hs_ => fun e_ => ((((Kd.R_types HO275.out BK224.out (by decide))).1 k_ e_.symm).1.1) hs_) (fun hn_ => (Kd.fresh' (Kd.R_lt (by (with_reducible repeat (first | apply Kd.R_alloc | apply Kd.R_drewN | apply Kd.R_drew)); exact HO275.out)) k_ hn_)), Or.elim hk_ (fun hs_ => fun e_ => (Kd.Q_away HO_225001.out (fun _ hk => hk.2)) (by rw [← e_]; exact hs_)) (fun hn_ => (Kd.freshB (g := gb278) (o := .cells #[.int .i64 t268, .int .i64 t269, .int .i64 t270, .int .i64 t271] 43 (0, 0)) (Goto.bx BK278) k_ hn_))⟩)); have n5_ := Goto.m0 (hb); clear BK218; clear BK224; clear HO275; clear BK278; clear HB; clear HO_225001; have BK218 := n0_; have BK224 := n1_; have HO275 := n2_; have BK278 := n3_; have HO288 := n4_; have HB := n5_; clear n0_ n1_ n2_ n3_ n4_ n5_; (try clear hb); (try clear hkp); (try clear ho0)) | ((with_reducible refine gate_dst (N := 13) rfl ?_); (try (refine gate_guard (by rfl) ?_; dsimp only)); refine box_event ?hg (N := 13) ?hd (cs := #[.int .i64 0, .int .i64 0, .int .i64 0, .int .i64 0]) (t := 43) ?hr ?_; (case hd => rfl); (case hg => rfl); (case hr => first | (go_simp; done) | (go_simp; rfl)); intro gb290 hg w58 hbox hb; have BK290 := Goto.m0 (hbox); have GW290 := Goto.gs HB hg; have GE290 := Goto.gs HB hg; have NB218_290 := Goto.nl BK218 hg; have NB290_218 := Goto.nr BK218 hg; have NB224_290 := Goto.nl BK224 hg; have NB290_224 := Goto.nr BK224 hg; have NB278_290 := Goto.nl BK278 hg; have NB290_278 := Goto.nr BK278 hg; replace HO275 := Goto.m0 (Kd.R_below (Kd.R_elderB (by (with_reducible repeat (first | apply Kd.R_alloc | apply Kd.R_drewN | apply Kd.R_drew)); exact HO275.out) gb290 (Nat.le_of_eq hg.symm)) hb); replace HO288 := Goto.m0 (Kd.Q_below (Kd.Q_elderB (by (with_reducible repeat (first | apply Kd.Q_alloc | apply Kd.Q_drewN | apply Kd.Q_drew)); exact HO288.out) gb290 (Nat.le_of_eq hg.symm)) hb); replace BK218 := Goto.bb BK218 hb; replace BK224 := Goto.bb BK224 hb; replace BK278 := Goto.bb BK278 hb; replace HB := Goto.hs HB hb; clear hb hbox hg; have hnb59 := NB290_218.out; have hnc59 := NB218_290.out; have hnb60 := NB290_224.out; have hnc60 := NB224_290.out; have hnb61 := NB290_278.out; have hnc61 := NB278_290.out; have hcz62_0 : w58.cell? ⟨gb290, 0, none⟩ = some (.int .i64 0) := (blk_cell BK290.out 0).trans rfl; have hcz62_1 : w58.cell? ⟨gb290, 1, none⟩ = some (.int .i64 0) := (blk_cell BK290.out 1).trans rfl; have hcz62_2 : w58.cell? ⟨gb290, 2, none⟩ = some (.int .i64 0) := (blk_cell BK290.out 2).trans rfl; have hcz62_3 : w58.cell? ⟨gb290, 3, none⟩ = some (.int .i64 0) := (blk_cell BK290.out 3).trans rfl; have hfz62_0 := blk_frozen BK290.out 0; have hfz62_1 := blk_frozen BK290.out 1; have hfz62_2 := blk_frozen BK290.out 2; have hfz62_3 := blk_frozen BK290.out 3; have hcz63_0 : w58.cell? ⟨gb278, 0, none⟩ = some (.int .i64 t268) := (blk_cell BK278.out 0).trans rfl; have hcz63_1 : w58.cell? ⟨gb278, 1, none⟩ = some (.int .i64 t269) := (blk_cell BK278.out 1).trans rfl; have hcz63_2 : w58.cell? ⟨gb278, 2, none⟩ = some (.int .i64 t270) := (blk_cell BK278.out 2).trans rfl; have hcz63_3 : w58.cell? ⟨gb278, 3, none⟩ = some (.int .i64 t271) := (blk_cell BK278.out 3).trans rfl; have hfz63_0 := blk_frozen BK278.out 0; have hfz63_1 := blk_frozen BK278.out 1; have hfz63_2 := blk_frozen BK278.out 2; have hfz63_3 := blk_frozen BK278.out 3))
                  go_roundg k4
                  case measure => have := HJ5.out; have := HK2.out; have := HJ17.out; have := HK4.out; omega
                  case rel => exact ⟨(wrap64 (x10_4 + 1)), (t273), (t276), (t277), (t285), (t286), (t289), (v274), (v287), (by first | rfl | (simp; done) | (simp [*]; done)), H', ⟨by have := HJ5.out; have := HK2.out; have := HJ17.out; have := HK4.out; omega⟩, ⟨by (with_reducible repeat (first | apply Kd.R_alloc | apply Kd.R_drewN | apply Kd.R_drew)); exact Kd.R_mono (Kd.R_far (p := ⟨gb290, 3, none⟩) (Kd.R_far (p := ⟨gb290, 2, none⟩) (Kd.R_far (p := ⟨gb290, 1, none⟩) (Kd.R_far (p := ⟨gb290, 0, none⟩) (Goto.nx gb290 HO275.out (fun k_ hk => hk.2)) (fun _ hk => hk.2) (.int .i64 t280)) (fun _ hk => hk.2) (.int .i64 t281)) (fun _ hk => hk.2) (.int .i64 t282)) (fun _ hk => hk.2) (.int .i64 t283)) (fun _ hk => hk.1.1.2)⟩, ⟨by (with_reducible repeat (first | apply Kd.Q_alloc | apply Kd.Q_drewN | apply Kd.Q_drew)); exact Kd.Q_mono (Kd.Q_far (p := ⟨gb290, 3, none⟩) (Kd.Q_far (p := ⟨gb290, 2, none⟩) (Kd.Q_far (p := ⟨gb290, 1, none⟩) (Kd.Q_far (p := ⟨gb290, 0, none⟩) (Kd.Q_mono HO288.out (fun k_ hk => (⟨hk, hk.2⟩ : _ ∧ k_ ≠ gb290))) (fun _ hk => hk.2) (.int .i64 t280)) (fun _ hk => hk.2) (.int .i64 t281)) (fun _ hk => hk.2) (.int .i64 t282)) (fun _ hk => hk.2) (.int .i64 t283)) (fun _ hk => hk.1.1.1)⟩, ⟨Goto.bx BK218⟩, ⟨Goto.bx BK224⟩, ⟨Goto.hx HB⟩⟩
               ·
                rw [if_neg c46] at H
                exact absurd H (by simp)
              ·
               rw [if_neg c45] at H
               have c45b0 : decide (x10_4 < (l2.length : Int)) = false := decide_eq_false c45
               clear c45
               have H' := Goto.m0 H
               clear H
               go_wp2
               go_roundg k4
               case measure => have := HJ5.out; have := HK2.out; have := HJ17.out; have := HK4.out; omega
               case rel => exact ⟨(wrap64 (x9_2 + 1)), (x219000_4), (x219001_4), (x219002_4), (x225000_4), (x225001_4), (x225002_4), (u219000), (u225001), (by first | rfl | (simp; done) | (simp [*]; done)), H', ⟨by have := HJ5.out; have := HK2.out; have := HJ17.out; have := HK4.out; omega⟩, ⟨by (with_reducible repeat (first | apply Kd.R_alloc | apply Kd.R_drewN | apply Kd.R_drew)); exact HO_219000.out⟩, ⟨by (with_reducible repeat (first | apply Kd.Q_alloc | apply Kd.Q_drewN | apply Kd.Q_drew)); exact HO_225001.out⟩, ⟨Goto.bx BK218⟩, ⟨Goto.bx BK224⟩, ⟨Goto.hx HB⟩⟩
        ·
         rw [if_neg c15] at H
         exact absurd H (by simp)
       ·
        rw [if_neg c14] at H
        have c14b0 : decide (x9_2 < (l1.length : Int)) = false := decide_eq_false c14
        clear c14
        obtain rfl := Option.some.inj H
        go_wp2
        go_ret
        exact ⟨by first | rfl | (simp [errW_none, errW_some] <;> rfl) | (simp [*, errW_none, errW_some] <;> rfl), by repeat (first | (with_reducible first | exact HB.out | apply below_alloc | apply pw_below_drewN | apply below_drew1 | refine below_set ?_ GE218.out | refine below_set ?_ GE224.out) | exact HB.out)⟩
 ·
  replace c5 := Bool.eq_false_iff.mpr c5
  subst c5
  rw [if_neg (show ¬ (false = true) by decide)] at H
  exact absurd ((Option.some.inj H).trans HRT.out) (by decide)

end Go.Proofs.Ytpbcamdjcnokfaa.P
