/- Printed by a program of this workplace (a turned copy of the kit's optional print), out of the translation; not trusted: Lean checks it. -/
import Derived.Test.YtpbcamdjcnokfaaPx0
import Derived.Test.YtpbcamdjcnokfaaPx1
import Derived.Test.YtpbcamdjcnokfaaPx2
import Derived.Test.YtpbcamdjcnokfaaPx3
import Derived.Test.YtpbcamdjcnokfaaPx4
import Derived.Test.YtpbcamdjcnokfaaPx5
namespace Go.Proofs.Ytpbcamdjcnokfaa.P
open Go.RowKit Go.Proofs.YtpbcamdjcnokfaaW.PrintWords Go.Proofs.YtpbcamdjcnokfaaW.PrintLast Go.Proofs.YtpbcamdjcnokfaaW.PrintMore
attribute [local go_sem] max2_int min2_int max_two min_two max_three min_three max_four min_four   -- for this text's walks alone
set_option linter.unusedVariables false
set_option linter.unusedSimpArgs false

attribute [local go_sem high] eqA43
/-! ### tontinelaw18_RingLast: function 10 -/
mutual
def tontinelaw18_RingLast.l0 : Nat → List (S43) → Int → Int → List (S43) → Int → Int → Option (Bool)
  | 0, _, _, _, _, _, _ => none
  | k + 1, x1, x5, x7, x329000, x329001, x329002 => if x7 < (x1.length : Int) then (if 0 ≤ x7 then ((ring_Ring_Add.f x329000 x329001 x329002 ((rd_T43 x1 x7).f1) ((rd_T43 x1 x7).f2) ((rd_T43 x1 x7).f3)).bind fun bt337 => (tontinelaw18_RingLast.l0 k x1 x5 (wrap64 (x7 + 1)) bt337.1 bt337.2.1 bt337.2.2)) else (none)) else ((ring_Ring_All.f x329000 x329001 x329002).bind fun bt342 => (if (bt342.1.length : Int) = (mn x5 (x1.length : Int)) then ((ring_Ring_Last.f bt342.2.1 bt342.2.2.1 bt342.2.2.2).bind fun bt350 => (if bt350.1 = (x1.length : Int) then ((ring_Ring_Lost.f bt350.2.1 bt350.2.2.1 bt350.2.2.2).bind fun bt356 => (tontinelaw18_RingLast.j1 k x1 bt342.1 (mn x5 (x1.length : Int)) (bt356.1 != (wrap64 ((x1.length : Int) - (mn x5 (x1.length : Int))))))) else (tontinelaw18_RingLast.j1 k x1 bt342.1 (mn x5 (x1.length : Int)) true))) else (tontinelaw18_RingLast.j1 k x1 bt342.1 (mn x5 (x1.length : Int)) true)))
def tontinelaw18_RingLast.j1 : Nat → List (S43) → List (S43) → Int → Bool → Option (Bool)
  | 0, _, _, _, _ => none
  | k + 1, x1, x8, x9, x70 => if x70 = true then (some false) else (tontinelaw18_RingLast.l1 k x1 x8 x9 0)
def tontinelaw18_RingLast.l1 : Nat → List (S43) → List (S43) → Int → Int → Option (Bool)
  | 0, _, _, _, _ => none
  | k + 1, x1, x8, x9, x10 => if x10 < x9 then (if 0 ≤ (wrap64 ((wrap64 ((x1.length : Int) - x9)) + x10)) then (if (wrap64 ((wrap64 ((x1.length : Int) - x9)) + x10)) < (x1.length : Int) then (if 0 ≤ x10 then (if x10 < (x8.length : Int) then (if (!(((rd_T43 x8 x10).f0) == (wrap64 ((wrap64 ((wrap64 ((x1.length : Int) - x9)) + x10)) + 1))) || (!(((rd_T43 x8 x10).f1) == ((rd_T43 x1 (wrap64 ((wrap64 ((x1.length : Int) - x9)) + x10))).f1)) || (!(((rd_T43 x8 x10).f2) == ((rd_T43 x1 (wrap64 ((wrap64 ((x1.length : Int) - x9)) + x10))).f2)) || (!(((rd_T43 x8 x10).f3) == ((rd_T43 x1 (wrap64 ((wrap64 ((x1.length : Int) - x9)) + x10))).f3)))))) = true then (some false) else (tontinelaw18_RingLast.l1 k x1 x8 x9 (wrap64 (x10 + 1)))) else (none)) else (none)) else (none)) else (none)) else (some true)
end
def tontinelaw18_RingLast.f (k : Nat) (a0 : Int) (l1 : List (S43)) : Option (Bool) := (tontinelaw18_known.f k).bind fun t327 => (if t327 = true then (if (l1.length : Int) > 60 then (some true) else ((ring_New.f a0).bind fun bt329 => (tontinelaw18_RingLast.l0 k l1 (mx 1 (mn a0 16)) 0 bt329.1 bt329.2.1 bt329.2.2))) else (some false))
theorem tontinelaw18_RingLast.mono_l : ∀ k, (∀ y0 y1 y2 y3 y4 y5, LeO (tontinelaw18_RingLast.l0 k y0 y1 y2 y3 y4 y5) (tontinelaw18_RingLast.l0 (k + 1) y0 y1 y2 y3 y4 y5)) ∧ (∀ y0 y1 y2 y3, LeO (tontinelaw18_RingLast.j1 k y0 y1 y2 y3) (tontinelaw18_RingLast.j1 (k + 1) y0 y1 y2 y3)) ∧ (∀ y0 y1 y2 y3, LeO (tontinelaw18_RingLast.l1 k y0 y1 y2 y3) (tontinelaw18_RingLast.l1 (k + 1) y0 y1 y2 y3))
  | 0 => ⟨fun _ _ _ _ _ _ r h => by simp [tontinelaw18_RingLast.l0] at h, fun _ _ _ _ r h => by simp [tontinelaw18_RingLast.j1] at h, fun _ _ _ _ r h => by simp [tontinelaw18_RingLast.l1] at h⟩
  | k + 1 => by
    obtain ⟨ih0, ih1, ih2⟩ := tontinelaw18_RingLast.mono_l k
    refine ⟨?_, ?_, ?_⟩
    · intro y0 y1 y2 y3 y4 y5
      unfold tontinelaw18_RingLast.l0
      repeat' first
      | (with_reducible exact ih0 _ _ _ _ _ _)
      | (with_reducible exact ih1 _ _ _ _)
      | (with_reducible exact ih2 _ _ _ _)
      | (with_reducible exact tontinelaw18_known.mono _)
      | (with_reducible exact LeO.refl _)
      | (with_reducible exact LeO.none _)
      | (with_reducible refine LeO.ite ?_ ?_)
      | (with_reducible refine LeO.bind ?_ (fun _ => ?_))
      | exact ih0 _ _ _ _ _ _
      | exact ih1 _ _ _ _
      | exact ih2 _ _ _ _
      | exact tontinelaw18_known.mono _
      | exact LeO.none _
      | refine LeO.ite ?_ ?_
      | refine LeO.bind ?_ (fun _ => ?_)
    · intro y0 y1 y2 y3
      unfold tontinelaw18_RingLast.j1
      repeat' first
      | (with_reducible exact ih0 _ _ _ _ _ _)
      | (with_reducible exact ih1 _ _ _ _)
      | (with_reducible exact ih2 _ _ _ _)
      | (with_reducible exact tontinelaw18_known.mono _)
      | (with_reducible exact LeO.refl _)
      | (with_reducible exact LeO.none _)
      | (with_reducible refine LeO.ite ?_ ?_)
      | (with_reducible refine LeO.bind ?_ (fun _ => ?_))
      | exact ih0 _ _ _ _ _ _
      | exact ih1 _ _ _ _
      | exact ih2 _ _ _ _
      | exact tontinelaw18_known.mono _
      | exact LeO.none _
      | refine LeO.ite ?_ ?_
      | refine LeO.bind ?_ (fun _ => ?_)
    · intro y0 y1 y2 y3
      unfold tontinelaw18_RingLast.l1
      repeat' first
      | (with_reducible exact ih0 _ _ _ _ _ _)
      | (with_reducible exact ih1 _ _ _ _)
      | (with_reducible exact ih2 _ _ _ _)
      | (with_reducible exact tontinelaw18_known.mono _)
      | (with_reducible exact LeO.refl _)
      | (with_reducible exact LeO.none _)
      | (with_reducible refine LeO.ite ?_ ?_)
      | (with_reducible refine LeO.bind ?_ (fun _ => ?_))
      | exact ih0 _ _ _ _ _ _
      | exact ih1 _ _ _ _
      | exact ih2 _ _ _ _
      | exact tontinelaw18_known.mono _
      | exact LeO.none _
      | refine LeO.ite ?_ ?_
      | refine LeO.bind ?_ (fun _ => ?_)
theorem tontinelaw18_RingLast.mono : ∀ a0 a1 k, LeO (tontinelaw18_RingLast.f k a0 a1) (tontinelaw18_RingLast.f (k + 1) a0 a1) := by
 intro a0 a1 k
 obtain ⟨ih0, ih1, ih2⟩ := tontinelaw18_RingLast.mono_l k
 unfold tontinelaw18_RingLast.f
 repeat' first
   | (with_reducible exact ih0 _ _ _ _ _ _)
   | (with_reducible exact ih1 _ _ _ _)
   | (with_reducible exact ih2 _ _ _ _)
   | (with_reducible exact tontinelaw18_known.mono _)
   | (with_reducible exact LeO.refl _)
   | (with_reducible exact LeO.none _)
   | (with_reducible refine LeO.ite ?_ ?_)
   | (with_reducible refine LeO.bind ?_ (fun _ => ?_))
   | exact ih0 _ _ _ _ _ _
   | exact ih1 _ _ _ _
   | exact ih2 _ _ _ _
   | exact tontinelaw18_known.mono _
   | exact LeO.none _
   | refine LeO.ite ?_ ?_
   | refine LeO.bind ?_ (fun _ => ?_)
def tontinelaw18_RingLast.T10 : Bool × List (List Nat × List Nat) := (true, [([], []), ([], []), ([], []), ([1, 2], [1, 2]), ([3], [3]), ([4], [4]), ([], []), ([], []), ([6, 7], [6, 7]), ([8], [8]), ([9], [9]), ([], []), ([], []), ([11, 12], [11, 12]), ([13], [13]), ([14], [14]), ([0, 5, 10, 15], [0, 5, 10, 15])])
def tontinelaw18_RingLast.B10 : List Nat := [0, 0, 0, 6, 14, 30, 0, 0, 192, 448, 960, 0, 0, 6144, 14336, 30720, 65535]
theorem tontinelaw18_RingLast.tab10 : rtab .any (opsOf Try.f10 10) = tontinelaw18_RingLast.T10 := by kernel_rfl
theorem tontinelaw18_RingLast.bits10 : waitsOk tontinelaw18_RingLast.T10.2 tontinelaw18_RingLast.B10 = true := by kernel_rfl
set_option maxHeartbeats 8000000 in
set_option maxRecDepth 100000 in
theorem tontinelaw18_RingLast.calls (k : Nat) (a0 : Int) (A1 : Option Addr) (c1 : Nat) (l1 : List (S43)) (r : Bool) (hrt : r = true) (w : World) (hr1 : Kd.C k43 w A1 l1.length l1) (hc1 : l1.length ≤ c1) (h : tontinelaw18_RingLast.f k a0 l1 = some r) :
    Calls Try.prog 10 #[.int .i64 a0, .slice A1 l1.length c1] w fun e w' => e = .returned (.bool r) ∧ Below w.heap.size w w' := by
 have hu43 := Try.underlying43
 have HR1 := Goto.m0 hr1
 have HC1 := Goto.m0 hc1
 clear hr1 hc1
 have HB := Goto.m0 (Below.refl w.heap.size w)
 have HRT := Goto.m0 hrt
 clear hrt
 have H : ((tontinelaw18_known.f k).bind fun t327 => (if t327 = true then (if (l1.length : Int) > 60 then (some true) else ((ring_New.f a0).bind fun bt329 => (tontinelaw18_RingLast.l0 k l1 (mx 1 (mn a0 16)) 0 bt329.1 bt329.2.1 bt329.2.2))) else (some false))) = some r := h
 clear h
 replace H := Option.bind_eq_some_iff.mp H
 obtain ⟨t327, A30, H⟩ := H
 have A3 := Goto.m0 A30
 clear A30
 by_cases c4 : t327 = true
 ·
  subst c4
  rw [if_pos rfl] at H
  by_cases c5 : (l1.length : Int) > 60
  ·
   rw [if_pos c5] at H
   have c5b0 : decide (60 < (l1.length : Int)) = true := decide_eq_true c5
   have c5b1 : decide (60 < l1.length) = true := decide_eq_true (by omega)
   clear c5
   obtain rfl := Option.some.inj H
   go_enter Try.func10, Try.ntmps10
   go_wp2_with (first | ((with_reducible refine gate_callee (f := 26) rfl ?_); refine goesL_ (some 12) rfl rfl Try.func26 (by kernel_rfl) rfl #[] rfl (by (try simp only [List.map_toArray, List.map_cons, List.map_nil]); first | done | rfl | (simp only [List.length_drop, List.length_take]; rfl)) ?_; (with_reducible refine (tontinelaw18_known.calls k  true (by first | rfl | assumption | (simp only [Bool.not_eq_true, Bool.not_eq_false] at *; assumption)) _ A3.out).mono ?_); rintro e w6 ⟨rfl, hb⟩; refine ⟨_, rfl, ?_⟩; replace HB := Goto.hs HB hb; (try clear hb); (try clear hb2); (try clear hk); (try clear hi)))
   go_ret
   exact ⟨by first | rfl | (simp [errW_none, errW_some] <;> rfl) | (simp [*, errW_none, errW_some] <;> rfl), by repeat (first | (with_reducible first | exact HB.out | apply below_alloc | apply pw_below_drewN | apply below_drew1) | exact HB.out)⟩
  ·
   rw [if_neg c5] at H
   have c5b0 : decide (60 < (l1.length : Int)) = false := decide_eq_false c5
   have c5b1 : decide (60 < l1.length) = false := decide_eq_false (by omega)
   clear c5
   obtain ⟨ji7, hji7⟩ : ∃ j_ : Int, (mn a0 16) = j_ := ⟨_, rfl⟩
   replace H : ((ring_New.f a0).bind fun bt329 => (tontinelaw18_RingLast.l0 k l1 (mx 1 (ji7)) 0 bt329.1 bt329.2.1 bt329.2.2)) = some r := by first | (rw [hji7] at H; exact H) | (simp only [hji7] at H ⊢; exact H)
   (try rw [hji7] at A3)
   (try (have hji7h : ji7 ≤ 16 := by (rw [← hji7]; unfold mn; (repeat' split) <;> omega)))
   (try (have hji7g : ji7 ≤ 64 := by omega))
   have hji7_ : (if 16 < a0 then 16 else a0) = ji7 := hji7
   obtain ⟨ji8, hji8⟩ : ∃ j_ : Int, (mx 1 (ji7)) = j_ := ⟨_, rfl⟩
   (try rw [hji8] at hji7)
   (try rw [hji8] at hji7w)
   replace H : ((ring_New.f a0).bind fun bt329 => (tontinelaw18_RingLast.l0 k l1 ji8 0 bt329.1 bt329.2.1 bt329.2.2)) = some r := by first | (rw [hji8] at H; exact H) | (simp only [hji8] at H ⊢; exact H)
   (try rw [hji8] at A3)
   have hji8_ : (if 1 < (ji7) then (ji7) else 1) = ji8 := hji8
   replace H := Option.bind_eq_some_iff.mp H
   obtain ⟨⟨t329, t332, t333⟩, A90, H⟩ := H
   replace H : (tontinelaw18_RingLast.l0 k l1 ji8 0 t329 t332 t333) = some r := H
   have A9 := Goto.m0 A90
   clear A90
   have H' := Goto.m0 H
   clear H
   go_enter Try.func10, Try.ntmps10
   go_wp2_with (first | ((with_reducible refine gate_callee (f := 26) rfl ?_); refine goesL_ (some 12) rfl rfl Try.func26 (by kernel_rfl) rfl #[] rfl (by (try simp only [List.map_toArray, List.map_cons, List.map_nil]); first | done | rfl | (simp only [List.length_drop, List.length_take]; rfl)) ?_; (with_reducible refine (tontinelaw18_known.calls k  true (by first | rfl | assumption | (simp only [Bool.not_eq_true, Bool.not_eq_false] at *; assumption)) _ A3.out).mono ?_); rintro e w10 ⟨rfl, hb⟩; refine ⟨_, rfl, ?_⟩; replace HB := Goto.hs HB hb; (try clear hb); (try clear hb2); (try clear hk); (try clear hi)) | ((with_reducible refine gate_callee (f := 27) rfl ?_); refine goesL_ (some 21) rfl rfl Try.func27 (by kernel_rfl) rfl #[.int .i64 a0] rfl (by (try simp only [List.map_toArray, List.map_cons, List.map_nil]); first | done | rfl | (simp only [List.length_drop, List.length_take]; rfl)) ?_; (with_reducible refine (ring_New.calls a0 t329 t332 t333 _ A9.out).mono ?_); rintro e w11 ⟨v330, gb328, rfl, ho0, hi, hge, hb⟩; refine ⟨_, rfl, ?_⟩; have HO331 := Goto.m0 (Kd.R_lower ho0 (below_size (Goto.hx HB))); have BK328 := Goto.m0 (hi); have GW328 := Goto.m0 ((Nat.le_trans (below_size (Goto.hx HB)) hge : w.heap.size ≤ gb328)); have GE328 := Goto.m0 ((Nat.le_trans (below_size (Goto.hx HB)) hge : w.heap.size ≤ gb328)); replace HB := Goto.hs HB hb; (try clear hb); (try clear hi); (try clear hge); (try clear ho0)))
   go_loopg [7] k (fun kq v7 w' => ∃ (x7_1 : Int) (x329000_1 : List (S43)) (x329001_1 : Int) (x329002_1 : Int) (u329000 : Value), v7 = .int .i64 x7_1 ∧ Aside0 (tontinelaw18_RingLast.l0 kq l1 ji8 x7_1 x329000_1 x329001_1 x329002_1 = some r) ∧ Aside0 (kq ≤ k) ∧ Aside0 (Kd.R k43 43 w' w.heap.size (fun _ => True) u329000 x329000_1) ∧ Aside0 (w'.heap[gb328]? = some (.cells #[u329000, .int .i64 x329001_1, .int .i64 x329002_1] 79 (0, 0))) ∧ Aside0 (Below w.heap.size w w'))
   case atStart => exact ⟨(0), (t329), (t332), (t333), (v330), (by first | rfl | (simp; done) | (simp [*]; done)), H', ⟨Nat.le_refl _⟩, ⟨by (with_reducible repeat (first | apply Kd.R_alloc | apply Kd.R_drewN | apply Kd.R_drew)); exact HO331.out⟩, ⟨Goto.bx BK328⟩, ⟨Goto.hx HB⟩⟩
   case round =>
    clear H'
    try clear c1; try clear c2; try clear p2; try clear c4; try clear c5; try clear c5b0; try clear c5b1; try clear c10
    obtain ⟨x7_1, x329000_1, x329001_1, x329002_1, u329000, rfl, HA, HK1, HO_329000, BK328, HB⟩ := hrel
    cases gk with
    | zero => exact absurd HA.out (by simp [tontinelaw18_RingLast.l0])
    | succ k1 =>
     have H := HA.out; clear HA
     simp only [tontinelaw18_RingLast.l0] at H
     by_cases c12 : x7_1 < (l1.length : Int)
     ·
      rw [if_pos c12] at H
      have c12b0 : decide (x7_1 < (l1.length : Int)) = true := decide_eq_true c12
      clear c12
      by_cases c13 : 0 ≤ x7_1
      ·
       rw [if_pos c13] at H
       have c13b0 : decide (0 ≤ x7_1) = true := decide_eq_true c13
       clear c13
       replace H := Option.bind_eq_some_iff.mp H
       obtain ⟨⟨t337, t340, t341⟩, A140, H⟩ := H
       replace H : (tontinelaw18_RingLast.l0 k1 l1 ji8 (wrap64 (x7_1 + 1)) t337 t340 t341) = some r := H
       have A14 := Goto.m0 A140
       clear A140
       have H' := Goto.m0 H
       clear H
       try go_wp2
       replace HO_329000 := Goto.m0 (Kd.R_drew HO_329000.out); replace BK328 := Goto.m0 (blk_drew BK328.out); replace HB := Goto.m0 (below_drew1 HB.out)
       have p334 : 0 ≤ (x7_1 : Int) := of_decide_eq_true (by first | (with_reducible assumption) | assumption)
       have q334 : x7_1 < (l1.length : Int) := of_decide_eq_true (by first | (with_reducible assumption) | assumption)
       obtain ⟨ad334, e334, hx334_0, hx334_1, hx334_2, hx334_3⟩ := at_T43 HR1.out x7_1 p334 q334
       have hw334_3 := hx334_3; have hw334_2 := hx334_2; have hw334_1 := hx334_1; have hw334_0 := hx334_0
       cases e334
       replace hx334_0 := Goto.kc HB.out hx334_0
       replace hx334_1 := Goto.kc HB.out hx334_1
       replace hx334_2 := Goto.kc HB.out hx334_2
       replace hx334_3 := Goto.kc HB.out hx334_3
       replace p334 := eq_true p334; replace q334 := eq_true q334
       have p335 : 0 ≤ (x7_1 : Int) := of_decide_eq_true (by first | (with_reducible assumption) | assumption)
       have q335 : x7_1 < (l1.length : Int) := of_decide_eq_true (by first | (with_reducible assumption) | assumption)
       obtain ⟨ad335, e335, hx335_0, hx335_1, hx335_2, hx335_3⟩ := at_T43 HR1.out x7_1 p335 q335
       have hw335_3 := hx335_3; have hw335_2 := hx335_2; have hw335_1 := hx335_1; have hw335_0 := hx335_0
       obtain rfl : ad334 = ad335 := (by injection e335)
       replace hx335_0 := Goto.kc HB.out hx335_0
       replace hx335_1 := Goto.kc HB.out hx335_1
       replace hx335_2 := Goto.kc HB.out hx335_2
       replace hx335_3 := Goto.kc HB.out hx335_3
       replace p335 := eq_true p335; replace q335 := eq_true q335
       have p336 : 0 ≤ (x7_1 : Int) := of_decide_eq_true (by first | (with_reducible assumption) | assumption)
       have q336 : x7_1 < (l1.length : Int) := of_decide_eq_true (by first | (with_reducible assumption) | assumption)
       obtain ⟨ad336, e336, hx336_0, hx336_1, hx336_2, hx336_3⟩ := at_T43 HR1.out x7_1 p336 q336
       have hw336_3 := hx336_3; have hw336_2 := hx336_2; have hw336_1 := hx336_1; have hw336_0 := hx336_0
       obtain rfl : ad334 = ad336 := (by injection e336)
       replace hx336_0 := Goto.kc HB.out hx336_0
       replace hx336_1 := Goto.kc HB.out hx336_1
       replace hx336_2 := Goto.kc HB.out hx336_2
       replace hx336_3 := Goto.kc HB.out hx336_3
       replace p336 := eq_true p336; replace q336 := eq_true q336
       refine start_ (n := 17) (S := fun w' => w'.cell? (ad334.add ((x7_1).toNat * 4)) = some (.int .i64 ((rd_T43 l1 x7_1).f0)) ∧ w'.cell? ⟨(ad334.add ((x7_1).toNat * 4)).block, (ad334.add ((x7_1).toNat * 4)).off + 1, none⟩ = some (.int .i64 ((rd_T43 l1 x7_1).f1)) ∧ w'.cell? ⟨(ad334.add ((x7_1).toNat * 4)).block, (ad334.add ((x7_1).toNat * 4)).off + 2, none⟩ = some (.int .i64 ((rd_T43 l1 x7_1).f2)) ∧ w'.cell? ⟨(ad334.add ((x7_1).toNat * 4)).block, (ad334.add ((x7_1).toNat * 4)).off + 3, none⟩ = some (.int .i64 ((rd_T43 l1 x7_1).f3)) ∧ w'.cell? (ad334.add ((x7_1).toNat * 4)) = some (.int .i64 ((rd_T43 l1 x7_1).f0)) ∧ w'.cell? ⟨(ad334.add ((x7_1).toNat * 4)).block, (ad334.add ((x7_1).toNat * 4)).off + 1, none⟩ = some (.int .i64 ((rd_T43 l1 x7_1).f1)) ∧ w'.cell? ⟨(ad334.add ((x7_1).toNat * 4)).block, (ad334.add ((x7_1).toNat * 4)).off + 2, none⟩ = some (.int .i64 ((rd_T43 l1 x7_1).f2)) ∧ w'.cell? ⟨(ad334.add ((x7_1).toNat * 4)).block, (ad334.add ((x7_1).toNat * 4)).off + 3, none⟩ = some (.int .i64 ((rd_T43 l1 x7_1).f3)) ∧ w'.cell? (ad334.add ((x7_1).toNat * 4)) = some (.int .i64 ((rd_T43 l1 x7_1).f0)) ∧ w'.cell? ⟨(ad334.add ((x7_1).toNat * 4)).block, (ad334.add ((x7_1).toNat * 4)).off + 1, none⟩ = some (.int .i64 ((rd_T43 l1 x7_1).f1)) ∧ w'.cell? ⟨(ad334.add ((x7_1).toNat * 4)).block, (ad334.add ((x7_1).toNat * 4)).off + 2, none⟩ = some (.int .i64 ((rd_T43 l1 x7_1).f2)) ∧ w'.cell? ⟨(ad334.add ((x7_1).toNat * 4)).block, (ad334.add ((x7_1).toNat * 4)).off + 3, none⟩ = some (.int .i64 ((rd_T43 l1 x7_1).f3))) (ds := []) (.replicate 17 false) (by kernel_rfl) rfl rfl ⟨(Goto.kc HB.out hw334_0), (Goto.kc HB.out hw334_1), (Goto.kc HB.out hw334_2), (Goto.kc HB.out hw334_3), (Goto.kc HB.out hw335_0), (Goto.kc HB.out hw335_1), (Goto.kc HB.out hw335_2), (Goto.kc HB.out hw335_3), (Goto.kc HB.out hw336_0), (Goto.kc HB.out hw336_1), (Goto.kc HB.out hw336_2), (Goto.kc HB.out hw336_3)⟩ (fun hHeld => ?_); refine with_tabW tontinelaw18_RingLast.tab10 tontinelaw18_RingLast.bits10 (fun HT_ HW_ => ?_)
       generalize wr.drew = w15 at HO_329000 BK328 HB hx334_0 hx334_1 hx334_2 hx334_3 hx335_0 hx335_1 hx335_2 hx335_3 hx336_0 hx336_1 hx336_2 hx336_3 hHeld ⊢
       refine pure_ (i := 0) (N := some 28) (v := ?_) (a' := ?_) (Goto.bs 17 1) rfl rfl (any_of HT_.out (by kernel_rfl)) (fun _ _ _ h => h) (Or.inl ⟨by rfl, ?_⟩) ?_ ?_
       rotate_left
       ·
        intro w'
        go_simp
        with_reducible rfl
       rotate_left
       ·
        exact Goto.ap
       refine pure_ (i := 1) (N := some 29) (v := ?_) (a' := ?_) (Goto.bs 17 3) rfl rfl (any_of HT_.out (by kernel_rfl)) (fun _ _ _ h => h) (Or.inl ⟨by rfl, ?_⟩) ?_ ?_
       rotate_left
       ·
        intro w'
        go_simp
        with_reducible rfl
       rotate_left
       ·
        exact Goto.ap
       refine pure_ (i := 2) (N := some 30) (v := ?_) (a' := ?_) (Goto.bs 17 7) rfl rfl (any_of HT_.out (by kernel_rfl)) (fun _ _ _ h => h) (Or.inl ⟨by rfl, ?_⟩) ?_ ?_
       rotate_left
       ·
        intro w'
        go_simp
        with_reducible rfl
       rotate_left
       ·
        exact Goto.ap
       refine pure_ (i := 3) (N := some 31) (v := ?_) (a' := ?_) (Goto.bs 17 15) rfl rfl (any_of HT_.out (by kernel_rfl)) (fun _ _ _ h => h) (Or.inl ⟨by rfl, ?_⟩) ?_ ?_
       rotate_left
       ·
        intro w'
        go_simp
        with_reducible rfl
       rotate_left
       ·
        exact Goto.ap
       refine pure_ (i := 4) (N := some 32) (v := ?_) (a' := ?_) (Goto.bs 17 31) rfl rfl (any_of HT_.out (by kernel_rfl)) (fun _ _ _ h => h) (Or.inl ⟨by rfl, ?_⟩) ?_ ?_
       rotate_left
       ·
        intro w'
        go_simp
        with_reducible rfl
       rotate_left
       ·
        exact Goto.ap
       refine pure_ (i := 6) (N := some 34) (v := ?_) (a' := ?_) (Goto.bs 17 95) rfl rfl (any_of HT_.out (by kernel_rfl)) (fun _ _ _ h => h) (Or.inl ⟨by rfl, ?_⟩) ?_ ?_
       rotate_left
       ·
        intro w'
        go_simp
        with_reducible rfl
       rotate_left
       ·
        exact Goto.ap
       refine pure_ (i := 7) (N := some 35) (v := ?_) (a' := ?_) (Goto.bs 17 223) rfl rfl (any_of HT_.out (by kernel_rfl)) (fun _ _ _ h => h) (Or.inl ⟨by rfl, ?_⟩) ?_ ?_
       rotate_left
       ·
        intro w'
        go_simp
        with_reducible rfl
       rotate_left
       ·
        exact Goto.ap
       refine pure_ (i := 8) (N := some 36) (v := ?_) (a' := ?_) (Goto.bs 17 479) rfl rfl (any_of HT_.out (by kernel_rfl)) (fun _ _ _ h => h) (Or.inl ⟨by rfl, ?_⟩) ?_ ?_
       rotate_left
       ·
        intro w'
        go_simp
        with_reducible rfl
       rotate_left
       ·
        exact Goto.ap
       refine pure_ (i := 9) (N := some 37) (v := ?_) (a' := ?_) (Goto.bs 17 991) rfl rfl (any_of HT_.out (by kernel_rfl)) (fun _ _ _ h => h) (Or.inl ⟨by rfl, ?_⟩) ?_ ?_
       rotate_left
       ·
        intro w'
        go_simp
        with_reducible rfl
       rotate_left
       ·
        exact Goto.ap
       refine pure_ (i := 11) (N := some 39) (v := ?_) (a' := ?_) (Goto.bs 17 3039) rfl rfl (any_of HT_.out (by kernel_rfl)) (fun _ _ _ h => h) (Or.inl ⟨by rfl, ?_⟩) ?_ ?_
       rotate_left
       ·
        intro w'
        go_simp
        with_reducible rfl
       rotate_left
       ·
        exact Goto.ap
       refine pure_ (i := 12) (N := some 40) (v := ?_) (a' := ?_) (Goto.bs 17 7135) rfl rfl (any_of HT_.out (by kernel_rfl)) (fun _ _ _ h => h) (Or.inl ⟨by rfl, ?_⟩) ?_ ?_
       rotate_left
       ·
        intro w'
        go_simp
        with_reducible rfl
       rotate_left
       ·
        exact Goto.ap
       refine pure_ (i := 13) (N := some 41) (v := ?_) (a' := ?_) (Goto.bs 17 15327) rfl rfl (any_of HT_.out (by kernel_rfl)) (fun _ _ _ h => h) (Or.inl ⟨by rfl, ?_⟩) ?_ ?_
       rotate_left
       ·
        intro w'
        go_simp
        with_reducible rfl
       rotate_left
       ·
        exact Goto.ap
       refine pure_ (i := 14) (N := some 42) (v := ?_) (a' := ?_) (Goto.bs 17 31711) rfl rfl (any_of HT_.out (by kernel_rfl)) (fun _ _ _ h => h) (Or.inl ⟨by rfl, ?_⟩) ?_ ?_
       rotate_left
       ·
        intro w'
        go_simp
        with_reducible rfl
       rotate_left
       ·
        exact Goto.ap
       refine take_ (i := 5) (N := some 33) (v := ?_) (a' := ?_) (Goto.bs 17 31743) rfl rfl (take_ofW HT_.out HW_.out (by kernel_rfl)) (fun _ _ _ h => h) (Or.inl ⟨by rfl, ?_⟩) hHeld ?_ ?_
       rotate_left
       ·
        rintro w' ⟨s0, s1, s2, s3, s4, s5, s6, s7, s8, s9, s10, s11⟩
        go_simp
        with_reducible rfl
       rotate_left
       ·
        exact Goto.ap
       refine take_ (i := 10) (N := some 38) (v := ?_) (a' := ?_) (Goto.bs 17 32767) rfl rfl (take_ofW HT_.out HW_.out (by kernel_rfl)) (fun _ _ _ h => h) (Or.inl ⟨by rfl, ?_⟩) hHeld ?_ ?_
       rotate_left
       ·
        rintro w' ⟨s0, s1, s2, s3, s4, s5, s6, s7, s8, s9, s10, s11⟩
        go_simp
        with_reducible rfl
       rotate_left
       ·
        exact Goto.ap
       refine take_ (i := 15) (N := some 43) (v := ?_) (a' := ?_) (Goto.bs 17 65535) rfl rfl (take_ofW HT_.out HW_.out (by kernel_rfl)) (fun _ _ _ h => h) (Or.inl ⟨by rfl, ?_⟩) hHeld ?_ ?_
       rotate_left
       ·
        rintro w' ⟨s0, s1, s2, s3, s4, s5, s6, s7, s8, s9, s10, s11⟩
        go_simp
        with_reducible rfl
       rotate_left
       ·
        exact Goto.ap
       refine one_ (i := 16) (N := some 44) (Goto.bs 17 131071) rfl rfl (one_of HT_.out (by kernel_rfl)) (by decide) (fun K hK => ?_)
       refine goes_ Try.func29 (by kernel_rfl) rfl #[.pointer (some ⟨gb328, 0, none⟩), .int .i64 ((rd_T43 l1 x7_1).f1), .int .i64 ((rd_T43 l1 x7_1).f2), .int .i64 ((rd_T43 l1 x7_1).f3)] (by rfl) rfl rfl (by (try simp only [List.map_toArray, List.map_cons, List.map_nil]); first | done | rfl | (simp only [List.length_drop, List.length_take]; rfl)) ?_
       with_reducible refine (ring_Ring_Add.calls gb328 (fun k_ => some k_ = (u329000 : Value).ownBlock) u329000 x329000_1 x329001_1 x329002_1 ((rd_T43 l1 x7_1).f1) ((rd_T43 l1 x7_1).f2) ((rd_T43 l1 x7_1).f3) t337 t340 t341 w _ ?side1 ?side2 ?side3 ?side4 A14.out).mono ?_
       (case side1 => exact by (with_reducible repeat first | refine blk_drewN ?_ _ | refine blk_drew ?_ | refine blk_alloc ?_ _); exact BK328.out)
       (case side2 => exact GE328.out)
       (case side3 => repeat (first | (with_reducible first | exact HB.out | apply below_alloc | apply pw_below_drewN | apply below_drew1 | refine below_set ?_ GE328.out) | exact HB.out))
       (case side4 => exact Kd.R_tight rfl HO_329000.out)
       rintro e w16 ⟨v338, rfl, ho0, hi, hb, hkp⟩
       refine ⟨_, rfl, ?_⟩
       have n0_ := Goto.m0 (hi)
       have n1_ := Goto.m0 (Kd.R_mono (ok' := fun k_ => True) ho0 (fun k_ hk_ => trivial))
       have n2_ := Goto.m0 (hb)
       clear BK328; clear HB; clear HO_329000; have BK328 := n0_; have HO339 := n1_; have HB := n2_; clear n0_ n1_ n2_
       (try clear hb)
       (try clear hkp)
       (try clear ho0)
       refine hK.out _ _ ⟨(Goto.kc HB.out hw334_0), (Goto.kc HB.out hw334_1), (Goto.kc HB.out hw334_2), (Goto.kc HB.out hw334_3), (Goto.kc HB.out hw335_0), (Goto.kc HB.out hw335_1), (Goto.kc HB.out hw335_2), (Goto.kc HB.out hw335_3), (Goto.kc HB.out hw336_0), (Goto.kc HB.out hw336_1), (Goto.kc HB.out hw336_2), (Goto.kc HB.out hw336_3)⟩ (fun hHeld => ?_)
       clear hK K
       refine norm_ (a' := ?_) ?_ ?_
       rotate_left
       ·
        show Act.put _ (some 44) _ = _
        exact Goto.ap
       refine done_ (done_of HT_.out (by kernel_rfl)) ?_
       try go_wp2
       go_roundg k1
       case measure => have := HK1.out; omega
       case rel => exact ⟨(wrap64 (x7_1 + 1)), (t337), (t340), (t341), (v338), (by first | rfl | (simp; done) | (simp [*]; done)), H', ⟨by have := HK1.out; omega⟩, ⟨by (with_reducible repeat (first | apply Kd.R_alloc | apply Kd.R_drewN | apply Kd.R_drew)); exact HO339.out⟩, ⟨Goto.bx BK328⟩, ⟨Goto.hx HB⟩⟩
      ·
       rw [if_neg c13] at H
       exact absurd H (by simp)
     ·
      rw [if_neg c12] at H
      have c12b0 : decide (x7_1 < (l1.length : Int)) = false := decide_eq_false c12
      clear c12
      replace H := Option.bind_eq_some_iff.mp H
      obtain ⟨⟨t342, t345, t348, t349⟩, A170, H⟩ := H
      replace H : (if (t342.length : Int) = (mn ji8 (l1.length : Int)) then ((ring_Ring_Last.f t345 t348 t349).bind fun bt350 => (if bt350.1 = (l1.length : Int) then ((ring_Ring_Lost.f bt350.2.1 bt350.2.2.1 bt350.2.2.2).bind fun bt356 => (tontinelaw18_RingLast.j1 k1 l1 t342 (mn ji8 (l1.length : Int)) (bt356.1 != (wrap64 ((l1.length : Int) - (mn ji8 (l1.length : Int))))))) else (tontinelaw18_RingLast.j1 k1 l1 t342 (mn ji8 (l1.length : Int)) true))) else (tontinelaw18_RingLast.j1 k1 l1 t342 (mn ji8 (l1.length : Int)) true)) = some r := H
      have A17 := Goto.m0 A170
      clear A170
      obtain ⟨ji18, hji18⟩ : ∃ j_ : Int, (mn ji8 (l1.length : Int)) = j_ := ⟨_, rfl⟩
      (try rw [hji18] at hji7)
      (try rw [hji18] at hji7w)
      (try rw [hji18] at hji8)
      (try rw [hji18] at hji8w)
      replace H : (if (t342.length : Int) = (ji18) then ((ring_Ring_Last.f t345 t348 t349).bind fun bt350 => (if bt350.1 = (l1.length : Int) then ((ring_Ring_Lost.f bt350.2.1 bt350.2.2.1 bt350.2.2.2).bind fun bt356 => (tontinelaw18_RingLast.j1 k1 l1 t342 ji18 (bt356.1 != (wrap64 ((l1.length : Int) - (ji18)))))) else (tontinelaw18_RingLast.j1 k1 l1 t342 ji18 true))) else (tontinelaw18_RingLast.j1 k1 l1 t342 ji18 true)) = some r := by first | (rw [hji18] at H; exact H) | (simp only [hji18] at H ⊢; exact H)
      (try rw [hji18] at A17)
      have hji18_ : (if (l1.length : Int) < ji8 then (l1.length : Int) else ji8) = ji18 := hji18
      have HC19 := Goto.m0 H
      clear H
      go_upto_region 13 with (first | ((with_reducible refine gate_callee (f := 32) rfl ?_); refine goesL_ (some 46) rfl rfl Try.func32 (by kernel_rfl) rfl #[.pointer (some ⟨gb328, 0, none⟩)] rfl (by (try simp only [List.map_toArray, List.map_cons, List.map_nil]); first | done | rfl | (simp only [List.length_drop, List.length_take]; rfl)) ?_; (with_reducible refine (ring_Ring_All.calls gb328 (fun k_ => some k_ = (u329000 : Value).ownBlock) u329000 x329000_1 x329001_1 x329002_1 t342 t345 t348 t349 w _ ?side1 ?side2 ?side3 ?side4 A17.out).mono ?_); (case side1 => exact by (with_reducible repeat first | refine blk_drewN ?_ _ | refine blk_drew ?_ | refine blk_alloc ?_ _); exact BK328.out); (case side2 => exact GE328.out); (case side3 => repeat (first | (with_reducible first | exact HB.out | apply below_alloc | apply pw_below_drewN | apply below_drew1 | refine below_set ?_ GE328.out) | exact HB.out)); (case side4 => exact Kd.R_tight rfl HO_329000.out); rintro e w20 ⟨v343, v346, rfl, ho0, ho1, hi, hb, hkp⟩; refine ⟨_, rfl, ?_⟩; have n0_ := Goto.m0 (hi); have n1_ := Goto.m0 (Kd.R_mono (ok' := fun k_ => some k_ ≠ (v346 : Value).ownBlock) ho0 (fun k_ hk_ => hk_.2)); have n2_ := Goto.m0 (Kd.R_mono (ok' := fun k_ => some k_ ≠ (v343 : Value).ownBlock) ho1 (fun k_ hk_ => hk_.2)); have n3_ := Goto.m0 (hb); clear BK328; clear HB; clear HO_329000; have BK328 := n0_; have HO344 := n1_; have HO347 := n2_; have HB := n3_; clear n0_ n1_ n2_ n3_; (try clear hb); (try clear hkp); (try clear ho0); (try clear ho1)))
      (try simp only [Act.put, List.setIfInBounds_toArray, List.set_cons_zero, List.set_cons_succ])
      go_cut [70] (fun v70 wc => ∃ (kq : Nat) (x70_18 : Bool) (x329000_18 : List (S43)) (x329001_18 : Int) (x329002_18 : Int) (u329000 : Value), v70 = .bool x70_18 ∧ Aside0 (tontinelaw18_RingLast.j1 kq l1 t342 ji18 x70_18 = some r) ∧ Aside0 (kq ≤ k1) ∧ Aside0 (Kd.R k43 43 wc w.heap.size (fun k_ => some k_ ≠ (u329000 : Value).ownBlock) v343 t342) ∧ Aside0 (Kd.R k43 43 wc w.heap.size (fun k_ => some k_ ≠ (v343 : Value).ownBlock) u329000 x329000_18) ∧ Aside0 (wc.heap[gb328]? = some (.cells #[u329000, .int .i64 x329001_18, .int .i64 x329002_18] 79 (0, 0))) ∧ Aside0 (Below w.heap.size w wc))
      case first =>
       have H := HC19.out; clear HC19
       by_cases c21 : (t342.length : Int) = (ji18)
       ·
        rw [if_pos c21] at H
        have c21b0 : ((t342.length : Int) == (ji18)) = true := beq_iff_eq.mpr c21
        have c21b1 : ((t342.length : Int) != (ji18)) = false := bne_eq_false_iff_eq.mpr c21
        clear c21
        (first | rw [c21b0] | (simp only [i64_w, i32_w]; rw [c21b0]) | skip)
        replace H := Option.bind_eq_some_iff.mp H
        obtain ⟨⟨t350, t351, t354, t355⟩, A220, H⟩ := H
        replace H : (if t350 = (l1.length : Int) then ((ring_Ring_Lost.f t351 t354 t355).bind fun bt356 => (tontinelaw18_RingLast.j1 k1 l1 t342 ji18 (bt356.1 != (wrap64 ((l1.length : Int) - (ji18)))))) else (tontinelaw18_RingLast.j1 k1 l1 t342 ji18 true)) = some r := H
        have A22 := Goto.m0 A220
        clear A220
        by_cases c23 : t350 = (l1.length : Int)
        ·
         rw [if_pos c23] at H
         have c23b0 : (t350 == (l1.length : Int)) = true := beq_iff_eq.mpr c23
         have c23b1 : (t350 != (l1.length : Int)) = false := bne_eq_false_iff_eq.mpr c23
         clear c23
         replace H := Option.bind_eq_some_iff.mp H
         obtain ⟨⟨t356, t357, t360, t361⟩, A240, H⟩ := H
         replace H : (tontinelaw18_RingLast.j1 k1 l1 t342 ji18 (t356 != (wrap64 ((l1.length : Int) - (ji18))))) = some r := H
         have A24 := Goto.m0 A240
         clear A240
         have H' := Goto.m0 H
         clear H
         obtain ⟨Ao25, co25, eo25⟩ := Kd.R_slice HO344.out
         subst eo25
         go_wp2_with (first | (go_at_call 33; (with_reducible refine (ring_Ring_Last.calls gb328 (fun k_ => some k_ = (v346 : Value).ownBlock) v346 t345 t348 t349 t350 t351 t354 t355 w _ ?side1 ?side2 ?side3 ?side4 A22.out).mono ?_); (case side1 => exact by (with_reducible repeat first | refine blk_drewN ?_ _ | refine blk_drew ?_ | refine blk_alloc ?_ _); exact BK328.out); (case side2 => exact GE328.out); (case side3 => repeat (first | (with_reducible first | exact HB.out | apply below_alloc | apply pw_below_drewN | apply below_drew1 | refine below_set ?_ GE328.out) | exact HB.out)); (case side4 => exact Kd.R_tight rfl HO347.out); rintro e w26 ⟨v352, rfl, ho0, hi, hb, hkp⟩; have n0_ := Goto.m0 (hi); have n1_ := Goto.m0 (Kd.R_mono (ok' := fun k_ => some k_ ≠ (v352 : Value).ownBlock) (Kd.R_keptB ((Kd.R_types HO344.out BK328.out (by decide))) hkp (fun k_ hk_ hs_ => Or.elim hs_ (fun hs_ => (hk_.1) hs_) (fun e_ => (hk_.2) e_))) (fun k_ hk_ => fun e_ => Or.elim (ho0.1 k_ e_.symm) (fun hs_ => hk_.2.1 (.inl hs_)) (fun hn_ => Nat.not_le.2 hk_.2.2 hn_))); have n2_ := Goto.m0 (Kd.R_mono (ok' := fun k_ => some k_ ≠ (.slice Ao25 t342.length co25 : Value).ownBlock) ho0 (fun k_ hk_ => Or.elim hk_ (fun hs_ => fun e_ => ((((Kd.R_types HO344.out BK328.out (by decide))).1 k_ e_.symm).1) hs_) (fun hn_ => (Kd.fresh' (Kd.R_lt (by (with_reducible repeat (first | apply Kd.R_alloc | apply Kd.R_drewN | apply Kd.R_drew)); exact HO344.out)) k_ hn_)))); have n3_ := Goto.m0 (hb); clear BK328; clear HO344; clear HB; clear HO347; have BK328 := n0_; have HO344 := n1_; have HO353 := n2_; have HB := n3_; clear n0_ n1_ n2_ n3_; (try clear hb); (try clear hkp); (try clear ho0)) | (go_at_call 34; (with_reducible refine (ring_Ring_Lost.calls gb328 (fun k_ => some k_ = (v352 : Value).ownBlock) v352 t351 t354 t355 t356 t357 t360 t361 w _ ?side1 ?side2 ?side3 ?side4 A24.out).mono ?_); (case side1 => exact by (with_reducible repeat first | refine blk_drewN ?_ _ | refine blk_drew ?_ | refine blk_alloc ?_ _); exact BK328.out); (case side2 => exact GE328.out); (case side3 => repeat (first | (with_reducible first | exact HB.out | apply below_alloc | apply pw_below_drewN | apply below_drew1 | refine below_set ?_ GE328.out) | exact HB.out)); (case side4 => exact Kd.R_tight rfl HO353.out); rintro e w27 ⟨v358, rfl, ho0, hi, hb, hkp⟩; have n0_ := Goto.m0 (hi); have n1_ := Goto.m0 (Kd.R_mono (ok' := fun k_ => some k_ ≠ (v358 : Value).ownBlock) (Kd.R_keptB ((Kd.R_types HO344.out BK328.out (by decide))) hkp (fun k_ hk_ hs_ => Or.elim hs_ (fun hs_ => (hk_.1) hs_) (fun e_ => (hk_.2) e_))) (fun k_ hk_ => fun e_ => Or.elim (ho0.1 k_ e_.symm) (fun hs_ => hk_.2.1 (.inl hs_)) (fun hn_ => Nat.not_le.2 hk_.2.2 hn_))); have n2_ := Goto.m0 (Kd.R_mono (ok' := fun k_ => some k_ ≠ (.slice Ao25 t342.length co25 : Value).ownBlock) ho0 (fun k_ hk_ => Or.elim hk_ (fun hs_ => fun e_ => ((((Kd.R_types HO344.out BK328.out (by decide))).1 k_ e_.symm).1) hs_) (fun hn_ => (Kd.fresh' (Kd.R_lt (by (with_reducible repeat (first | apply Kd.R_alloc | apply Kd.R_drewN | apply Kd.R_drew)); exact HO344.out)) k_ hn_)))); have n3_ := Goto.m0 (hb); clear BK328; clear HO344; clear HB; clear HO353; have BK328 := n0_; have HO344 := n1_; have HO359 := n2_; have HB := n3_; clear n0_ n1_ n2_ n3_; (try clear hb); (try clear hkp); (try clear ho0)))
         go_meet
         case rel => exact ⟨_, ((t356 != (wrap64 ((l1.length : Int) - (ji18))))), (t357), (t360), (t361), (v358), (by first | rfl | (simp; done) | (simp only [← hji18] <;> (first | rfl | simp)) | (simp [*]; done)), H', ⟨by have := HK1.out; first | omega | exact Nat.le_refl _⟩, ⟨by (with_reducible repeat (first | apply Kd.R_alloc | apply Kd.R_drewN | apply Kd.R_drew)); exact HO344.out⟩, ⟨by (with_reducible repeat (first | apply Kd.R_alloc | apply Kd.R_drewN | apply Kd.R_drew)); exact HO359.out⟩, ⟨Goto.bx BK328⟩, ⟨Goto.hx HB⟩⟩
        ·
         rw [if_neg c23] at H
         have c23b0 : (t350 == (l1.length : Int)) = false := beq_eq_false_iff_ne.mpr c23
         have c23b1 : (t350 != (l1.length : Int)) = true := bne_iff_ne.mpr c23
         have H' := Goto.m0 H
         clear H
         obtain ⟨Ao28, co28, eo28⟩ := Kd.R_slice HO344.out
         subst eo28
         go_wp2_with (first | (go_at_call 33; (with_reducible refine (ring_Ring_Last.calls gb328 (fun k_ => some k_ = (v346 : Value).ownBlock) v346 t345 t348 t349 t350 t351 t354 t355 w _ ?side1 ?side2 ?side3 ?side4 A22.out).mono ?_); (case side1 => exact by (with_reducible repeat first | refine blk_drewN ?_ _ | refine blk_drew ?_ | refine blk_alloc ?_ _); exact BK328.out); (case side2 => exact GE328.out); (case side3 => repeat (first | (with_reducible first | exact HB.out | apply below_alloc | apply pw_below_drewN | apply below_drew1 | refine below_set ?_ GE328.out) | exact HB.out)); (case side4 => exact Kd.R_tight rfl HO347.out); rintro e w29 ⟨v352, rfl, ho0, hi, hb, hkp⟩; have n0_ := Goto.m0 (hi); have n1_ := Goto.m0 (Kd.R_mono (ok' := fun k_ => some k_ ≠ (v352 : Value).ownBlock) (Kd.R_keptB ((Kd.R_types HO344.out BK328.out (by decide))) hkp (fun k_ hk_ hs_ => Or.elim hs_ (fun hs_ => (hk_.1) hs_) (fun e_ => (hk_.2) e_))) (fun k_ hk_ => fun e_ => Or.elim (ho0.1 k_ e_.symm) (fun hs_ => hk_.2.1 (.inl hs_)) (fun hn_ => Nat.not_le.2 hk_.2.2 hn_))); have n2_ := Goto.m0 (Kd.R_mono (ok' := fun k_ => some k_ ≠ (.slice Ao28 t342.length co28 : Value).ownBlock) ho0 (fun k_ hk_ => Or.elim hk_ (fun hs_ => fun e_ => ((((Kd.R_types HO344.out BK328.out (by decide))).1 k_ e_.symm).1) hs_) (fun hn_ => (Kd.fresh' (Kd.R_lt (by (with_reducible repeat (first | apply Kd.R_alloc | apply Kd.R_drewN | apply Kd.R_drew)); exact HO344.out)) k_ hn_)))); have n3_ := Goto.m0 (hb); clear BK328; clear HO344; clear HB; clear HO347; have BK328 := n0_; have HO344 := n1_; have HO353 := n2_; have HB := n3_; clear n0_ n1_ n2_ n3_; (try clear hb); (try clear hkp); (try clear ho0)))
         go_meet
         case rel => exact ⟨_, (true), (t351), (t354), (t355), (v352), (by first | rfl | (simp; done) | (simp [*]; done)), H', ⟨by have := HK1.out; first | omega | exact Nat.le_refl _⟩, ⟨by (with_reducible repeat (first | apply Kd.R_alloc | apply Kd.R_drewN | apply Kd.R_drew)); exact HO344.out⟩, ⟨by (with_reducible repeat (first | apply Kd.R_alloc | apply Kd.R_drewN | apply Kd.R_drew)); exact HO353.out⟩, ⟨Goto.bx BK328⟩, ⟨Goto.hx HB⟩⟩
       ·
        rw [if_neg c21] at H
        have c21b0 : ((t342.length : Int) == (ji18)) = false := beq_eq_false_iff_ne.mpr c21
        have c21b1 : ((t342.length : Int) != (ji18)) = true := bne_iff_ne.mpr c21
        (first | rw [c21b0] | (simp only [i64_w, i32_w]; rw [c21b0]) | skip)
        have H' := Goto.m0 H
        clear H
        obtain ⟨Ao30, co30, eo30⟩ := Kd.R_slice HO344.out
        subst eo30
        go_wp2
        go_meet
        case rel => exact ⟨_, (true), (t345), (t348), (t349), (v346), (by first | rfl | (simp; done) | (simp [*]; done)), H', ⟨by have := HK1.out; first | omega | exact Nat.le_refl _⟩, ⟨by (with_reducible repeat (first | apply Kd.R_alloc | apply Kd.R_drewN | apply Kd.R_drew)); exact HO344.out⟩, ⟨by (with_reducible repeat (first | apply Kd.R_alloc | apply Kd.R_drewN | apply Kd.R_drew)); exact HO347.out⟩, ⟨Goto.bx BK328⟩, ⟨Goto.hx HB⟩⟩
      case rest =>
       clear HC19; try clear c1; try clear c2; try clear p2; try clear c3; try clear p3; try clear q3; try clear hx3; try clear c4; try clear c5; try clear c5b0; try clear c5b1; try clear p6; try clear c10; try clear c12; try clear c12b0; try clear c13; try clear c13b0; try clear c21; try clear c21b0; try clear c21b1; try clear c23; try clear c23b0; try clear c23b1; try clear c26; try clear c27; try clear c29; try clear hx334_0; try clear hx334_1; try clear hx334_2; try clear hx334_3; try clear hx335_0; try clear hx335_1; try clear hx335_2; try clear hx335_3; try clear hx336_0; try clear hx336_1; try clear hx336_2; try clear hx336_3; try clear p2; try clear p334; try clear p335; try clear p336; try clear q334; try clear q335; try clear q336
       obtain ⟨kq, x70_18, x329000_18, x329001_18, x329002_18, u329000, rfl, HA, HJ18, HO_8, HO_329000, BK328, HB⟩ := hcut
       cases kq with
       | zero => exact absurd HA.out (by simp [tontinelaw18_RingLast.j1])
       | succ kj18 =>
        have H := HA.out; clear HA
        simp only [tontinelaw18_RingLast.j1] at H
        by_cases c31 : x70_18 = true
        ·
         subst c31
         rw [if_pos rfl] at H
         exact absurd ((Option.some.inj H).trans HRT.out) (by decide)
        ·
         replace c31 := Bool.eq_false_iff.mpr c31
         subst c31
         rw [if_neg (show ¬ (false = true) by decide)] at H
         have H' := Goto.m0 H
         clear H
         go_wp2
         go_loopg [10] kj18 (fun kq v10 w' => ∃ (x10_3 : Int), v10 = .int .i64 x10_3 ∧ Aside0 (tontinelaw18_RingLast.l1 kq l1 t342 ji18 x10_3 = some r) ∧ Aside0 (kq ≤ kj18) ∧ Aside0 (Kd.R k43 43 w' w.heap.size (fun k_ => some k_ ≠ (u329000 : Value).ownBlock) v343 t342) ∧ Aside0 (Kd.R k43 43 w' w.heap.size (fun k_ => some k_ ≠ (v343 : Value).ownBlock) u329000 x329000_18) ∧ Aside0 (w'.heap[gb328]? = some (.cells #[u329000, .int .i64 x329001_18, .int .i64 x329002_18] 79 (0, 0))) ∧ Aside0 (Below w.heap.size w w'))
         case atStart => exact ⟨(0), (by first | rfl | (simp; done) | (simp [*]; done)), H', ⟨Nat.le_refl _⟩, ⟨by (with_reducible repeat (first | apply Kd.R_alloc | apply Kd.R_drewN | apply Kd.R_drew)); exact HO_8.out⟩, ⟨by (with_reducible repeat (first | apply Kd.R_alloc | apply Kd.R_drewN | apply Kd.R_drew)); exact HO_329000.out⟩, ⟨Goto.bx BK328⟩, ⟨Goto.hx HB⟩⟩
         case round =>
          clear H'
          try clear c1; try clear c2; try clear p2; try clear c3; try clear p3; try clear q3; try clear hx3; try clear c4; try clear c5; try clear c5b0; try clear c5b1; try clear p6; try clear c10; try clear c12; try clear c12b0; try clear c13; try clear c13b0; try clear c21; try clear c21b0; try clear c21b1; try clear c23; try clear c23b0; try clear c23b1; try clear c26; try clear c27; try clear c29; try clear c31; try clear hx334_0; try clear hx334_1; try clear hx334_2; try clear hx334_3; try clear hx335_0; try clear hx335_1; try clear hx335_2; try clear hx335_3; try clear hx336_0; try clear hx336_1; try clear hx336_2; try clear hx336_3; try clear p2; try clear p3; try clear p334; try clear p335; try clear p336; try clear p6; try clear q3; try clear q334; try clear q335; try clear q336
          obtain ⟨x10_3, rfl, HA, HK3, HO_8, HO_329000, BK328, HB⟩ := hrel
          cases gk with
          | zero => exact absurd HA.out (by simp [tontinelaw18_RingLast.l1])
          | succ k3 =>
           have H := HA.out; clear HA
           simp only [tontinelaw18_RingLast.l1] at H
           by_cases c32 : x10_3 < ji18
           ·
            rw [if_pos c32] at H
            have c32b0 : decide (x10_3 < ji18) = true := decide_eq_true c32
            clear c32
            obtain ⟨ji33, hji33⟩ : ∃ j_ : Int, (wrap64 ((wrap64 ((l1.length : Int) - ji18)) + x10_3)) = j_ := ⟨_, rfl⟩
            (try rw [hji33] at hji7)
            (try rw [hji33] at hji7w)
            (try rw [hji33] at hji8)
            (try rw [hji33] at hji8w)
            (try rw [hji33] at hji18)
            (try rw [hji33] at hji18w)
            replace H : (if 0 ≤ (ji33) then (if (ji33) < (l1.length : Int) then (if 0 ≤ x10_3 then (if x10_3 < (t342.length : Int) then (if (!(((rd_T43 t342 x10_3).f0) == (wrap64 ((ji33) + 1))) || (!(((rd_T43 t342 x10_3).f1) == ((rd_T43 l1 (ji33)).f1)) || (!(((rd_T43 t342 x10_3).f2) == ((rd_T43 l1 (ji33)).f2)) || (!(((rd_T43 t342 x10_3).f3) == ((rd_T43 l1 (ji33)).f3)))))) = true then (some false) else (tontinelaw18_RingLast.l1 k3 l1 t342 ji18 (wrap64 (x10_3 + 1)))) else (none)) else (none)) else (none)) else (none)) = some r := by first | (rw [hji33] at H; exact H) | (simp only [hji33] at H ⊢; exact H)
            have hji33w : (IntKind.i64.wrap ((wrap64 ((l1.length : Int) - ji18)) + x10_3)) = ji33 := (i64_w _).trans hji33
            by_cases c34 : 0 ≤ (ji33)
            ·
             rw [if_pos c34] at H
             have c34b0 : decide (0 ≤ (ji33)) = true := decide_eq_true c34
             clear c34
             by_cases c35 : (ji33) < (l1.length : Int)
             ·
              rw [if_pos c35] at H
              have c35b0 : decide ((ji33) < (l1.length : Int)) = true := decide_eq_true c35
              clear c35
              by_cases c36 : 0 ≤ x10_3
              ·
               rw [if_pos c36] at H
               have c36b0 : decide (0 ≤ x10_3) = true := decide_eq_true c36
               clear c36
               by_cases c37 : x10_3 < (t342.length : Int)
               ·
                rw [if_pos c37] at H
                have c37b0 : decide (x10_3 < (t342.length : Int)) = true := decide_eq_true c37
                clear c37
                by_cases c38 : (!(((rd_T43 t342 x10_3).f0) == (wrap64 ((ji33) + 1))) || (!(((rd_T43 t342 x10_3).f1) == ((rd_T43 l1 (ji33)).f1)) || (!(((rd_T43 t342 x10_3).f2) == ((rd_T43 l1 (ji33)).f2)) || (!(((rd_T43 t342 x10_3).f3) == ((rd_T43 l1 (ji33)).f3)))))) = true
                ·
                 rw [if_pos c38] at H
                 have c38b0 : (!(((rd_T43 t342 x10_3).f0) == (wrap64 ((ji33) + 1))) || (!(((rd_T43 t342 x10_3).f1) == ((rd_T43 l1 (ji33)).f1)) || (!(((rd_T43 t342 x10_3).f2) == ((rd_T43 l1 (ji33)).f2)) || (!(((rd_T43 t342 x10_3).f3) == ((rd_T43 l1 (ji33)).f3)))))) = true := c38
                 clear c38
                 exact absurd ((Option.some.inj H).trans HRT.out) (by decide)
                ·
                 rw [if_neg c38] at H
                 have c38b0 : (!(((rd_T43 t342 x10_3).f0) == (wrap64 ((ji33) + 1))) || (!(((rd_T43 t342 x10_3).f1) == ((rd_T43 l1 (ji33)).f1)) || (!(((rd_T43 t342 x10_3).f2) == ((rd_T43 l1 (ji33)).f2)) || (!(((rd_T43 t342 x10_3).f3) == ((rd_T43 l1 (ji33)).f3)))))) = false := by simpa using c38
                 clear c38
                 have H' := Goto.m0 H
                 clear H
                 have p362 : 0 ≤ ((ji33) : Int) := of_decide_eq_true (by first | (with_reducible assumption) | assumption)
                 have q362 : (ji33) < (l1.length : Int) := of_decide_eq_true (by first | (with_reducible assumption) | assumption)
                 obtain ⟨ad362, e362, hx362_0, hx362_1, hx362_2, hx362_3⟩ := at_T43 HR1.out (ji33) p362 q362
                 cases e362
                 replace hx362_0 := Goto.kc HB.out hx362_0
                 replace hx362_1 := Goto.kc HB.out hx362_1
                 replace hx362_2 := Goto.kc HB.out hx362_2
                 replace hx362_3 := Goto.kc HB.out hx362_3
                 replace p362 := eq_true p362; replace q362 := eq_true q362
                 try go_wp2_with (first | ((with_reducible refine gate_dst (N := 11) rfl ?_); (try (refine gate_guard (by rfl) ?_; dsimp only)); refine box_event ?hg (N := 11) ?hd (cs := #[.int .i64 0, .int .i64 0, .int .i64 0, .int .i64 0]) (t := 43) ?hr ?_; (case hd => rfl); (case hg => rfl); (case hr => first | (go_simp; done) | (go_simp; rfl)); intro gb363 hg w39 hbox hb; have BK363 := Goto.m0 (hbox); have GW363 := Goto.gs HB hg; have GE363 := Goto.gs HB hg; have NB328_363 := Goto.nl BK328 hg; have NB363_328 := Goto.nr BK328 hg; replace HO_8 := Goto.m0 (Kd.R_below (Kd.R_elderB (by (with_reducible repeat (first | apply Kd.R_alloc | apply Kd.R_drewN | apply Kd.R_drew)); exact HO_8.out) gb363 (Nat.le_of_eq hg.symm)) hb); replace HO_329000 := Goto.m0 (Kd.R_below (Kd.R_elderB (by (with_reducible repeat (first | apply Kd.R_alloc | apply Kd.R_drewN | apply Kd.R_drew)); exact HO_329000.out) gb363 (Nat.le_of_eq hg.symm)) hb); replace BK328 := Goto.bb BK328 hb; replace HB := Goto.hs HB hb; clear hb hbox hg; have hnb40 := NB363_328.out; have hnc40 := NB328_363.out; have hcz41_0 : w39.cell? ⟨gb363, 0, none⟩ = some (.int .i64 0) := (blk_cell BK363.out 0).trans rfl; have hcz41_1 : w39.cell? ⟨gb363, 1, none⟩ = some (.int .i64 0) := (blk_cell BK363.out 1).trans rfl; have hcz41_2 : w39.cell? ⟨gb363, 2, none⟩ = some (.int .i64 0) := (blk_cell BK363.out 2).trans rfl; have hcz41_3 : w39.cell? ⟨gb363, 3, none⟩ = some (.int .i64 0) := (blk_cell BK363.out 3).trans rfl; have hfz41_0 := blk_frozen BK363.out 0; have hfz41_1 := blk_frozen BK363.out 1; have hfz41_2 := blk_frozen BK363.out 2; have hfz41_3 := blk_frozen BK363.out 3))
                 have n0_ : Aside0 (Kd.R k43 43 (((((w39.setCell ⟨gb363, 0, none⟩ (.int .i64 ((rd_T43 l1 (ji33)).f0))).setCell ⟨gb363, 1, none⟩ (.int .i64 ((rd_T43 l1 (ji33)).f1))).setCell ⟨gb363, 2, none⟩ (.int .i64 ((rd_T43 l1 (ji33)).f2))).setCell ⟨gb363, 3, none⟩ (.int .i64 ((rd_T43 l1 (ji33)).f3))).setCell ⟨gb363, 0, none⟩ (.int .i64 (wrap64 ((ji33) + 1)))) w.heap.size (fun k_ => some k_ ≠ (u329000 : Value).ownBlock ∧ k_ ≠ gb363) v343 t342) := ⟨by (with_reducible repeat (first | apply Kd.R_alloc | apply Kd.R_drewN | apply Kd.R_drew)); exact Kd.R_mono (Kd.R_far (p := ⟨gb363, 0, none⟩) (Kd.R_far (p := ⟨gb363, 3, none⟩) (Kd.R_far (p := ⟨gb363, 2, none⟩) (Kd.R_far (p := ⟨gb363, 1, none⟩) (Kd.R_far (p := ⟨gb363, 0, none⟩) (Goto.nx gb363 HO_8.out (fun k_ hk => hk.2)) (fun _ hk => hk.2) (.int .i64 ((rd_T43 l1 (ji33)).f0))) (fun _ hk => hk.2) (.int .i64 ((rd_T43 l1 (ji33)).f1))) (fun _ hk => hk.2) (.int .i64 ((rd_T43 l1 (ji33)).f2))) (fun _ hk => hk.2) (.int .i64 ((rd_T43 l1 (ji33)).f3))) (fun _ hk => hk.2) (.int .i64 (wrap64 ((ji33) + 1)))) (fun _ hk => ⟨hk.1.1, hk.1.2⟩)⟩
                 have n1_ : Aside0 (Kd.R k43 43 (((((w39.setCell ⟨gb363, 0, none⟩ (.int .i64 ((rd_T43 l1 (ji33)).f0))).setCell ⟨gb363, 1, none⟩ (.int .i64 ((rd_T43 l1 (ji33)).f1))).setCell ⟨gb363, 2, none⟩ (.int .i64 ((rd_T43 l1 (ji33)).f2))).setCell ⟨gb363, 3, none⟩ (.int .i64 ((rd_T43 l1 (ji33)).f3))).setCell ⟨gb363, 0, none⟩ (.int .i64 (wrap64 ((ji33) + 1)))) w.heap.size (fun k_ => some k_ ≠ (v343 : Value).ownBlock ∧ k_ ≠ gb363) u329000 x329000_18) := ⟨by (with_reducible repeat (first | apply Kd.R_alloc | apply Kd.R_drewN | apply Kd.R_drew)); exact Kd.R_mono (Kd.R_far (p := ⟨gb363, 0, none⟩) (Kd.R_far (p := ⟨gb363, 3, none⟩) (Kd.R_far (p := ⟨gb363, 2, none⟩) (Kd.R_far (p := ⟨gb363, 1, none⟩) (Kd.R_far (p := ⟨gb363, 0, none⟩) (Goto.nx gb363 HO_329000.out (fun k_ hk => hk.2)) (fun _ hk => hk.2) (.int .i64 ((rd_T43 l1 (ji33)).f0))) (fun _ hk => hk.2) (.int .i64 ((rd_T43 l1 (ji33)).f1))) (fun _ hk => hk.2) (.int .i64 ((rd_T43 l1 (ji33)).f2))) (fun _ hk => hk.2) (.int .i64 ((rd_T43 l1 (ji33)).f3))) (fun _ hk => hk.2) (.int .i64 (wrap64 ((ji33) + 1)))) (fun _ hk => ⟨hk.1.1, hk.1.2⟩)⟩
                 have n2_ : Aside0 ((((((w39.setCell ⟨gb363, 0, none⟩ (.int .i64 ((rd_T43 l1 (ji33)).f0))).setCell ⟨gb363, 1, none⟩ (.int .i64 ((rd_T43 l1 (ji33)).f1))).setCell ⟨gb363, 2, none⟩ (.int .i64 ((rd_T43 l1 (ji33)).f2))).setCell ⟨gb363, 3, none⟩ (.int .i64 ((rd_T43 l1 (ji33)).f3))).setCell ⟨gb363, 0, none⟩ (.int .i64 (wrap64 ((ji33) + 1)))).heap[gb328]? = some (.cells #[u329000, .int .i64 x329001_18, .int .i64 x329002_18] 79 (0, 0))) := ⟨Goto.bx BK328⟩
                 have n3_ : Aside0 ((((((w39.setCell ⟨gb363, 0, none⟩ (.int .i64 ((rd_T43 l1 (ji33)).f0))).setCell ⟨gb363, 1, none⟩ (.int .i64 ((rd_T43 l1 (ji33)).f1))).setCell ⟨gb363, 2, none⟩ (.int .i64 ((rd_T43 l1 (ji33)).f2))).setCell ⟨gb363, 3, none⟩ (.int .i64 ((rd_T43 l1 (ji33)).f3))).setCell ⟨gb363, 0, none⟩ (.int .i64 (wrap64 ((ji33) + 1)))).heap[gb363]? = some (.cells #[.int .i64 (wrap64 ((ji33) + 1)), .int .i64 ((rd_T43 l1 (ji33)).f1), .int .i64 ((rd_T43 l1 (ji33)).f2), .int .i64 ((rd_T43 l1 (ji33)).f3)] 43 (0, 0))) := ⟨Goto.bx BK363⟩
                 have n4_ : Aside0 (Below w.heap.size w (((((w39.setCell ⟨gb363, 0, none⟩ (.int .i64 ((rd_T43 l1 (ji33)).f0))).setCell ⟨gb363, 1, none⟩ (.int .i64 ((rd_T43 l1 (ji33)).f1))).setCell ⟨gb363, 2, none⟩ (.int .i64 ((rd_T43 l1 (ji33)).f2))).setCell ⟨gb363, 3, none⟩ (.int .i64 ((rd_T43 l1 (ji33)).f3))).setCell ⟨gb363, 0, none⟩ (.int .i64 (wrap64 ((ji33) + 1))))) := ⟨Goto.hx HB⟩
                 (try clear HO_8)
                 (try clear HO_329000)
                 (try clear BK328)
                 (try clear BK363)
                 (try clear HB)
                 generalize (((((w39.setCell ⟨gb363, 0, none⟩ (.int .i64 ((rd_T43 l1 (ji33)).f0))).setCell ⟨gb363, 1, none⟩ (.int .i64 ((rd_T43 l1 (ji33)).f1))).setCell ⟨gb363, 2, none⟩ (.int .i64 ((rd_T43 l1 (ji33)).f2))).setCell ⟨gb363, 3, none⟩ (.int .i64 ((rd_T43 l1 (ji33)).f3))).setCell ⟨gb363, 0, none⟩ (.int .i64 (wrap64 ((ji33) + 1)))) = w42 at n0_ n1_ n2_ n3_ n4_ ⊢
                 have HO_8 := n0_; have HO_329000 := n1_; have BK328 := n2_; have BK363 := n3_; have HB := n4_; clear n0_ n1_ n2_ n3_ n4_
                 replace HO_8 := Goto.m0 (Kd.R_drew HO_8.out); replace HO_329000 := Goto.m0 (Kd.R_drew HO_329000.out); replace BK328 := Goto.m0 (blk_drew BK328.out); replace BK363 := Goto.m0 (blk_drew BK363.out); replace HB := Goto.m0 (below_drew1 HB.out)
                 obtain ⟨Ao44, co44, eo44⟩ := Kd.R_slice HO_8.out
                 (first | subst eo44 | (injection eo44 with f1_ f2_ f3_; have f4_ := f1_.symm; have f5_ := f3_.symm; clear f1_ f2_ f3_; subst f4_; subst f5_))
                 have p364 : 0 ≤ (x10_3 : Int) := of_decide_eq_true (by first | (with_reducible assumption) | assumption)
                 have q364 : x10_3 < (t342.length : Int) := of_decide_eq_true (by first | (with_reducible assumption) | assumption)
                 obtain ⟨ad364, e364, hx364_0, hx364_1, hx364_2, hx364_3⟩ := at_T43 (Kd.R_reads' HO_8.out).2.2 x10_3 p364 q364
                 cases e364
                 replace p364 := eq_true p364; replace q364 := eq_true q364
                 refine start_ (n := 6) (S := fun w' => w'.cell? ⟨gb363, 0, none⟩ = some (.int .i64 (wrap64 ((ji33) + 1))) ∧ w'.cell? ⟨gb363, 1, none⟩ = some (.int .i64 ((rd_T43 l1 (ji33)).f1)) ∧ w'.cell? ⟨gb363, 2, none⟩ = some (.int .i64 ((rd_T43 l1 (ji33)).f2)) ∧ w'.cell? ⟨gb363, 3, none⟩ = some (.int .i64 ((rd_T43 l1 (ji33)).f3)) ∧ w'.cell? (ad364.add ((x10_3).toNat * 4)) = some (.int .i64 ((rd_T43 t342 x10_3).f0)) ∧ w'.cell? ⟨(ad364.add ((x10_3).toNat * 4)).block, (ad364.add ((x10_3).toNat * 4)).off + 1, none⟩ = some (.int .i64 ((rd_T43 t342 x10_3).f1)) ∧ w'.cell? ⟨(ad364.add ((x10_3).toNat * 4)).block, (ad364.add ((x10_3).toNat * 4)).off + 2, none⟩ = some (.int .i64 ((rd_T43 t342 x10_3).f2)) ∧ w'.cell? ⟨(ad364.add ((x10_3).toNat * 4)).block, (ad364.add ((x10_3).toNat * 4)).off + 3, none⟩ = some (.int .i64 ((rd_T43 t342 x10_3).f3))) (ds := []) #[false, false, false, false, false, false] (by kernel_rfl) rfl rfl ⟨(blk_cell BK363.out 0).trans rfl, (blk_cell BK363.out 1).trans rfl, (blk_cell BK363.out 2).trans rfl, (blk_cell BK363.out 3).trans rfl, hx364_0, hx364_1, hx364_2, hx364_3⟩ (fun hHeld => ?_)
                 generalize w42.drew = w43 at HO_8 HO_329000 BK328 BK363 HB hx364_0 hx364_1 hx364_2 hx364_3 hHeld ⊢
                 refine pure_ (i := 0) (N := some 93) (v := ?_) (a' := ?_) #[true, false, false, false, false, false] rfl rfl (by kernel_rfl) (fun _ _ _ h => h) (Or.inl ⟨by rfl, ?_⟩) ?_ ?_
                 rotate_left
                 ·
                  intro w'
                  go_simp
                  with_reducible rfl
                 rotate_left
                 ·
                  exact Goto.ap
                 refine pure_ (i := 1) (N := some 94) (v := ?_) (a' := ?_) #[true, true, false, false, false, false] rfl rfl (by kernel_rfl) (fun _ _ _ h => h) (Or.inl ⟨by rfl, ?_⟩) ?_ ?_
                 rotate_left
                 ·
                  intro w'
                  go_simp
                  with_reducible rfl
                 rotate_left
                 ·
                  exact Goto.ap
                 refine pure_ (i := 2) (N := some 95) (v := ?_) (a' := ?_) #[true, true, true, false, false, false] rfl rfl (by kernel_rfl) (fun _ _ _ h => h) (Or.inl ⟨by rfl, ?_⟩) ?_ ?_
                 rotate_left
                 ·
                  intro w'
                  go_simp
                  with_reducible rfl
                 rotate_left
                 ·
                  exact Goto.ap
                 refine take_ (i := 3) (N := some 96) (v := ?_) (a' := ?_) #[true, true, true, true, false, false] rfl rfl (by kernel_rfl) (fun _ _ _ h => h) (Or.inl ⟨by rfl, ?_⟩) hHeld ?_ ?_
                 rotate_left
                 ·
                  rintro w' ⟨s0, s1, s2, s3, s4, s5, s6, s7⟩
                  go_simp
                  with_reducible rfl
                 rotate_left
                 ·
                  exact Goto.ap
                 refine take_ (i := 4) (N := some 97) (v := ?_) (a' := ?_) #[true, true, true, true, true, false] rfl rfl (by kernel_rfl) (fun _ _ _ h => h) (Or.inl ⟨by rfl, ?_⟩) hHeld ?_ ?_
                 rotate_left
                 ·
                  rintro w' ⟨s0, s1, s2, s3, s4, s5, s6, s7⟩
                  go_simp
                  with_reducible rfl
                 rotate_left
                 ·
                  exact Goto.ap
                 refine pure_ (i := 5) (N := some 98) (v := ?_) (a' := ?_) #[true, true, true, true, true, true] rfl rfl (by kernel_rfl) (fun _ _ _ h => h) (Or.inl ⟨by rfl, ?_⟩) ?_ ?_
                 rotate_left
                 ·
                  intro w'
                  go_simp
                  with_reducible rfl
                 rotate_left
                 ·
                  exact Goto.ap
                 refine done_ (by kernel_rfl) ?_
                 try go_wp2
                 go_roundg k3
                 case measure => have := HK1.out; have := HJ18.out; have := HK3.out; omega
                 case rel => exact ⟨(wrap64 (x10_3 + 1)), (by first | rfl | (simp; done) | (simp [*]; done)), H', ⟨by have := HK1.out; have := HJ18.out; have := HK3.out; omega⟩, ⟨by (with_reducible repeat (first | apply Kd.R_alloc | apply Kd.R_drewN | apply Kd.R_drew)); exact Kd.R_mono HO_8.out (fun _ hk => hk.1)⟩, ⟨by (with_reducible repeat (first | apply Kd.R_alloc | apply Kd.R_drewN | apply Kd.R_drew)); exact Kd.R_mono HO_329000.out (fun _ hk => hk.1)⟩, ⟨Goto.bx BK328⟩, ⟨Goto.hx HB⟩⟩
               ·
                rw [if_neg c37] at H
                exact absurd H (by simp)
              ·
               rw [if_neg c36] at H
               exact absurd H (by simp)
             ·
              rw [if_neg c35] at H
              exact absurd H (by simp)
            ·
             rw [if_neg c34] at H
             exact absurd H (by simp)
           ·
            rw [if_neg c32] at H
            have c32b0 : decide (x10_3 < ji18) = false := decide_eq_false c32
            clear c32
            obtain rfl := Option.some.inj H
            go_wp2
            go_ret
            exact ⟨by first | rfl | (simp [errW_none, errW_some] <;> rfl) | (simp only [← hji7, ← hji8, ← hji18]; first | rfl | (simp [errW_none, errW_some] <;> rfl)) | (simp [*, errW_none, errW_some] <;> rfl), by repeat (first | (with_reducible first | exact HB.out | apply below_alloc | apply pw_below_drewN | apply below_drew1 | refine below_set ?_ GE328.out) | exact HB.out)⟩
 ·
  replace c4 := Bool.eq_false_iff.mpr c4
  subst c4
  rw [if_neg (show ¬ (false = true) by decide)] at H
  exact absurd ((Option.some.inj H).trans HRT.out) (by decide)

end Go.Proofs.Ytpbcamdjcnokfaa.P
