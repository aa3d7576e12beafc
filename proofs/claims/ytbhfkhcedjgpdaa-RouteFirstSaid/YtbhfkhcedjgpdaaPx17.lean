/- Printed by a program of this workplace (a turned copy of the kit's optional print), out of the translation; not trusted: Lean checks it. -/
import Derived.Test.YtbhfkhcedjgpdaaPx0
import Derived.Test.YtbhfkhcedjgpdaaPx5
import Derived.Test.YtbhfkhcedjgpdaaPx6
namespace Go.Proofs.Ytbhfkhcedjgpdaa.P
open Go.RowKit Go.Proofs.YtbhfkhcedjgpdaaW.PrintWords Go.Proofs.YtbhfkhcedjgpdaaW.PrintLast Go.Proofs.YtbhfkhcedjgpdaaW.PrintMore
attribute [local go_sem] max2_int min2_int max_two min_two max_three min_three max_four min_four   -- for this text's walks alone
set_option linter.unusedVariables false
set_option linter.unusedSimpArgs false

/-! ### tontinelaw16_RouteFirst: function 5 -/
mutual
def tontinelaw16_RouteFirst.j0 : Nat → List Int → List Bool → Bool → Option (Bool)
  | 0, _, _, _ => none
  | k + 1, x0, x1, x18 => if x18 = true then (some true) else (tontinelaw16_RouteFirst.l0 k x0 x1 ([] : List Int) 0)
def tontinelaw16_RouteFirst.l0 : Nat → List Int → List Bool → List Int → Int → Option (Bool)
  | 0, _, _, _, _ => none
  | k + 1, x0, x1, x5, x6 => if x6 < (x0.length : Int) then (if 0 ≤ x6 then (if x5.length < 17592186044416 then (tontinelaw16_RouteFirst.l0 k x0 x1 (x5 ++ [wrap64 ((wrap64 (Int.tmod (rd x0 x6) 24)) - 2)]) (wrap64 (x6 + 1))) else (none)) else (none)) else ((route_First.f k x5 x1).bind fun t394 => (tontinelaw16_RouteFirst.l1 k x1 x5 t394 0))
def tontinelaw16_RouteFirst.l1 : Nat → List Bool → List Int → Int → Int → Option (Bool)
  | 0, _, _, _, _ => none
  | k + 1, x1, x5, x7, x8 => if x8 < (x5.length : Int) then (if 0 ≤ x8 then (if (rd x5 x8) ≥ 0 then (if (rd x5 x8) < (x1.length : Int) then (if 0 ≤ (rd x5 x8) then (tontinelaw16_RouteFirst.j3 k x1 x5 x7 x8 (rdOf false x1 (rd x5 x8))) else (none)) else (tontinelaw16_RouteFirst.j3 k x1 x5 x7 x8 false)) else (tontinelaw16_RouteFirst.j3 k x1 x5 x7 x8 false)) else (none)) else (some (x7 == (-1)))
def tontinelaw16_RouteFirst.j3 : Nat → List Bool → List Int → Int → Int → Bool → Option (Bool)
  | 0, _, _, _, _, _ => none
  | k + 1, x1, x5, x7, x8, x66 => if x66 = true then (if 0 ≤ x8 then (if x8 < (x5.length : Int) then (some (x7 == (rd x5 x8))) else (none)) else (none)) else (tontinelaw16_RouteFirst.l1 k x1 x5 x7 (wrap64 (x8 + 1)))
end
def tontinelaw16_RouteFirst.f (k : Nat) (l0 : List Int) (l1 : List Bool) : Option (Bool) := (tontinelaw16_known.f k).bind fun t389 => (if t389 = true then (if (l0.length : Int) > 20 then (tontinelaw16_RouteFirst.j0 k l0 l1 true) else (tontinelaw16_RouteFirst.j0 k l0 l1 (decide ((l1.length : Int) > 20)))) else (some false))
theorem tontinelaw16_RouteFirst.mono_l : ∀ k, (∀ y0 y1 y2, LeO (tontinelaw16_RouteFirst.j0 k y0 y1 y2) (tontinelaw16_RouteFirst.j0 (k + 1) y0 y1 y2)) ∧ (∀ y0 y1 y2 y3, LeO (tontinelaw16_RouteFirst.l0 k y0 y1 y2 y3) (tontinelaw16_RouteFirst.l0 (k + 1) y0 y1 y2 y3)) ∧ (∀ y0 y1 y2 y3, LeO (tontinelaw16_RouteFirst.l1 k y0 y1 y2 y3) (tontinelaw16_RouteFirst.l1 (k + 1) y0 y1 y2 y3)) ∧ (∀ y0 y1 y2 y3 y4, LeO (tontinelaw16_RouteFirst.j3 k y0 y1 y2 y3 y4) (tontinelaw16_RouteFirst.j3 (k + 1) y0 y1 y2 y3 y4))
  | 0 => ⟨fun _ _ _ r h => by simp [tontinelaw16_RouteFirst.j0] at h, fun _ _ _ _ r h => by simp [tontinelaw16_RouteFirst.l0] at h, fun _ _ _ _ r h => by simp [tontinelaw16_RouteFirst.l1] at h, fun _ _ _ _ _ r h => by simp [tontinelaw16_RouteFirst.j3] at h⟩
  | k + 1 => by
    obtain ⟨ih0, ih1, ih2, ih3⟩ := tontinelaw16_RouteFirst.mono_l k
    refine ⟨?_, ?_, ?_, ?_⟩
    · intro y0 y1 y2
      unfold tontinelaw16_RouteFirst.j0
      repeat' first
      | (with_reducible exact ih0 _ _ _)
      | (with_reducible exact ih1 _ _ _ _)
      | (with_reducible exact ih2 _ _ _ _)
      | (with_reducible exact ih3 _ _ _ _ _)
      | (with_reducible exact route_First.mono _ _ _)
      | (with_reducible exact tontinelaw16_known.mono _)
      | (with_reducible exact LeO.refl _)
      | (with_reducible exact LeO.none _)
      | (with_reducible refine LeO.ite ?_ ?_)
      | (with_reducible refine LeO.bind ?_ (fun _ => ?_))
      | exact ih0 _ _ _
      | exact ih1 _ _ _ _
      | exact ih2 _ _ _ _
      | exact ih3 _ _ _ _ _
      | exact route_First.mono _ _ _
      | exact tontinelaw16_known.mono _
      | exact LeO.none _
      | refine LeO.ite ?_ ?_
      | refine LeO.bind ?_ (fun _ => ?_)
    · intro y0 y1 y2 y3
      unfold tontinelaw16_RouteFirst.l0
      repeat' first
      | (with_reducible exact ih0 _ _ _)
      | (with_reducible exact ih1 _ _ _ _)
      | (with_reducible exact ih2 _ _ _ _)
      | (with_reducible exact ih3 _ _ _ _ _)
      | (with_reducible exact route_First.mono _ _ _)
      | (with_reducible exact tontinelaw16_known.mono _)
      | (with_reducible exact LeO.refl _)
      | (with_reducible exact LeO.none _)
      | (with_reducible refine LeO.ite ?_ ?_)
      | (with_reducible refine LeO.bind ?_ (fun _ => ?_))
      | exact ih0 _ _ _
      | exact ih1 _ _ _ _
      | exact ih2 _ _ _ _
      | exact ih3 _ _ _ _ _
      | exact route_First.mono _ _ _
      | exact tontinelaw16_known.mono _
      | exact LeO.none _
      | refine LeO.ite ?_ ?_
      | refine LeO.bind ?_ (fun _ => ?_)
    · intro y0 y1 y2 y3
      unfold tontinelaw16_RouteFirst.l1
      repeat' first
      | (with_reducible exact ih0 _ _ _)
      | (with_reducible exact ih1 _ _ _ _)
      | (with_reducible exact ih2 _ _ _ _)
      | (with_reducible exact ih3 _ _ _ _ _)
      | (with_reducible exact route_First.mono _ _ _)
      | (with_reducible exact tontinelaw16_known.mono _)
      | (with_reducible exact LeO.refl _)
      | (with_reducible exact LeO.none _)
      | (with_reducible refine LeO.ite ?_ ?_)
      | (with_reducible refine LeO.bind ?_ (fun _ => ?_))
      | exact ih0 _ _ _
      | exact ih1 _ _ _ _
      | exact ih2 _ _ _ _
      | exact ih3 _ _ _ _ _
      | exact route_First.mono _ _ _
      | exact tontinelaw16_known.mono _
      | exact LeO.none _
      | refine LeO.ite ?_ ?_
      | refine LeO.bind ?_ (fun _ => ?_)
    · intro y0 y1 y2 y3 y4
      unfold tontinelaw16_RouteFirst.j3
      repeat' first
      | (with_reducible exact ih0 _ _ _)
      | (with_reducible exact ih1 _ _ _ _)
      | (with_reducible exact ih2 _ _ _ _)
      | (with_reducible exact ih3 _ _ _ _ _)
      | (with_reducible exact route_First.mono _ _ _)
      | (with_reducible exact tontinelaw16_known.mono _)
      | (with_reducible exact LeO.refl _)
      | (with_reducible exact LeO.none _)
      | (with_reducible refine LeO.ite ?_ ?_)
      | (with_reducible refine LeO.bind ?_ (fun _ => ?_))
      | exact ih0 _ _ _
      | exact ih1 _ _ _ _
      | exact ih2 _ _ _ _
      | exact ih3 _ _ _ _ _
      | exact route_First.mono _ _ _
      | exact tontinelaw16_known.mono _
      | exact LeO.none _
      | refine LeO.ite ?_ ?_
      | refine LeO.bind ?_ (fun _ => ?_)
theorem tontinelaw16_RouteFirst.mono : ∀ a0 a1 k, LeO (tontinelaw16_RouteFirst.f k a0 a1) (tontinelaw16_RouteFirst.f (k + 1) a0 a1) := by
 intro a0 a1 k
 obtain ⟨ih0, ih1, ih2, ih3⟩ := tontinelaw16_RouteFirst.mono_l k
 unfold tontinelaw16_RouteFirst.f
 repeat' first
   | (with_reducible exact ih0 _ _ _)
   | (with_reducible exact ih1 _ _ _ _)
   | (with_reducible exact ih2 _ _ _ _)
   | (with_reducible exact ih3 _ _ _ _ _)
   | (with_reducible exact route_First.mono _ _ _)
   | (with_reducible exact tontinelaw16_known.mono _)
   | (with_reducible exact LeO.refl _)
   | (with_reducible exact LeO.none _)
   | (with_reducible refine LeO.ite ?_ ?_)
   | (with_reducible refine LeO.bind ?_ (fun _ => ?_))
   | exact ih0 _ _ _
   | exact ih1 _ _ _ _
   | exact ih2 _ _ _ _
   | exact ih3 _ _ _ _ _
   | exact route_First.mono _ _ _
   | exact tontinelaw16_known.mono _
   | exact LeO.none _
   | refine LeO.ite ?_ ?_
   | refine LeO.bind ?_ (fun _ => ?_)
set_option maxHeartbeats 8000000 in
set_option maxRecDepth 100000 in
theorem tontinelaw16_RouteFirst.calls (k : Nat) (A0 : Option Addr) (c0 : Nat) (l0 : List Int) (A1 : Option Addr) (c1 : Nat) (l1 : List Bool) (r : Bool) (hrt : r = true) (w : World) (hr0 : Kd.C (Kd.int .u8) w A0 l0.length l0) (hc0 : l0.length ≤ c0) (hr1 : Kd.C Kd.bool w A1 l1.length l1) (hc1 : l1.length ≤ c1) (h : tontinelaw16_RouteFirst.f k l0 l1 = some r) :
    Calls Try.prog 5 #[.slice A0 l0.length c0, .slice A1 l1.length c1] w fun e w' => e = .returned (.bool r) ∧ Below w.heap.size w w' := by
 have HR0 := Goto.m0 hr0
 have HC0 := Goto.m0 hc0
 clear hr0 hc0
 have HR1 := Goto.m0 hr1
 have HC1 := Goto.m0 hc1
 clear hr1 hc1
 have HB := Goto.m0 (Below.refl w.heap.size w)
 have HRT := Goto.m0 hrt
 clear hrt
 have H : ((tontinelaw16_known.f k).bind fun t389 => (if t389 = true then (if (l0.length : Int) > 20 then (tontinelaw16_RouteFirst.j0 k l0 l1 true) else (tontinelaw16_RouteFirst.j0 k l0 l1 (decide ((l1.length : Int) > 20)))) else (some false))) = some r := h
 clear h
 replace H := Option.bind_eq_some_iff.mp H
 obtain ⟨t389, A30, H⟩ := H
 have A3 := Goto.m0 A30
 clear A30
 by_cases c4 : t389 = true
 ·
  subst c4
  rw [if_pos rfl] at H
  have HC5 := Goto.m0 H
  clear H
  go_enter Try.func5, Try.ntmps5
  go_upto_region 3 with (first | ((with_reducible refine gate_callee (f := 12) rfl ?_); refine goesL_ (some 9) rfl rfl Try.func12 (by kernel_rfl) rfl #[] rfl (by (try simp only [List.map_toArray, List.map_cons, List.map_nil]); first | done | rfl | (simp only [List.length_drop, List.length_take]; rfl)) ?_; (with_reducible refine (tontinelaw16_known.calls k  true (by first | rfl | assumption | (simp only [Bool.not_eq_true, Bool.not_eq_false] at *; assumption)) _ A3.out).mono ?_); rintro e w6 ⟨rfl, hb⟩; refine ⟨_, rfl, ?_⟩; replace HB := Goto.hs HB hb; (try clear hb); (try clear hb2); (try clear hk); (try clear hi)))
  (try simp only [Act.put, List.setIfInBounds_toArray, List.set_cons_zero, List.set_cons_succ])
  go_cut [18] (fun v18 wc => ∃ (kq : Nat) (x18_4 : Bool), v18 = .bool x18_4 ∧ Aside0 (tontinelaw16_RouteFirst.j0 kq l0 l1 x18_4 = some r) ∧ Aside0 (kq ≤ k) ∧ Aside0 (Below w.heap.size w wc))
  case first =>
   have H := HC5.out; clear HC5
   by_cases c7 : (l0.length : Int) > 20
   ·
    rw [if_pos c7] at H
    have c7b0 : decide (20 < (l0.length : Int)) = true := decide_eq_true c7
    have c7b1 : decide (20 < l0.length) = true := decide_eq_true (by omega)
    clear c7
    (first | rw [c7b0] | (simp only [i64_w, i32_w]; rw [c7b0]) | skip)
    have H' := Goto.m0 H
    clear H
    go_wp2
    go_meet
    case rel => exact ⟨_, (true), (by first | rfl | (simp; done) | (simp [*]; done)), H', ⟨by first | omega | exact Nat.le_refl _⟩, ⟨Goto.hx HB⟩⟩
   ·
    rw [if_neg c7] at H
    have c7b0 : decide (20 < (l0.length : Int)) = false := decide_eq_false c7
    have c7b1 : decide (20 < l0.length) = false := decide_eq_false (by omega)
    clear c7
    (first | rw [c7b0] | (simp only [i64_w, i32_w]; rw [c7b0]) | skip)
    have H' := Goto.m0 H
    clear H
    go_wp2
    go_meet
    case rel => exact ⟨_, (decide ((l1.length : Int) > 20)), (by first | rfl | (simp; done) | (simp [*]; done)), H', ⟨by first | omega | exact Nat.le_refl _⟩, ⟨Goto.hx HB⟩⟩
  case rest =>
   clear HC5; try clear c1; try clear p2; try clear c4; try clear c5; try clear c7; try clear c7b0; try clear c7b1
   obtain ⟨kq, x18_4, rfl, HA, HJ4, HB⟩ := hcut
   cases kq with
   | zero => exact absurd HA.out (by simp [tontinelaw16_RouteFirst.j0])
   | succ kj4 =>
    have H := HA.out; clear HA
    simp only [tontinelaw16_RouteFirst.j0] at H
    by_cases c8 : x18_4 = true
    ·
     subst c8
     rw [if_pos rfl] at H
     obtain rfl := Option.some.inj H
     go_wp2
     go_ret
     exact ⟨by first | rfl | (simp [errW_none, errW_some] <;> rfl) | (simp [*, errW_none, errW_some] <;> rfl), by repeat (first | (with_reducible first | exact HB.out | apply below_alloc | apply pw_below_drewN | apply below_drew1) | exact HB.out)⟩
    ·
     replace c8 := Bool.eq_false_iff.mpr c8
     subst c8
     rw [if_neg (show ¬ (false = true) by decide)] at H
     have H' := Goto.m0 H
     clear H
     go_wp2
     go_loopg [5, 6] kj4 (fun kq v5 v6 w' => ∃ (x5_2 : List Int) (x6_2 : Int), v6 = .int .i64 x6_2 ∧ Aside0 (tontinelaw16_RouteFirst.l0 kq l0 l1 x5_2 x6_2 = some r) ∧ Aside0 (kq ≤ kj4) ∧ Aside0 (Kd.R (Kd.int .i64) 3 w' w.heap.size (fun _ => True) v5 x5_2) ∧ Aside0 (Below w.heap.size w w'))
     case atStart => exact ⟨(([] : List Int)), (0), (by first | rfl | (simp; done) | (simp [*]; done)), H', ⟨Nat.le_refl _⟩, ⟨by first | exact Kd.R_nil _ _ _ _ _ | exact Kd.N_nil _ _ _ _ _ | exact Kd.V_nil _ _ _ _ _ | exact Kd.Q_nil _ _ _ _ _ | exact Kd.S_nil _ _ _ _ _⟩, ⟨Goto.hx HB⟩⟩
     case round =>
      clear H'
      try clear c1; try clear p2; try clear c4; try clear c5; try clear c7; try clear c7b0; try clear c7b1; try clear c8; try clear p2
      obtain ⟨x5_2, x6_2, rfl, HA, HK2, HO_5, HB⟩ := hrel
      cases gk with
      | zero => exact absurd HA.out (by simp [tontinelaw16_RouteFirst.l0])
      | succ k2 =>
       have H := HA.out; clear HA
       simp only [tontinelaw16_RouteFirst.l0] at H
       by_cases c9 : x6_2 < (l0.length : Int)
       ·
        rw [if_pos c9] at H
        have c9b0 : decide (x6_2 < (l0.length : Int)) = true := decide_eq_true c9
        clear c9
        by_cases c10 : 0 ≤ x6_2
        ·
         rw [if_pos c10] at H
         have c10b0 : decide (0 ≤ x6_2) = true := decide_eq_true c10
         clear c10
         by_cases c11 : x5_2.length < 17592186044416
         ·
          rw [if_pos c11] at H
          have LMc11 := Goto.m0 c11
          clear c11
          obtain ⟨y391, hy391⟩ : ∃ y_ : List Int, y_ = (x5_2 ++ [wrap64 ((wrap64 (Int.tmod (rd l0 x6_2) 24)) - 2)]) := ⟨_, rfl⟩
          replace H : (tontinelaw16_RouteFirst.l0 k2 l0 l1 y391 (wrap64 (x6_2 + 1))) = some r := by first | (rw [hy391]; with_reducible exact H) | (have H2_ := (Option.bind_some _ _).symm.trans H; rw [hy391]; with_reducible exact H2_) | (have H2_ := (Option.bind_some _ _).symm.trans H; with_reducible exact H2_) | with_reducible exact H | (rw [hy391]; exact H) | exact H
          have Ny391 := Goto.m0 hy391
          clear hy391
          have H' := Goto.m0 H
          clear H
          have p390 : 0 ≤ (x6_2 : Int) := of_decide_eq_true (by first | (with_reducible assumption) | assumption)
          have q390 : x6_2 < (l0.length : Int) := of_decide_eq_true (by first | (with_reducible assumption) | assumption)
          obtain ⟨ad390, e390, hx390_0⟩ := Kd.at_int HR0.out x6_2 p390 q390
          cases e390
          replace hx390_0 := Goto.kc HB.out hx390_0
          replace p390 := eq_true p390; replace q390 := eq_true q390
          go_wp2_with (first | ((with_reducible refine gate_builtin (b := .append) (xs := #[.tmp 25, .tmp 33]) rfl ?_); (try (refine gate_guard (by rfl) ?_; dsimp only)); at_builtin; refine Kd.R_append (Kd.int .i64) (w0 := w) w.heap.size rfl (.tmp 25) (.tmp 33) 26 3 (.int .i64 0) 8 rfl Try.underlying26 info3 rfl (by decide) (by omega) u5 x5_2 (wrap64 ((wrap64 (Int.tmod (rd l0 x6_2) 24)) - 2)) [.int .i64 (wrap64 ((wrap64 (Int.tmod (rd l0 x6_2) 24)) - 2))] (fun _ => True) (fun _ => False) rfl rfl ?aP (fun _ hk => hk.elim) ?aF ?aO ?aB ?aS ?aL ?_; (case aP => exact rfl); (case aB => exact (Goto.hx HB)); (case aF => exact (fun _ _ => trivial)); (case aO => exact (by (with_reducible repeat (first | apply Kd.R_alloc | apply Kd.R_drewN | apply Kd.R_drew)); exact HO_5.out)); (case aS => exact (below_size (Goto.hx HB))); (case aL => have := LMc11.out; omega); intro v392 w12 ho hb hg hat; rw [← Ny391.out] at ho; have n0_ := Goto.m0 (hb); have n1_ := Goto.m0 (ho); clear HB; clear HO_5; have HB := n0_; have HO393 := n1_; clear n0_ n1_; clear ho hb hg hat))
          go_roundg k2
          case measure => have := HJ4.out; have := HK2.out; omega
          case rel => exact ⟨(y391), (wrap64 (x6_2 + 1)), (by first | rfl | (simp; done) | (simp [*]; done)), H', ⟨by have := HJ4.out; have := HK2.out; omega⟩, ⟨by (with_reducible repeat (first | apply Kd.R_alloc | apply Kd.R_drewN | apply Kd.R_drew)); exact HO393.out⟩, ⟨Goto.hx HB⟩⟩
         ·
          rw [if_neg c11] at H
          exact absurd H (by simp)
        ·
         rw [if_neg c10] at H
         exact absurd H (by simp)
       ·
        rw [if_neg c9] at H
        have c9b0 : decide (x6_2 < (l0.length : Int)) = false := decide_eq_false c9
        clear c9
        replace H := Option.bind_eq_some_iff.mp H
        obtain ⟨t394, A130, H⟩ := H
        have A13 := Goto.m0 A130
        clear A130
        have H' := Goto.m0 H
        clear H
        obtain ⟨Ao14, co14, eo14⟩ := Kd.R_slice HO_5.out
        subst eo14
        go_wp2_with (first | ((with_reducible refine gate_callee (f := 24) rfl ?_); refine goesL_ (some 37) rfl rfl Try.func24 (by kernel_rfl) rfl #[.slice Ao14 x5_2.length co14, .slice A1 l1.length c1] rfl (by (try simp only [List.map_toArray, List.map_cons, List.map_nil]); first | done | rfl | (simp only [List.length_drop, List.length_take]; rfl)) ?_; (with_reducible refine (route_First.calls k2 (fun k_ => some k_ = (.slice Ao14 x5_2.length co14 : Value).ownBlock) _ _ x5_2 _ _ l1 t394 _ ?side1 ?side2 ?side3 A13.out).mono ?_); (case side1 => exact Kd.R_V (Kd.R_tight rfl (HO_5.out))); (case side2 => repeat (first | exact (Kd.C_below HR1.out HB.out) | (with_reducible refine Kd.C_alloc ?_ _) | (with_reducible refine Kd.C_drewN ?_ _) | (with_reducible refine Kd.C_drew ?_))); (case side3 => exact HC1.out); rintro e w15 ⟨rfl, hb⟩; refine ⟨_, rfl, ?_⟩; replace HO_5 := Goto.m0 (Kd.R_below (by (with_reducible repeat (first | apply Kd.R_alloc | apply Kd.R_drewN | apply Kd.R_drew)); exact HO_5.out) hb); replace HB := Goto.hs HB hb; (try clear hb); (try clear hb2); (try clear hk); (try clear hi)))
        go_loopg [8] k2 (fun kq v8 w' => ∃ (x8_3 : Int), v8 = .int .i64 x8_3 ∧ Aside0 (tontinelaw16_RouteFirst.l1 kq l1 x5_2 t394 x8_3 = some r) ∧ Aside0 (kq ≤ k2) ∧ Aside0 (Kd.R (Kd.int .i64) 3 w' w.heap.size (fun _ => True) (.slice Ao14 x5_2.length co14) x5_2) ∧ Aside0 (Below w.heap.size w w'))
        case atStart => exact ⟨(0), (by first | rfl | (simp; done) | (simp [*]; done)), H', ⟨Nat.le_refl _⟩, ⟨by (with_reducible repeat (first | apply Kd.R_alloc | apply Kd.R_drewN | apply Kd.R_drew)); exact HO_5.out⟩, ⟨Goto.hx HB⟩⟩
        case round =>
         clear H'
         try clear c1; try clear c2; try clear p2; try clear p3; try clear q3; try clear hx3; try clear c4; try clear c5; try clear p6; try clear c7; try clear c7b0; try clear c7b1; try clear c8; try clear c9; try clear c9b0; try clear c10; try clear c10b0; try clear c11; try clear c12; try clear hx390_0; try clear p2; try clear p390; try clear q390
         obtain ⟨x8_3, rfl, HA, HK3, HO_5, HB⟩ := hrel
         cases gk with
         | zero => exact absurd HA.out (by simp [tontinelaw16_RouteFirst.l1])
         | succ k3 =>
          have H := HA.out; clear HA
          simp only [tontinelaw16_RouteFirst.l1] at H
          by_cases c16 : x8_3 < (x5_2.length : Int)
          ·
           rw [if_pos c16] at H
           have c16b0 : decide (x8_3 < (x5_2.length : Int)) = true := decide_eq_true c16
           clear c16
           have HC17 := Goto.m0 H
           clear H
           go_upto_region 14 with (fail)
           go_cut [66] (fun v66 wc => ∃ (kq : Nat) (x66_16 : Bool), v66 = .bool x66_16 ∧ Aside0 (tontinelaw16_RouteFirst.j3 kq l1 x5_2 t394 x8_3 x66_16 = some r) ∧ Aside0 (kq ≤ k3) ∧ Aside0 (Kd.R (Kd.int .i64) 3 wc w.heap.size (fun _ => True) (.slice Ao14 x5_2.length co14) x5_2) ∧ Aside0 (Below w.heap.size w wc))
           case first =>
            have H := HC17.out; clear HC17
            by_cases c18 : 0 ≤ x8_3
            ·
             rw [if_pos c18] at H
             have c18b0 : decide (0 ≤ x8_3) = true := decide_eq_true c18
             clear c18
             (first | rw [c18b0] | (simp only [i64_w, i32_w]; rw [c18b0]) | skip)
             by_cases c19 : (rd x5_2 x8_3) ≥ 0
             ·
              rw [if_pos c19] at H
              have c19b0 : decide (0 ≤ (rd x5_2 x8_3)) = true := decide_eq_true c19
              clear c19
              by_cases c20 : (rd x5_2 x8_3) < (l1.length : Int)
              ·
               rw [if_pos c20] at H
               have c20b0 : decide ((rd x5_2 x8_3) < (l1.length : Int)) = true := decide_eq_true c20
               clear c20
               by_cases c21 : 0 ≤ (rd x5_2 x8_3)
               ·
                rw [if_pos c21] at H
                have c21b0 : decide (0 ≤ (rd x5_2 x8_3)) = true := decide_eq_true c21
                clear c21
                have H' := Goto.m0 H
                clear H
                have p395 : 0 ≤ (x8_3 : Int) := of_decide_eq_true (by first | (with_reducible assumption) | assumption)
                have q395 : x8_3 < (x5_2.length : Int) := of_decide_eq_true (by first | (with_reducible assumption) | assumption)
                obtain ⟨ad395, e395, hx395_0⟩ := Kd.at_int (Kd.R_reads' HO_5.out).2.2 x8_3 p395 q395
                cases e395
                replace p395 := eq_true p395; replace q395 := eq_true q395
                have p396 : 0 ≤ (x8_3 : Int) := of_decide_eq_true (by first | (with_reducible assumption) | assumption)
                have q396 : x8_3 < (x5_2.length : Int) := of_decide_eq_true (by first | (with_reducible assumption) | assumption)
                obtain ⟨ad396, e396, hx396_0⟩ := Kd.at_int (Kd.R_reads' HO_5.out).2.2 x8_3 p396 q396
                obtain rfl : ad395 = ad396 := (by injection e396)
                replace p396 := eq_true p396; replace q396 := eq_true q396
                have p397 : 0 ≤ (x8_3 : Int) := of_decide_eq_true (by first | (with_reducible assumption) | assumption)
                have q397 : x8_3 < (x5_2.length : Int) := of_decide_eq_true (by first | (with_reducible assumption) | assumption)
                obtain ⟨ad397, e397, hx397_0⟩ := Kd.at_int (Kd.R_reads' HO_5.out).2.2 x8_3 p397 q397
                obtain rfl : ad395 = ad397 := (by injection e397)
                replace p397 := eq_true p397; replace q397 := eq_true q397
                have p398 : 0 ≤ ((rd x5_2 x8_3) : Int) := of_decide_eq_true (by first | (with_reducible assumption) | assumption)
                have q398 : (rd x5_2 x8_3) < (l1.length : Int) := of_decide_eq_true (by first | (with_reducible assumption) | assumption)
                obtain ⟨ad398, e398, hx398_0⟩ := Kd.at_bool HR1.out (rd x5_2 x8_3) p398 q398
                cases e398
                replace hx398_0 := Goto.kc HB.out hx398_0
                replace p398 := eq_true p398; replace q398 := eq_true q398
                go_wp2
                go_meet
                case rel => exact ⟨_, (rdOf false l1 (rd x5_2 x8_3)), (by first | rfl | (simp; done) | (simp [*]; done)), H', ⟨by have := HJ4.out; have := HK2.out; have := HK3.out; first | omega | exact Nat.le_refl _⟩, ⟨by (with_reducible repeat (first | apply Kd.R_alloc | apply Kd.R_drewN | apply Kd.R_drew)); exact HO_5.out⟩, ⟨Goto.hx HB⟩⟩
               ·
                rw [if_neg c21] at H
                exact absurd H (by simp)
              ·
               rw [if_neg c20] at H
               have c20b0 : decide ((rd x5_2 x8_3) < (l1.length : Int)) = false := decide_eq_false c20
               clear c20
               have H' := Goto.m0 H
               clear H
               have p395 : 0 ≤ (x8_3 : Int) := of_decide_eq_true (by first | (with_reducible assumption) | assumption)
               have q395 : x8_3 < (x5_2.length : Int) := of_decide_eq_true (by first | (with_reducible assumption) | assumption)
               obtain ⟨ad395, e395, hx395_0⟩ := Kd.at_int (Kd.R_reads' HO_5.out).2.2 x8_3 p395 q395
               cases e395
               replace p395 := eq_true p395; replace q395 := eq_true q395
               have p396 : 0 ≤ (x8_3 : Int) := of_decide_eq_true (by first | (with_reducible assumption) | assumption)
               have q396 : x8_3 < (x5_2.length : Int) := of_decide_eq_true (by first | (with_reducible assumption) | assumption)
               obtain ⟨ad396, e396, hx396_0⟩ := Kd.at_int (Kd.R_reads' HO_5.out).2.2 x8_3 p396 q396
               obtain rfl : ad395 = ad396 := (by injection e396)
               replace p396 := eq_true p396; replace q396 := eq_true q396
               go_wp2
               go_meet
               case rel => exact ⟨_, (false), (by first | rfl | (simp; done) | (simp [*]; done)), H', ⟨by have := HJ4.out; have := HK2.out; have := HK3.out; first | omega | exact Nat.le_refl _⟩, ⟨by (with_reducible repeat (first | apply Kd.R_alloc | apply Kd.R_drewN | apply Kd.R_drew)); exact HO_5.out⟩, ⟨Goto.hx HB⟩⟩
             ·
              rw [if_neg c19] at H
              have c19b0 : decide (0 ≤ (rd x5_2 x8_3)) = false := decide_eq_false c19
              clear c19
              have H' := Goto.m0 H
              clear H
              have p395 : 0 ≤ (x8_3 : Int) := of_decide_eq_true (by first | (with_reducible assumption) | assumption)
              have q395 : x8_3 < (x5_2.length : Int) := of_decide_eq_true (by first | (with_reducible assumption) | assumption)
              obtain ⟨ad395, e395, hx395_0⟩ := Kd.at_int (Kd.R_reads' HO_5.out).2.2 x8_3 p395 q395
              cases e395
              replace p395 := eq_true p395; replace q395 := eq_true q395
              go_wp2
              go_meet
              case rel => exact ⟨_, (false), (by first | rfl | (simp; done) | (simp [*]; done)), H', ⟨by have := HJ4.out; have := HK2.out; have := HK3.out; first | omega | exact Nat.le_refl _⟩, ⟨by (with_reducible repeat (first | apply Kd.R_alloc | apply Kd.R_drewN | apply Kd.R_drew)); exact HO_5.out⟩, ⟨Goto.hx HB⟩⟩
            ·
             rw [if_neg c18] at H
             exact absurd H (by simp)
           case rest =>
            clear HC17; try clear c1; try clear c2; try clear p2; try clear p3; try clear q3; try clear hx3; try clear c4; try clear c5; try clear p6; try clear c7; try clear c7b0; try clear c7b1; try clear c8; try clear c9; try clear c9b0; try clear c10; try clear c10b0; try clear c11; try clear c12; try clear c16; try clear c16b0; try clear c18; try clear c18b0; try clear c19; try clear c19b0; try clear c20; try clear c20b0; try clear c21; try clear c21b0; try clear hx390_0; try clear hx395_0; try clear hx396_0; try clear hx397_0; try clear hx398_0; try clear p2; try clear p3; try clear p390; try clear p395; try clear p396; try clear p397; try clear p398; try clear p6; try clear q3; try clear q390; try clear q395; try clear q396; try clear q397; try clear q398
            obtain ⟨kq, x66_16, rfl, HA, HJ16, HO_5, HB⟩ := hcut
            cases kq with
            | zero => exact absurd HA.out (by simp [tontinelaw16_RouteFirst.j3])
            | succ kj16 =>
             have H := HA.out; clear HA
             simp only [tontinelaw16_RouteFirst.j3] at H
             by_cases c22 : x66_16 = true
             ·
              subst c22
              rw [if_pos rfl] at H
              by_cases c23 : 0 ≤ x8_3
              ·
               rw [if_pos c23] at H
               have c23b0 : decide (0 ≤ x8_3) = true := decide_eq_true c23
               clear c23
               by_cases c24 : x8_3 < (x5_2.length : Int)
               ·
                rw [if_pos c24] at H
                have c24b0 : decide (x8_3 < (x5_2.length : Int)) = true := decide_eq_true c24
                clear c24
                obtain rfl := Option.some.inj H
                have p399 : 0 ≤ (x8_3 : Int) := of_decide_eq_true (by first | (with_reducible assumption) | assumption)
                have q399 : x8_3 < (x5_2.length : Int) := of_decide_eq_true (by first | (with_reducible assumption) | assumption)
                obtain ⟨ad399, e399, hx399_0⟩ := Kd.at_int (Kd.R_reads' HO_5.out).2.2 x8_3 p399 q399
                cases e399
                replace p399 := eq_true p399; replace q399 := eq_true q399
                go_wp2
                go_ret
                exact ⟨by first | rfl | (simp [errW_none, errW_some] <;> rfl) | (simp [*, errW_none, errW_some] <;> rfl), by repeat (first | (with_reducible first | exact HB.out | apply below_alloc | apply pw_below_drewN | apply below_drew1) | exact HB.out)⟩
               ·
                rw [if_neg c24] at H
                exact absurd H (by simp)
              ·
               rw [if_neg c23] at H
               exact absurd H (by simp)
             ·
              replace c22 := Bool.eq_false_iff.mpr c22
              subst c22
              rw [if_neg (show ¬ (false = true) by decide)] at H
              have H' := Goto.m0 H
              clear H
              go_wp2
              go_roundg kj16
              case measure => have := HJ4.out; have := HK2.out; have := HK3.out; have := HJ16.out; omega
              case rel => exact ⟨(wrap64 (x8_3 + 1)), (by first | rfl | (simp; done) | (simp [*]; done)), H', ⟨by have := HJ4.out; have := HK2.out; have := HK3.out; have := HJ16.out; omega⟩, ⟨by (with_reducible repeat (first | apply Kd.R_alloc | apply Kd.R_drewN | apply Kd.R_drew)); exact HO_5.out⟩, ⟨Goto.hx HB⟩⟩
          ·
           rw [if_neg c16] at H
           have c16b0 : decide (x8_3 < (x5_2.length : Int)) = false := decide_eq_false c16
           clear c16
           obtain rfl := Option.some.inj H
           go_wp2
           go_ret
           exact ⟨by first | rfl | (simp [errW_none, errW_some] <;> rfl) | (simp [*, errW_none, errW_some] <;> rfl), by repeat (first | (with_reducible first | exact HB.out | apply below_alloc | apply pw_below_drewN | apply below_drew1) | exact HB.out)⟩
 ·
  replace c4 := Bool.eq_false_iff.mpr c4
  subst c4
  rw [if_neg (show ¬ (false = true) by decide)] at H
  exact absurd ((Option.some.inj H).trans HRT.out) (by decide)

end Go.Proofs.Ytbhfkhcedjgpdaa.P
