/- Printed by a program of this workplace (a turned copy of the kit's optional print), out of the translation; not trusted: Lean checks it. -/
import Derived.Test.YtbhfkhcedjgpdaaPx0
namespace Go.Proofs.Ytbhfkhcedjgpdaa.P
open Go.RowKit Go.Proofs.YtbhfkhcedjgpdaaW.PrintWords Go.Proofs.YtbhfkhcedjgpdaaW.PrintLast Go.Proofs.YtbhfkhcedjgpdaaW.PrintMore
attribute [local go_sem] max2_int min2_int max_two min_two max_three min_three max_four min_four   -- for this text's walks alone
set_option linter.unusedVariables false
set_option linter.unusedSimpArgs false

/-! ### route_First: function 24 -/
mutual
def route_First.l0 : Nat → List Int → List Bool → Option (Int)
  | 0, _, _ => none
  | k + 1, x0, x1 => if (x0.length : Int) = 0 then (some (-1)) else (if 0 < (x0.length : Int) then (if (rd x0 0) ≥ 0 then (if (rd x0 0) < (x1.length : Int) then (if 0 ≤ (rd x0 0) then (route_First.j1 k x0 x1 (rd x0 0) (rdOf false x1 (rd x0 0))) else (none)) else (route_First.j1 k x0 x1 (rd x0 0) false)) else (route_First.j1 k x0 x1 (rd x0 0) false)) else (none))
def route_First.j1 : Nat → List Int → List Bool → Int → Bool → Option (Int)
  | 0, _, _, _, _ => none
  | k + 1, x0, x1, x5, x25 => if x25 = true then (some x5) else (if 1 ≤ (x0.length : Int) then (route_First.l0 k (x0.drop 1) x1) else (none))
end
def route_First.f (k : Nat) (l0 : List Int) (l1 : List Bool) : Option (Int) := route_First.l0 k l0 l1
theorem route_First.mono_l : ∀ k, (∀ y0 y1, LeO (route_First.l0 k y0 y1) (route_First.l0 (k + 1) y0 y1)) ∧ (∀ y0 y1 y2 y3, LeO (route_First.j1 k y0 y1 y2 y3) (route_First.j1 (k + 1) y0 y1 y2 y3))
  | 0 => ⟨fun _ _ r h => by simp [route_First.l0] at h, fun _ _ _ _ r h => by simp [route_First.j1] at h⟩
  | k + 1 => by
    obtain ⟨ih0, ih1⟩ := route_First.mono_l k
    refine ⟨?_, ?_⟩
    · intro y0 y1
      unfold route_First.l0
      repeat' first
      | (with_reducible exact ih0 _ _)
      | (with_reducible exact ih1 _ _ _ _)
      | (with_reducible exact LeO.refl _)
      | (with_reducible exact LeO.none _)
      | (with_reducible refine LeO.ite ?_ ?_)
      | (with_reducible refine LeO.bind ?_ (fun _ => ?_))
      | exact ih0 _ _
      | exact ih1 _ _ _ _
      | exact LeO.none _
      | refine LeO.ite ?_ ?_
      | refine LeO.bind ?_ (fun _ => ?_)
    · intro y0 y1 y2 y3
      unfold route_First.j1
      repeat' first
      | (with_reducible exact ih0 _ _)
      | (with_reducible exact ih1 _ _ _ _)
      | (with_reducible exact LeO.refl _)
      | (with_reducible exact LeO.none _)
      | (with_reducible refine LeO.ite ?_ ?_)
      | (with_reducible refine LeO.bind ?_ (fun _ => ?_))
      | exact ih0 _ _
      | exact ih1 _ _ _ _
      | exact LeO.none _
      | refine LeO.ite ?_ ?_
      | refine LeO.bind ?_ (fun _ => ?_)
theorem route_First.mono : ∀ a0 a1 k, LeO (route_First.f k a0 a1) (route_First.f (k + 1) a0 a1) := by
 intro a0 a1 k
 obtain ⟨ih0, ih1⟩ := route_First.mono_l k
 unfold route_First.f
 repeat' first
   | (with_reducible exact ih0 _ _)
   | (with_reducible exact ih1 _ _ _ _)
   | (with_reducible exact LeO.refl _)
   | (with_reducible exact LeO.none _)
   | (with_reducible refine LeO.ite ?_ ?_)
   | (with_reducible refine LeO.bind ?_ (fun _ => ?_))
   | exact ih0 _ _
   | exact ih1 _ _ _ _
   | exact LeO.none _
   | refine LeO.ite ?_ ?_
   | refine LeO.bind ?_ (fun _ => ?_)
set_option maxHeartbeats 8000000 in
set_option maxRecDepth 100000 in
theorem route_First.calls (k : Nat) (P0_ : Nat → Prop) (A0 : Option Addr) (c0 : Nat) (l0 : List Int) (A1 : Option Addr) (c1 : Nat) (l1 : List Bool) (r : Int) (w : World) (hs0 : Kd.V (Kd.int .i64) 3 w w.heap.size (fun k_ => P0_ k_) (.slice A0 l0.length c0) l0) (hr1 : Kd.C Kd.bool w A1 l1.length l1) (hc1 : l1.length ≤ c1) (h : route_First.f k l0 l1 = some r) :
    Calls Try.prog 24 #[.slice A0 l0.length c0, .slice A1 l1.length c1] w fun e w' => e = .returned (.int .i64 r) ∧ Below w.heap.size w w' := by
 have HO0 := Goto.m0 (show Kd.V (Kd.int .i64) 3 w w.heap.size (fun k_ => (P0_ k_ ∨ w.heap.size ≤ k_)) (.slice A0 l0.length c0) l0 from Kd.V_mono hs0 (fun k_ hk => .inl hk))
 have HR1 := Goto.m0 hr1
 have HC1 := Goto.m0 hc1
 clear hr1 hc1
 have HB := Goto.m0 (Below.refl w.heap.size w)
 have H : (route_First.l0 k l0 l1) = some r := h
 clear h
 have H' := Goto.m0 H
 clear H
 go_enter Try.func24, Try.ntmps24
 go_wp2_with (first | (with_reducible refine Goto.scope_enter ?_))
 rename_i K0_ hK0_
 refine Goto.label_ghost (l := 0) hK0_ (fun a0_ kq a_ w' => ∃ v0 w4_ w5_ w6_ w7_ w8_ w9_ w10_ w11_ w12_ w13_ w14_ w15_ w16_ w17_ w18_ w19_ w20_ w21_ w22_ w23_ w24_ w25_ w26_ w27_ w28_ : Value, (∃ (x0_1 : List Int), Aside0 (route_First.l0 kq x0_1 l1 = some r) ∧ Aside0 (kq ≤ k) ∧ Aside0 (Kd.V (Kd.int .i64) 3 w' w.heap.size (fun k_ => (P0_ k_ ∨ w.heap.size ≤ k_)) v0 x0_1) ∧ Aside0 (Below w.heap.size w w')) ∧ a_ = { tmps := #[v0, Goto.slot a0_.tmps.toList 1, Goto.slot a0_.tmps.toList 2, Goto.slot a0_.tmps.toList 3, w4_, w5_, w6_, w7_, w8_, w9_, w10_, w11_, w12_, w13_, w14_, w15_, w16_, w17_, w18_, w19_, w20_, w21_, w22_, w23_, w24_, w25_, w26_, w27_, w28_], defers := a0_.defers }) k ?hfl_ ?atStart ?round
 case hfl_ => rfl
 case atStart => ((repeat apply Exists.intro); refine ⟨?_, ?fr_⟩; (case fr_ => ((try simp only [Goto.slot_zero, Goto.slot_succ]); rfl)); exact ⟨(l0), H', ⟨Nat.le_refl _⟩, ⟨by (with_reducible repeat (first | apply Kd.V_alloc | apply Kd.V_drewN | apply Kd.V_drew)); exact HO0.out⟩, ⟨Goto.hx HB⟩⟩)
 case round =>
  clear hK0_ K0_
  clear H'
  try clear c1; try clear c2; try clear p2
  intro gk _ wr hinv_
  obtain ⟨v0, w4_, w5_, w6_, w7_, w8_, w9_, w10_, w11_, w12_, w13_, w14_, w15_, w16_, w17_, w18_, w19_, w20_, w21_, w22_, w23_, w24_, w25_, w26_, w27_, w28_, hrel, ha_⟩ := hinv_
  subst ha_
  (try simp only [Goto.slot_zero, Goto.slot_succ])
  intro _ _ _ _
  obtain ⟨x0_1, HA, HK1, HO_0, HB⟩ := hrel
  cases gk with
  | zero => exact absurd HA.out (by simp [route_First.l0])
  | succ k1 =>
   have H := HA.out; clear HA
   simp only [route_First.l0] at H
   by_cases c3 : (x0_1.length : Int) = 0
   ·
    rw [if_pos c3] at H
    have c3b0 : ((x0_1.length : Int) == 0) = true := beq_iff_eq.mpr c3
    have c3b1 : ((x0_1.length : Int) != 0) = false := bne_eq_false_iff_eq.mpr c3
    clear c3
    obtain rfl := Option.some.inj H
    obtain ⟨Ao4, co4, eo4⟩ := Kd.V_slice HO_0.out
    subst eo4
    go_wp2_with (first | (with_reducible refine Goto.scope_enter ?_))
    (try simp only [Exit.inBlock, Exit.then])
    (try refine Goto.ret_hit ?_)
    (try refine Goto.end_hit ?_)
    go_ret
    exact ⟨Goto.er, by repeat (first | (with_reducible first | exact HB.out | apply below_alloc | apply pw_below_drewN | apply below_drew1) | exact HB.out)⟩
   ·
    rw [if_neg c3] at H
    have c3b0 : ((x0_1.length : Int) == 0) = false := beq_eq_false_iff_ne.mpr c3
    have c3b1 : ((x0_1.length : Int) != 0) = true := bne_iff_ne.mpr c3
    have c3b2 : ¬ (x0_1 = []) := fun h_ => c3 (by rw [h_]; rfl)
    by_cases c5 : 0 < (x0_1.length : Int)
    ·
     rw [if_pos c5] at H
     have c5b0 : decide (0 < (x0_1.length : Int)) = true := decide_eq_true c5
     have c5b1 : decide (0 < x0_1.length) = true := decide_eq_true (by omega)
     clear c5
     have HC6 := Goto.m0 H
     clear H
     obtain ⟨Ao7, co7, eo7⟩ := Kd.V_slice HO_0.out
     subst eo7
     have p137 : 0 ≤ (0 : Int) := (by omega)
     have q137 : 0 < (x0_1.length : Int) := Goto.od
     obtain ⟨ad137, e137, hx137_0⟩ := Kd.at_int (Kd.V_reads' HO_0.out).2.2 0 p137 q137
     cases e137
     have qi137 : (0 < x0_1.length) = True := eq_true (by omega)
     (try rw [show ((0 : Int)).toNat = 0 from rfl] at hx137_0)
     (try rw [Addr.add_zero'] at hx137_0)
     replace p137 := eq_true p137; replace q137 := eq_true q137
     go_upto_region 4 with (fail)
     go_cut [25] (fun v25 wc => ∃ (kq : Nat) (x25_5 : Bool), v25 = .bool x25_5 ∧ Aside0 (route_First.j1 kq x0_1 l1 (rd x0_1 0) x25_5 = some r) ∧ Aside0 (kq ≤ k1) ∧ Aside0 (Kd.V (Kd.int .i64) 3 wc w.heap.size (fun k_ => (P0_ k_ ∨ w.heap.size ≤ k_)) (.slice (some ad137) x0_1.length co7) x0_1) ∧ Aside0 (Below w.heap.size w wc))
     case first =>
      have H := HC6.out; clear HC6
      by_cases c8 : (rd x0_1 0) ≥ 0
      ·
       rw [if_pos c8] at H
       have c8b0 : decide (0 ≤ (rd x0_1 0)) = true := decide_eq_true c8
       clear c8
       (first | rw [c8b0] | (simp only [i64_w, i32_w]; rw [c8b0]) | skip)
       by_cases c9 : (rd x0_1 0) < (l1.length : Int)
       ·
        rw [if_pos c9] at H
        have c9b0 : decide ((rd x0_1 0) < (l1.length : Int)) = true := decide_eq_true c9
        clear c9
        by_cases c10 : 0 ≤ (rd x0_1 0)
        ·
         rw [if_pos c10] at H
         have c10b0 : decide (0 ≤ (rd x0_1 0)) = true := decide_eq_true c10
         clear c10
         have H' := Goto.m0 H
         clear H
         have p138 : 0 ≤ ((rd x0_1 0) : Int) := Goto.od
         have q138 : (rd x0_1 0) < (l1.length : Int) := Goto.od
         obtain ⟨ad138, e138, hx138_0⟩ := Kd.at_bool HR1.out (rd x0_1 0) p138 q138
         cases e138
         replace hx138_0 := Goto.kc HB.out hx138_0
         replace p138 := eq_true p138; replace q138 := eq_true q138
         go_wp2_with (first | (with_reducible refine Goto.scope_enter ?_))
         go_meet
         case rel => exact ⟨_, (rdOf false l1 (rd x0_1 0)), (by first | rfl | (simp; done) | (simp [*]; done)), H', ⟨by have := HK1.out; first | omega | exact Nat.le_refl _⟩, ⟨by (with_reducible repeat (first | apply Kd.V_alloc | apply Kd.V_drewN | apply Kd.V_drew)); exact HO_0.out⟩, ⟨Goto.hx HB⟩⟩
        ·
         rw [if_neg c10] at H
         exact absurd H (by simp)
       ·
        rw [if_neg c9] at H
        have c9b0 : decide ((rd x0_1 0) < (l1.length : Int)) = false := decide_eq_false c9
        clear c9
        have H' := Goto.m0 H
        clear H
        go_wp2_with (first | (with_reducible refine Goto.scope_enter ?_))
        go_meet
        case rel => exact ⟨_, (false), (by first | rfl | (simp; done) | (simp [*]; done)), H', ⟨by have := HK1.out; first | omega | exact Nat.le_refl _⟩, ⟨by (with_reducible repeat (first | apply Kd.V_alloc | apply Kd.V_drewN | apply Kd.V_drew)); exact HO_0.out⟩, ⟨Goto.hx HB⟩⟩
      ·
       rw [if_neg c8] at H
       have c8b0 : decide (0 ≤ (rd x0_1 0)) = false := decide_eq_false c8
       clear c8
       (first | rw [c8b0] | (simp only [i64_w, i32_w]; rw [c8b0]) | skip)
       have H' := Goto.m0 H
       clear H
       go_wp2_with (first | (with_reducible refine Goto.scope_enter ?_))
       go_meet
       case rel => exact ⟨_, (false), (by first | rfl | (simp; done) | (simp [*]; done)), H', ⟨by have := HK1.out; first | omega | exact Nat.le_refl _⟩, ⟨by (with_reducible repeat (first | apply Kd.V_alloc | apply Kd.V_drewN | apply Kd.V_drew)); exact HO_0.out⟩, ⟨Goto.hx HB⟩⟩
     case rest =>
      clear HC6; try clear c1; try clear p1; try clear q1; try clear hx1; try clear qi1; try clear c2; try clear p2; try clear c3; try clear c3b0; try clear c3b1; try clear c3b2; try clear c5; try clear c5b0; try clear c5b1; try clear c8; try clear c8b0; try clear c9; try clear c9b0; try clear c10; try clear c10b0; try clear hx137_0; try clear hx138_0; try clear p137; try clear p138; try clear p2; try clear q137; try clear q138
      obtain ⟨kq, x25_5, rfl, HA, HJ5, HO_0, HB⟩ := hcut
      cases kq with
      | zero => exact absurd HA.out (by simp [route_First.j1])
      | succ kj5 =>
       have H := HA.out; clear HA
       simp only [route_First.j1] at H
       by_cases c11 : x25_5 = true
       ·
        subst c11
        rw [if_pos rfl] at H
        obtain rfl := Option.some.inj H
        go_wp2_with (first | (with_reducible refine Goto.scope_enter ?_))
        (try simp only [Exit.inBlock, Exit.then])
        (try refine Goto.ret_hit ?_)
        (try refine Goto.end_hit ?_)
        go_ret
        exact ⟨Goto.er, by repeat (first | (with_reducible first | exact HB.out | apply below_alloc | apply pw_below_drewN | apply below_drew1) | exact HB.out)⟩
       ·
        replace c11 := Bool.eq_false_iff.mpr c11
        subst c11
        rw [if_neg (show ¬ (false = true) by decide)] at H
        by_cases c12 : 1 ≤ (x0_1.length : Int)
        ·
         rw [if_pos c12] at H
         have c12b0 := eq_true c12
         have c12b1 : decide (1 ≤ (x0_1.length : Int)) = true := decide_eq_true c12
         clear c12
         obtain ⟨y139, hy139⟩ : ∃ y_ : List Int, y_ = (x0_1.drop 1) := ⟨_, rfl⟩
         replace H : (route_First.l0 kj5 y139 l1) = some r := by first | (rw [hy139]; with_reducible exact H) | (have H2_ := (Option.bind_some _ _).symm.trans H; rw [hy139]; with_reducible exact H2_) | (have H2_ := (Option.bind_some _ _).symm.trans H; with_reducible exact H2_) | with_reducible exact H | (rw [hy139]; exact H) | exact H
         have Ny139 := Goto.m0 hy139
         clear hy139
         have H' := Goto.m0 H
         clear H
         have q13 : (1 : Int) ≤ ((x0_1.length : Int) : Int) := Goto.od
         obtain ⟨i013, hi013, _, hsz13, _⟩ := info_parts info3
         have hroom13 : x0_1.length ≤ co7 := (Kd.V_reads' HO_0.out).2.1
         have hC13 : Kd.F (Kd.int .i64) _ _ (some ad137) x0_1.length x0_1 := (Kd.V_at (base := w.heap.size) HO_0.out).2.2
         have hcut13 := cut_from (P := Try.prog) 26 3 .i64 Try.underlying26 hi013 1 hsz13 (some ad137) x0_1.length co7 1 (by omega) q13
         have hr13 := Kd.F_cut (m := (1 : Int).toNat) (c := co7) hC13 (by omega) hroom13
         obtain ⟨A13, hA13⟩ : ∃ A1, A1 = (if co7 = (1 : Int).toNat then (some ad137) else ((some ad137) : Option Addr).map (·.add ((1 : Int).toNat * 1))) := ⟨_, rfl⟩
         obtain ⟨c13, hc13⟩ : ∃ c1, c1 = co7 - (1 : Int).toNat := ⟨_, rfl⟩
         have hy13 : y139.length = x0_1.length - (1 : Int).toNat := (by rw [Ny139.out, List.length_drop] <;> omega)
         rw [show (x0_1).drop (1 : Int).toNat = y139 from Ny139.out.symm] at hr13
         replace hr13 : Kd.F (Kd.int .i64) _ _ A13 y139.length y139 := (by rw [hA13]; exact hr13)
         rw [← hy13, ← hA13, ← hc13] at hcut13
         have HO143 := Goto.m0 (show Kd.V (Kd.int .i64) 3 _ w.heap.size _ (.slice A13 y139.length c13) y139 from Kd.V_mk (by rw [hy13, hc13]; exact Nat.sub_le_sub_right hroom13 _) hr13)
         have HC143 := Goto.m0 (show y139.length ≤ c13 from by rw [hy13, hc13]; exact Nat.sub_le_sub_right hroom13 _)
         clear hr13 hC13 hroom13 hi013 hsz13 hc13
         have KY13 := Goto.m0 hy13
         have KA13 := Goto.m0 hA13
         clear hy13 hA13; replace q13 := eq_true q13
         go_wp2_with (first | (with_reducible refine Goto.scope_enter ?_))
         refine wp_goto ?_
         (try simp only [Exit.then, Exit.inBlock])
         refine Goto.jump_hit ?_
         go_step
         go_roundg kj5
         case measure => have := HK1.out; have := HJ5.out; omega
         case rel => exact ⟨(y139), H', ⟨by have := HK1.out; have := HJ5.out; omega⟩, ⟨by (with_reducible repeat (first | apply Kd.V_alloc | apply Kd.V_drewN | apply Kd.V_drew)); exact HO143.out⟩, ⟨Goto.hx HB⟩⟩
        ·
         rw [if_neg c12] at H
         exact absurd H (by simp)
    ·
     rw [if_neg c5] at H
     exact absurd H (by simp)

/-! ### tontinehelp_Base: function 35 -/
def tontinehelp_Base.f  : Option (Int × Int × (List (List Int)) × (List (S44))) := some (8, 2, (([(([2, 2, 2, 2] : List Int)), (([5, 1, 1, 1] : List Int))] : List (List Int))), (([(⟨(⟨0, 0⟩ : S42), (([(([1, 3] : List Int)), (([2, 3] : List Int))] : List (List Int))), ([] : List Int), (-1), 4, 2, 4, 3, 2⟩ : S44), (⟨(⟨1, 1⟩ : S42), (([(([3] : List Int))] : List (List Int))), (([0, 1] : List Int)), 0, 4, 2, 4, 3, 2⟩ : S44), (⟨(⟨1, 2⟩ : S42), (([(([3] : List Int))] : List (List Int))), ([] : List Int), (-1), 4, 2, 4, 3, 2⟩ : S44), (⟨(⟨2, 3⟩ : S42), ([] : List (List Int)), (([0, 1, 2] : List Int)), 1, 4, 2, 4, 3, 2⟩ : S44)] : List (S44))))
set_option maxHeartbeats 8000000 in
set_option maxRecDepth 100000 in
theorem tontinehelp_Base.calls  (r1 : Int) (r2 : Int) (r3 : List (List Int)) (r4 : List (S44)) (w : World) (h : tontinehelp_Base.f  = some (r1, r2, r3, r4)) :
    Calls Try.prog 35 #[] w fun e w' => ∃ v2_ v3_ : Value, e = .returned (.agg #[.int .i64 r1, .int .i64 r2, v2_, v3_]) ∧ Kd.N (Kd.slice 3 (Kd.int .i64)) 26 w' w.heap.size (fun k_ => (w.heap.size ≤ k_) ∧ some k_ ≠ (v3_ : Value).ownBlock) v2_ r3 ∧ Kd.N k44 44 w' w.heap.size (fun k_ => (w.heap.size ≤ k_) ∧ some k_ ≠ (v2_ : Value).ownBlock) v3_ r4 ∧ Below w.heap.size w w' := by
 have hu25 := Try.underlying25; have hu42 := Try.underlying42; have hu44 := Try.underlying44
 have HB := Goto.m0 (Below.refl w.heap.size w)
 have H : (some (8, 2, (([(([2, 2, 2, 2] : List Int)), (([5, 1, 1, 1] : List Int))] : List (List Int))), (([(⟨(⟨0, 0⟩ : S42), (([(([1, 3] : List Int)), (([2, 3] : List Int))] : List (List Int))), ([] : List Int), (-1), 4, 2, 4, 3, 2⟩ : S44), (⟨(⟨1, 1⟩ : S42), (([(([3] : List Int))] : List (List Int))), (([0, 1] : List Int)), 0, 4, 2, 4, 3, 2⟩ : S44), (⟨(⟨1, 2⟩ : S42), (([(([3] : List Int))] : List (List Int))), ([] : List Int), (-1), 4, 2, 4, 3, 2⟩ : S44), (⟨(⟨2, 3⟩ : S42), ([] : List (List Int)), (([0, 1, 2] : List Int)), 1, 4, 2, 4, 3, 2⟩ : S44)] : List (S44))))) = some (r1, r2, r3, r4) := h
 clear h
 obtain ⟨y145, hy145⟩ : ∃ y_ : List Int, y_ = (([2, 2, 2, 2] : List Int)) := ⟨_, rfl⟩
 replace H : (some (8, 2, (([y145, (([5, 1, 1, 1] : List Int))] : List (List Int))), (([(⟨(⟨0, 0⟩ : S42), (([(([1, 3] : List Int)), (([2, 3] : List Int))] : List (List Int))), ([] : List Int), (-1), 4, 2, 4, 3, 2⟩ : S44), (⟨(⟨1, 1⟩ : S42), (([(([3] : List Int))] : List (List Int))), (([0, 1] : List Int)), 0, 4, 2, 4, 3, 2⟩ : S44), (⟨(⟨1, 2⟩ : S42), (([(([3] : List Int))] : List (List Int))), ([] : List Int), (-1), 4, 2, 4, 3, 2⟩ : S44), (⟨(⟨2, 3⟩ : S42), ([] : List (List Int)), (([0, 1, 2] : List Int)), 1, 4, 2, 4, 3, 2⟩ : S44)] : List (S44))))) = some (r1, r2, r3, r4) := by first | (rw [hy145]; with_reducible exact H) | (have H2_ := (Option.bind_some _ _).symm.trans H; rw [hy145]; with_reducible exact H2_) | (have H2_ := (Option.bind_some _ _).symm.trans H; with_reducible exact H2_) | with_reducible exact H | (rw [hy145]; exact H) | exact H
 have Ny145 := Goto.m0 hy145
 clear hy145
 obtain ⟨y148, hy148⟩ : ∃ y_ : List Int, y_ = (([5, 1, 1, 1] : List Int)) := ⟨_, rfl⟩
 replace H : (some (8, 2, (([y145, y148] : List (List Int))), (([(⟨(⟨0, 0⟩ : S42), (([(([1, 3] : List Int)), (([2, 3] : List Int))] : List (List Int))), ([] : List Int), (-1), 4, 2, 4, 3, 2⟩ : S44), (⟨(⟨1, 1⟩ : S42), (([(([3] : List Int))] : List (List Int))), (([0, 1] : List Int)), 0, 4, 2, 4, 3, 2⟩ : S44), (⟨(⟨1, 2⟩ : S42), (([(([3] : List Int))] : List (List Int))), ([] : List Int), (-1), 4, 2, 4, 3, 2⟩ : S44), (⟨(⟨2, 3⟩ : S42), ([] : List (List Int)), (([0, 1, 2] : List Int)), 1, 4, 2, 4, 3, 2⟩ : S44)] : List (S44))))) = some (r1, r2, r3, r4) := by first | (rw [hy148]; with_reducible exact H) | (have H2_ := (Option.bind_some _ _).symm.trans H; rw [hy148]; with_reducible exact H2_) | (have H2_ := (Option.bind_some _ _).symm.trans H; with_reducible exact H2_) | with_reducible exact H | (rw [hy148]; exact H) | exact H
 have Ny148 := Goto.m0 hy148
 clear hy148
 obtain ⟨y151, hy151⟩ : ∃ y_ : List (List Int), y_ = (([y145, y148] : List (List Int))) := ⟨_, rfl⟩
 replace H : (some (8, 2, y151, (([(⟨(⟨0, 0⟩ : S42), (([(([1, 3] : List Int)), (([2, 3] : List Int))] : List (List Int))), ([] : List Int), (-1), 4, 2, 4, 3, 2⟩ : S44), (⟨(⟨1, 1⟩ : S42), (([(([3] : List Int))] : List (List Int))), (([0, 1] : List Int)), 0, 4, 2, 4, 3, 2⟩ : S44), (⟨(⟨1, 2⟩ : S42), (([(([3] : List Int))] : List (List Int))), ([] : List Int), (-1), 4, 2, 4, 3, 2⟩ : S44), (⟨(⟨2, 3⟩ : S42), ([] : List (List Int)), (([0, 1, 2] : List Int)), 1, 4, 2, 4, 3, 2⟩ : S44)] : List (S44))))) = some (r1, r2, r3, r4) := by first | (rw [hy151]; with_reducible exact H) | (have H2_ := (Option.bind_some _ _).symm.trans H; rw [hy151]; with_reducible exact H2_) | (have H2_ := (Option.bind_some _ _).symm.trans H; with_reducible exact H2_) | with_reducible exact H | (rw [hy151]; exact H) | exact H
 have Ny151 := Goto.m0 hy151
 clear hy151
 obtain ⟨y154, hy154⟩ : ∃ y_ : List Int, y_ = (([1, 3] : List Int)) := ⟨_, rfl⟩
 replace H : (some (8, 2, y151, (([(⟨(⟨0, 0⟩ : S42), (([y154, (([2, 3] : List Int))] : List (List Int))), ([] : List Int), (-1), 4, 2, 4, 3, 2⟩ : S44), (⟨(⟨1, 1⟩ : S42), (([(([3] : List Int))] : List (List Int))), (([0, 1] : List Int)), 0, 4, 2, 4, 3, 2⟩ : S44), (⟨(⟨1, 2⟩ : S42), (([(([3] : List Int))] : List (List Int))), ([] : List Int), (-1), 4, 2, 4, 3, 2⟩ : S44), (⟨(⟨2, 3⟩ : S42), ([] : List (List Int)), (([0, 1, 2] : List Int)), 1, 4, 2, 4, 3, 2⟩ : S44)] : List (S44))))) = some (r1, r2, r3, r4) := by first | (rw [hy154]; with_reducible exact H) | (have H2_ := (Option.bind_some _ _).symm.trans H; rw [hy154]; with_reducible exact H2_) | (have H2_ := (Option.bind_some _ _).symm.trans H; with_reducible exact H2_) | with_reducible exact H | (rw [hy154]; exact H) | exact H
 have Ny154 := Goto.m0 hy154
 clear hy154
 obtain ⟨y157, hy157⟩ : ∃ y_ : List Int, y_ = (([2, 3] : List Int)) := ⟨_, rfl⟩
 replace H : (some (8, 2, y151, (([(⟨(⟨0, 0⟩ : S42), (([y154, y157] : List (List Int))), ([] : List Int), (-1), 4, 2, 4, 3, 2⟩ : S44), (⟨(⟨1, 1⟩ : S42), (([(([3] : List Int))] : List (List Int))), (([0, 1] : List Int)), 0, 4, 2, 4, 3, 2⟩ : S44), (⟨(⟨1, 2⟩ : S42), (([(([3] : List Int))] : List (List Int))), ([] : List Int), (-1), 4, 2, 4, 3, 2⟩ : S44), (⟨(⟨2, 3⟩ : S42), ([] : List (List Int)), (([0, 1, 2] : List Int)), 1, 4, 2, 4, 3, 2⟩ : S44)] : List (S44))))) = some (r1, r2, r3, r4) := by first | (rw [hy157]; with_reducible exact H) | (have H2_ := (Option.bind_some _ _).symm.trans H; rw [hy157]; with_reducible exact H2_) | (have H2_ := (Option.bind_some _ _).symm.trans H; with_reducible exact H2_) | with_reducible exact H | (rw [hy157]; exact H) | exact H
 have Ny157 := Goto.m0 hy157
 clear hy157
 obtain ⟨y160, hy160⟩ : ∃ y_ : List (List Int), y_ = (([y154, y157] : List (List Int))) := ⟨_, rfl⟩
 replace H : (some (8, 2, y151, (([(⟨(⟨0, 0⟩ : S42), y160, ([] : List Int), (-1), 4, 2, 4, 3, 2⟩ : S44), (⟨(⟨1, 1⟩ : S42), (([(([3] : List Int))] : List (List Int))), (([0, 1] : List Int)), 0, 4, 2, 4, 3, 2⟩ : S44), (⟨(⟨1, 2⟩ : S42), (([(([3] : List Int))] : List (List Int))), ([] : List Int), (-1), 4, 2, 4, 3, 2⟩ : S44), (⟨(⟨2, 3⟩ : S42), ([] : List (List Int)), (([0, 1, 2] : List Int)), 1, 4, 2, 4, 3, 2⟩ : S44)] : List (S44))))) = some (r1, r2, r3, r4) := by first | (rw [hy160]; with_reducible exact H) | (have H2_ := (Option.bind_some _ _).symm.trans H; rw [hy160]; with_reducible exact H2_) | (have H2_ := (Option.bind_some _ _).symm.trans H; with_reducible exact H2_) | with_reducible exact H | (rw [hy160]; exact H) | exact H
 have Ny160 := Goto.m0 hy160
 clear hy160
 obtain ⟨y163, hy163⟩ : ∃ y_ : List Int, y_ = (([3] : List Int)) := ⟨_, rfl⟩
 replace H : (some (8, 2, y151, (([(⟨(⟨0, 0⟩ : S42), y160, ([] : List Int), (-1), 4, 2, 4, 3, 2⟩ : S44), (⟨(⟨1, 1⟩ : S42), (([y163] : List (List Int))), (([0, 1] : List Int)), 0, 4, 2, 4, 3, 2⟩ : S44), (⟨(⟨1, 2⟩ : S42), (([(([3] : List Int))] : List (List Int))), ([] : List Int), (-1), 4, 2, 4, 3, 2⟩ : S44), (⟨(⟨2, 3⟩ : S42), ([] : List (List Int)), (([0, 1, 2] : List Int)), 1, 4, 2, 4, 3, 2⟩ : S44)] : List (S44))))) = some (r1, r2, r3, r4) := by first | (rw [hy163]; with_reducible exact H) | (have H2_ := (Option.bind_some _ _).symm.trans H; rw [hy163]; with_reducible exact H2_) | (have H2_ := (Option.bind_some _ _).symm.trans H; with_reducible exact H2_) | with_reducible exact H | (rw [hy163]; exact H) | exact H
 have Ny163 := Goto.m0 hy163
 clear hy163
 obtain ⟨y166, hy166⟩ : ∃ y_ : List (List Int), y_ = (([y163] : List (List Int))) := ⟨_, rfl⟩
 replace H : (some (8, 2, y151, (([(⟨(⟨0, 0⟩ : S42), y160, ([] : List Int), (-1), 4, 2, 4, 3, 2⟩ : S44), (⟨(⟨1, 1⟩ : S42), y166, (([0, 1] : List Int)), 0, 4, 2, 4, 3, 2⟩ : S44), (⟨(⟨1, 2⟩ : S42), (([(([3] : List Int))] : List (List Int))), ([] : List Int), (-1), 4, 2, 4, 3, 2⟩ : S44), (⟨(⟨2, 3⟩ : S42), ([] : List (List Int)), (([0, 1, 2] : List Int)), 1, 4, 2, 4, 3, 2⟩ : S44)] : List (S44))))) = some (r1, r2, r3, r4) := by first | (rw [hy166]; with_reducible exact H) | (have H2_ := (Option.bind_some _ _).symm.trans H; rw [hy166]; with_reducible exact H2_) | (have H2_ := (Option.bind_some _ _).symm.trans H; with_reducible exact H2_) | with_reducible exact H | (rw [hy166]; exact H) | exact H
 have Ny166 := Goto.m0 hy166
 clear hy166
 obtain ⟨y169, hy169⟩ : ∃ y_ : List Int, y_ = (([0, 1] : List Int)) := ⟨_, rfl⟩
 replace H : (some (8, 2, y151, (([(⟨(⟨0, 0⟩ : S42), y160, ([] : List Int), (-1), 4, 2, 4, 3, 2⟩ : S44), (⟨(⟨1, 1⟩ : S42), y166, y169, 0, 4, 2, 4, 3, 2⟩ : S44), (⟨(⟨1, 2⟩ : S42), (([(([3] : List Int))] : List (List Int))), ([] : List Int), (-1), 4, 2, 4, 3, 2⟩ : S44), (⟨(⟨2, 3⟩ : S42), ([] : List (List Int)), (([0, 1, 2] : List Int)), 1, 4, 2, 4, 3, 2⟩ : S44)] : List (S44))))) = some (r1, r2, r3, r4) := by first | (rw [hy169]; with_reducible exact H) | (have H2_ := (Option.bind_some _ _).symm.trans H; rw [hy169]; with_reducible exact H2_) | (have H2_ := (Option.bind_some _ _).symm.trans H; with_reducible exact H2_) | with_reducible exact H | (rw [hy169]; exact H) | exact H
 have Ny169 := Goto.m0 hy169
 clear hy169
 obtain ⟨y172, hy172⟩ : ∃ y_ : List Int, y_ = (([3] : List Int)) := ⟨_, rfl⟩
 replace H : (some (8, 2, y151, (([(⟨(⟨0, 0⟩ : S42), y160, ([] : List Int), (-1), 4, 2, 4, 3, 2⟩ : S44), (⟨(⟨1, 1⟩ : S42), y166, y169, 0, 4, 2, 4, 3, 2⟩ : S44), (⟨(⟨1, 2⟩ : S42), (([y172] : List (List Int))), ([] : List Int), (-1), 4, 2, 4, 3, 2⟩ : S44), (⟨(⟨2, 3⟩ : S42), ([] : List (List Int)), (([0, 1, 2] : List Int)), 1, 4, 2, 4, 3, 2⟩ : S44)] : List (S44))))) = some (r1, r2, r3, r4) := by first | (rw [hy172]; with_reducible exact H) | (have H2_ := (Option.bind_some _ _).symm.trans H; rw [hy172]; with_reducible exact H2_) | (have H2_ := (Option.bind_some _ _).symm.trans H; with_reducible exact H2_) | with_reducible exact H | (rw [hy172]; exact H) | exact H
 have Ny172 := Goto.m0 hy172
 clear hy172
 obtain ⟨y175, hy175⟩ : ∃ y_ : List (List Int), y_ = (([y172] : List (List Int))) := ⟨_, rfl⟩
 replace H : (some (8, 2, y151, (([(⟨(⟨0, 0⟩ : S42), y160, ([] : List Int), (-1), 4, 2, 4, 3, 2⟩ : S44), (⟨(⟨1, 1⟩ : S42), y166, y169, 0, 4, 2, 4, 3, 2⟩ : S44), (⟨(⟨1, 2⟩ : S42), y175, ([] : List Int), (-1), 4, 2, 4, 3, 2⟩ : S44), (⟨(⟨2, 3⟩ : S42), ([] : List (List Int)), (([0, 1, 2] : List Int)), 1, 4, 2, 4, 3, 2⟩ : S44)] : List (S44))))) = some (r1, r2, r3, r4) := by first | (rw [hy175]; with_reducible exact H) | (have H2_ := (Option.bind_some _ _).symm.trans H; rw [hy175]; with_reducible exact H2_) | (have H2_ := (Option.bind_some _ _).symm.trans H; with_reducible exact H2_) | with_reducible exact H | (rw [hy175]; exact H) | exact H
 have Ny175 := Goto.m0 hy175
 clear hy175
 obtain ⟨y178, hy178⟩ : ∃ y_ : List Int, y_ = (([0, 1, 2] : List Int)) := ⟨_, rfl⟩
 replace H : (some (8, 2, y151, (([(⟨(⟨0, 0⟩ : S42), y160, ([] : List Int), (-1), 4, 2, 4, 3, 2⟩ : S44), (⟨(⟨1, 1⟩ : S42), y166, y169, 0, 4, 2, 4, 3, 2⟩ : S44), (⟨(⟨1, 2⟩ : S42), y175, ([] : List Int), (-1), 4, 2, 4, 3, 2⟩ : S44), (⟨(⟨2, 3⟩ : S42), ([] : List (List Int)), y178, 1, 4, 2, 4, 3, 2⟩ : S44)] : List (S44))))) = some (r1, r2, r3, r4) := by first | (rw [hy178]; with_reducible exact H) | (have H2_ := (Option.bind_some _ _).symm.trans H; rw [hy178]; with_reducible exact H2_) | (have H2_ := (Option.bind_some _ _).symm.trans H; with_reducible exact H2_) | with_reducible exact H | (rw [hy178]; exact H) | exact H
 have Ny178 := Goto.m0 hy178
 clear hy178
 obtain ⟨y181, hy181⟩ : ∃ y_ : List (S44), y_ = (([(⟨(⟨0, 0⟩ : S42), y160, ([] : List Int), (-1), 4, 2, 4, 3, 2⟩ : S44), (⟨(⟨1, 1⟩ : S42), y166, y169, 0, 4, 2, 4, 3, 2⟩ : S44), (⟨(⟨1, 2⟩ : S42), y175, ([] : List Int), (-1), 4, 2, 4, 3, 2⟩ : S44), (⟨(⟨2, 3⟩ : S42), ([] : List (List Int)), y178, 1, 4, 2, 4, 3, 2⟩ : S44)] : List (S44))) := ⟨_, rfl⟩
 replace H : (some (8, 2, y151, y181)) = some (r1, r2, r3, r4) := by first | (rw [hy181]; with_reducible exact H) | (have H2_ := (Option.bind_some _ _).symm.trans H; rw [hy181]; with_reducible exact H2_) | (have H2_ := (Option.bind_some _ _).symm.trans H; with_reducible exact H2_) | with_reducible exact H | (rw [hy181]; exact H) | exact H
 have Ny181 := Goto.m0 hy181
 clear hy181
 simp only [Option.some.injEq, Prod.mk.injEq] at H
 obtain ⟨rfl, rfl, rfl, rfl⟩ := H
 go_enter Try.func35, Try.ntmps35
 go_wp2_with (first | ((with_reducible refine gate_dst (N := 0) rfl ?_); refine box_event ?hg (N := 0) ?hd (cs := #[.int .i64 0, .int .i64 0, .slice none 0 0, .slice none 0 0]) (t := 25) ?hr ?_; (case hd => rfl); (case hg => rfl); (case hr => first | (go_simp; done) | (go_simp; rfl)); intro gb144 hg w1 hbox hb; have BK144 := Goto.m0 (hbox); have GW144 := Goto.gs HB hg; have GE144 := Goto.gs HB hg; replace HB := Goto.hs HB hb; clear hb hbox hg) | ((with_reducible refine gate_dst (N := 1) rfl ?_); refine Kd.R_lit (Kd.int .i64) _ 3 ?hg (N := 1) ?hd (xs := ([2, 2, 2, 2] : List Int)) (inner := [.int .i64 2, .int .i64 2, .int .i64 2, .int .i64 2]) (ok := fun _ => True) (okp := fun _ => True) ?hr ?hp (fun _ hk => hk) trivial (Below.refl _ _) (Nat.le_refl _) (by simp) ?_; (case hd => rfl); (case hg => rfl); (case hr => first | (go_simp; done) | (go_simp; rfl)); (case hp => exact (Reps.one (show Kd.M (Kd.int .i64) _ _ _ 2 [.int .i64 2] from rfl) (Reps.one (show Kd.M (Kd.int .i64) _ _ _ 2 [.int .i64 2] from rfl) (Reps.one (show Kd.M (Kd.int .i64) _ _ _ 2 [.int .i64 2] from rfl) (Reps.one (show Kd.M (Kd.int .i64) _ _ _ 2 [.int .i64 2] from rfl) (Reps.none _ _)))))); intro v146 w2 ho3 hb hg_ hnew_; clear hg_ hnew_; (first | rw [← Ny145.out] at ho3 | (simp only [Int.reduceToNat] at ho3; rw [← Ny145.out] at ho3)); have HO147 := Goto.m0 (Kd.R_lower (Kd.R_newM (M := fun k_ => (w.heap.size ≤ k_)) ho3 (below_size (Goto.hx HB)) (fun k_ h_ => h_)) (below_size (Goto.hx HB))); replace BK144 := Goto.bb BK144 hb; replace HB := Goto.hs HB hb; clear hb ho3) | ((with_reducible refine gate_dst (N := 2) rfl ?_); refine Kd.R_lit (Kd.int .i64) _ 3 ?hg (N := 2) ?hd (xs := ([5, 1, 1, 1] : List Int)) (inner := [.int .i64 5, .int .i64 1, .int .i64 1, .int .i64 1]) (ok := fun _ => True) (okp := fun _ => True) ?hr ?hp (fun _ hk => hk) trivial (Below.refl _ _) (Nat.le_refl _) (by simp) ?_; (case hd => rfl); (case hg => rfl); (case hr => first | (go_simp; done) | (go_simp; rfl)); (case hp => exact (Reps.one (show Kd.M (Kd.int .i64) _ _ _ 5 [.int .i64 5] from rfl) (Reps.one (show Kd.M (Kd.int .i64) _ _ _ 1 [.int .i64 1] from rfl) (Reps.one (show Kd.M (Kd.int .i64) _ _ _ 1 [.int .i64 1] from rfl) (Reps.one (show Kd.M (Kd.int .i64) _ _ _ 1 [.int .i64 1] from rfl) (Reps.none _ _)))))); intro v149 w4 ho5 hb hg_ hnew_; clear hg_ hnew_; (first | rw [← Ny148.out] at ho5 | (simp only [Int.reduceToNat] at ho5; rw [← Ny148.out] at ho5)); have HO150 := Goto.m0 (Kd.R_lower (Kd.R_new' (Kd.R_newM (M := fun k_ => (w.heap.size ≤ k_)) ho5 (below_size (Goto.hx HB)) (fun k_ h_ => h_)) (Kd.R_lt (Goto.rk HO147))) (below_size (Goto.hx HB))); replace HO147 := Goto.m0 (Kd.R_elder' (Goto.rk HO147) (Kd.R_base ho5) hb); replace BK144 := Goto.bb BK144 hb; replace HB := Goto.hs HB hb; clear hb ho5; obtain ⟨Ao6, co6, eo6⟩ := Kd.R_slice HO147.out; subst eo6; obtain ⟨Ao7, co7, eo7⟩ := Kd.R_slice HO150.out; subst eo7) | ((with_reducible refine gate_dst (N := 3) rfl ?_); refine Kd.N_lit (Kd.slice 3 (Kd.int .i64)) _ 26 ?hg (N' := 3) ?hd (xs := ([y145, y148] : List (List Int))) (inner := [.slice Ao6 y145.length co6, .slice Ao7 y148.length co7]) (ok := (fun k_ => (w.heap.size ≤ k_) ∧ k_ ≠ gb144)) (okp := (fun k_ => (w.heap.size ≤ k_) ∧ k_ ≠ gb144)) ?hr ?hp (fun _ hk => hk) ((show ∀ k_, w4.heap.size ≤ k_ → (fun k_ => (w.heap.size ≤ k_) ∧ k_ ≠ gb144) k_ from fun k_ hk => ⟨(Nat.le_trans (below_size (Goto.hx HB)) hk), Kd.freshB (g := gb144) (o := .cells #[.int .i64 0, .int .i64 0, .slice none 0 0, .slice none 0 0] 25 (0, 0)) (Goto.bx BK144) k_ hk⟩) _ (Nat.le_refl _)) (Below.refl _ _) (Nat.le_refl _) (by simp) ?_; (case hd => rfl); (case hg => rfl); (case hr => first | (go_simp; done) | (go_simp; rfl)); (case hp => exact (Reps.one (show Kd.FK (Kd.slice 3 (Kd.int .i64)) _ _ y145 [.slice Ao6 y145.length co6] from (Kd.FK_slice_mk (Kd.R_reads' (Kd.R_mono (ok' := (fun k_ => (w.heap.size ≤ k_) ∧ k_ ≠ gb144)) (Kd.R_types (HO147.out) BK144.out (by decide)) (fun k_ hk => ⟨hk.1.1.1, hk.2⟩))).2.1 (Kd.R_F (Kd.R_mono (ok' := (fun k_ => (w.heap.size ≤ k_) ∧ k_ ≠ gb144)) (Kd.R_types (HO147.out) BK144.out (by decide)) (fun k_ hk => ⟨hk.1.1.1, hk.2⟩))))) (Reps.one (show Kd.FK (Kd.slice 3 (Kd.int .i64)) _ _ y148 [.slice Ao7 y148.length co7] from (Kd.FK_slice_mk (Kd.R_reads' (Kd.R_mono (ok' := (fun k_ => (w.heap.size ≤ k_) ∧ k_ ≠ gb144)) (Kd.R_types (HO150.out) BK144.out (by decide)) (fun k_ hk => ⟨hk.1.1.1, hk.2⟩))).2.1 (Kd.R_F (Kd.R_mono (ok' := (fun k_ => (w.heap.size ≤ k_) ∧ k_ ≠ gb144)) (Kd.R_types (HO150.out) BK144.out (by decide)) (fun k_ hk => ⟨hk.1.1.1, hk.2⟩))))) (Reps.none _ _)))); intro v152 w8 ho9 hb hg_ hnew_; clear hg_ hnew_; (first | rw [← Ny151.out] at ho9 | (simp only [Int.reduceToNat] at ho9; rw [← Ny151.out] at ho9)); have n0_ := Goto.m0 (Kd.N_lower ho9 (below_size (Goto.hx HB))); have n1_ := Goto.m0 (blk_below (g := gb144) (o := .cells #[.int .i64 0, .int .i64 0, .slice none 0 0, .slice none 0 0] 25 (0, 0)) (Goto.bx BK144) hb); have n2_ := Goto.m0 (below_step (Goto.hx HB) hb); clear BK144; clear HB; clear HO147; clear HO150; have HO153 := n0_; have BK144 := n1_; have HB := n2_; clear n0_ n1_ n2_; clear hb ho9) | ((with_reducible refine gate_dst (N := 5) rfl ?_); refine Kd.R_lit (Kd.int .i64) _ 3 ?hg (N := 5) ?hd (xs := ([1, 3] : List Int)) (inner := [.int .i64 1, .int .i64 3]) (ok := fun _ => True) (okp := fun _ => True) ?hr ?hp (fun _ hk => hk) trivial (Below.refl _ _) (Nat.le_refl _) (by simp) ?_; (case hd => rfl); (case hg => rfl); (case hr => first | (go_simp; done) | (go_simp; rfl)); (case hp => exact (Reps.one (show Kd.M (Kd.int .i64) _ _ _ 1 [.int .i64 1] from rfl) (Reps.one (show Kd.M (Kd.int .i64) _ _ _ 3 [.int .i64 3] from rfl) (Reps.none _ _)))); intro v155 w10 ho11 hb hg_ hnew_; clear hg_ hnew_; (first | rw [← Ny154.out] at ho11 | (simp only [Int.reduceToNat] at ho11; rw [← Ny154.out] at ho11)); have HO156 := Goto.m0 (Kd.R_lower (Kd.R_newM (M := fun k_ => (w.heap.size ≤ k_)) ho11 (below_size (Goto.hx HB)) (fun k_ h_ => h_)) (below_size (Goto.hx HB))); replace HO153 := Goto.m0 (Kd.N_elder' (by (with_reducible repeat (first | apply Kd.N_alloc | apply Kd.N_drewN | apply Kd.N_drew)); exact HO153.out) (Kd.R_base ho11) hb); replace BK144 := Goto.bb BK144 hb; replace HB := Goto.hs HB hb; clear hb ho11) | ((with_reducible refine gate_dst (N := 6) rfl ?_); refine Kd.R_lit (Kd.int .i64) _ 3 ?hg (N := 6) ?hd (xs := ([2, 3] : List Int)) (inner := [.int .i64 2, .int .i64 3]) (ok := fun _ => True) (okp := fun _ => True) ?hr ?hp (fun _ hk => hk) trivial (Below.refl _ _) (Nat.le_refl _) (by simp) ?_; (case hd => rfl); (case hg => rfl); (case hr => first | (go_simp; done) | (go_simp; rfl)); (case hp => exact (Reps.one (show Kd.M (Kd.int .i64) _ _ _ 2 [.int .i64 2] from rfl) (Reps.one (show Kd.M (Kd.int .i64) _ _ _ 3 [.int .i64 3] from rfl) (Reps.none _ _)))); intro v158 w12 ho13 hb hg_ hnew_; clear hg_ hnew_; (first | rw [← Ny157.out] at ho13 | (simp only [Int.reduceToNat] at ho13; rw [← Ny157.out] at ho13)); have HO159 := Goto.m0 (Kd.R_lower (Kd.R_new' (Kd.R_newM (M := fun k_ => (w.heap.size ≤ k_)) ho13 (below_size (Goto.hx HB)) (fun k_ h_ => h_)) (Kd.R_lt (Goto.rk HO156))) (below_size (Goto.hx HB))); replace HO153 := Goto.m0 (Kd.N_elder' (by (with_reducible repeat (first | apply Kd.N_alloc | apply Kd.N_drewN | apply Kd.N_drew)); exact HO153.out) (Kd.R_base ho13) hb); replace HO156 := Goto.m0 (Kd.R_elder' (Goto.rk HO156) (Kd.R_base ho13) hb); replace BK144 := Goto.bb BK144 hb; replace HB := Goto.hs HB hb; clear hb ho13; obtain ⟨Ao14, co14, eo14⟩ := Kd.R_slice HO156.out; subst eo14; obtain ⟨Ao15, co15, eo15⟩ := Kd.R_slice HO159.out; subst eo15) | ((with_reducible refine gate_dst (N := 7) rfl ?_); refine Kd.N_lit (Kd.slice 3 (Kd.int .i64)) _ 26 ?hg (N' := 7) ?hd (xs := ([y154, y157] : List (List Int))) (inner := [.slice Ao14 y154.length co14, .slice Ao15 y157.length co15]) (ok := (fun k_ => (w.heap.size ≤ k_) ∧ some k_ ≠ (v152 : Value).ownBlock ∧ k_ ≠ gb144)) (okp := (fun k_ => (w.heap.size ≤ k_) ∧ some k_ ≠ (v152 : Value).ownBlock ∧ k_ ≠ gb144)) ?hr ?hp (fun _ hk => hk) ((show ∀ k_, w12.heap.size ≤ k_ → (fun k_ => (w.heap.size ≤ k_) ∧ some k_ ≠ (v152 : Value).ownBlock ∧ k_ ≠ gb144) k_ from fun k_ hk => ⟨(Nat.le_trans (below_size (Goto.hx HB)) hk), Kd.fresh' (Kd.N_lt (by (with_reducible repeat (first | apply Kd.N_alloc | apply Kd.N_drewN | apply Kd.N_drew)); exact HO153.out)) k_ hk, Kd.freshB (g := gb144) (o := .cells #[.int .i64 0, .int .i64 0, .slice none 0 0, .slice none 0 0] 25 (0, 0)) (Goto.bx BK144) k_ hk⟩) _ (Nat.le_refl _)) (Below.refl _ _) (Nat.le_refl _) (by simp) ?_; (case hd => rfl); (case hg => rfl); (case hr => first | (go_simp; done) | (go_simp; rfl)); (case hp => exact (Reps.one (show Kd.FK (Kd.slice 3 (Kd.int .i64)) _ _ y154 [.slice Ao14 y154.length co14] from (Kd.FK_slice_mk (Kd.R_reads' (Kd.R_mono (ok' := (fun k_ => (w.heap.size ≤ k_) ∧ some k_ ≠ (v152 : Value).ownBlock ∧ k_ ≠ gb144)) (Kd.R_types (Kd.R_apart' (HO156.out) (Kd.N_typed HO153.out) (by decide)) BK144.out (by decide)) (fun k_ hk => ⟨hk.1.1.1.1, ⟨hk.1.2, hk.2⟩⟩))).2.1 (Kd.R_F (Kd.R_mono (ok' := (fun k_ => (w.heap.size ≤ k_) ∧ some k_ ≠ (v152 : Value).ownBlock ∧ k_ ≠ gb144)) (Kd.R_types (Kd.R_apart' (HO156.out) (Kd.N_typed HO153.out) (by decide)) BK144.out (by decide)) (fun k_ hk => ⟨hk.1.1.1.1, ⟨hk.1.2, hk.2⟩⟩))))) (Reps.one (show Kd.FK (Kd.slice 3 (Kd.int .i64)) _ _ y157 [.slice Ao15 y157.length co15] from (Kd.FK_slice_mk (Kd.R_reads' (Kd.R_mono (ok' := (fun k_ => (w.heap.size ≤ k_) ∧ some k_ ≠ (v152 : Value).ownBlock ∧ k_ ≠ gb144)) (Kd.R_types (Kd.R_apart' (HO159.out) (Kd.N_typed HO153.out) (by decide)) BK144.out (by decide)) (fun k_ hk => ⟨hk.1.1.1.1, ⟨hk.1.2, hk.2⟩⟩))).2.1 (Kd.R_F (Kd.R_mono (ok' := (fun k_ => (w.heap.size ≤ k_) ∧ some k_ ≠ (v152 : Value).ownBlock ∧ k_ ≠ gb144)) (Kd.R_types (Kd.R_apart' (HO159.out) (Kd.N_typed HO153.out) (by decide)) BK144.out (by decide)) (fun k_ hk => ⟨hk.1.1.1.1, ⟨hk.1.2, hk.2⟩⟩))))) (Reps.none _ _)))); intro v161 w16 ho17 hb hg_ hnew_; clear hg_ hnew_; (first | rw [← Ny160.out] at ho17 | (simp only [Int.reduceToNat] at ho17; rw [← Ny160.out] at ho17)); have n0_ := Goto.m0 (Kd.N_elder' (by (with_reducible repeat (first | apply Kd.N_alloc | apply Kd.N_drewN | apply Kd.N_drew)); exact HO153.out) (Kd.N_base ho17) hb); have n1_ := Goto.m0 (Kd.N_lower ho17 (below_size (Goto.hx HB))); have n2_ := Goto.m0 (blk_below (g := gb144) (o := .cells #[.int .i64 0, .int .i64 0, .slice none 0 0, .slice none 0 0] 25 (0, 0)) (Goto.bx BK144) hb); have n3_ := Goto.m0 (below_step (Goto.hx HB) hb); clear HO153; clear BK144; clear HB; clear HO156; clear HO159; have HO153 := n0_; have HO162 := n1_; have BK144 := n2_; have HB := n3_; clear n0_ n1_ n2_ n3_; clear hb ho17; obtain ⟨Ao18, co18, eo18⟩ := Kd.N_slice HO162.out; subst eo18) | ((with_reducible refine gate_dst (N := 10) rfl ?_); refine Kd.R_lit (Kd.int .i64) _ 3 ?hg (N := 10) ?hd (xs := ([3] : List Int)) (inner := [.int .i64 3]) (ok := fun _ => True) (okp := fun _ => True) ?hr ?hp (fun _ hk => hk) trivial (Below.refl _ _) (Nat.le_refl _) (by simp) ?_; (case hd => rfl); (case hg => rfl); (case hr => first | (go_simp; done) | (go_simp; rfl)); (case hp => exact (Reps.one (show Kd.M (Kd.int .i64) _ _ _ 3 [.int .i64 3] from rfl) (Reps.none _ _))); intro v164 w19 ho20 hb hg_ hnew_; clear hg_ hnew_; (first | rw [← Ny163.out] at ho20 | (simp only [Int.reduceToNat] at ho20; rw [← Ny163.out] at ho20)); have HO165 := Goto.m0 (Kd.R_lower (Kd.R_newM (M := fun k_ => (w.heap.size ≤ k_)) ho20 (below_size (Goto.hx HB)) (fun k_ h_ => h_)) (below_size (Goto.hx HB))); replace HO153 := Goto.m0 (Kd.N_elder' (by (with_reducible repeat (first | apply Kd.N_alloc | apply Kd.N_drewN | apply Kd.N_drew)); exact HO153.out) (Kd.R_base ho20) hb); replace HO162 := Goto.m0 (Kd.N_elder' (by (with_reducible repeat (first | apply Kd.N_alloc | apply Kd.N_drewN | apply Kd.N_drew)); exact HO162.out) (Kd.R_base ho20) hb); replace BK144 := Goto.bb BK144 hb; replace HB := Goto.hs HB hb; clear hb ho20; obtain ⟨Ao21, co21, eo21⟩ := Kd.R_slice HO165.out; subst eo21) | ((with_reducible refine gate_dst (N := 11) rfl ?_); refine Kd.N_lit (Kd.slice 3 (Kd.int .i64)) _ 26 ?hg (N' := 11) ?hd (xs := ([y163] : List (List Int))) (inner := [.slice Ao21 y163.length co21]) (ok := (fun k_ => (w.heap.size ≤ k_) ∧ some k_ ≠ (v152 : Value).ownBlock ∧ some k_ ≠ (.slice Ao18 y160.length co18 : Value).ownBlock ∧ k_ ≠ gb144)) (okp := (fun k_ => (w.heap.size ≤ k_) ∧ some k_ ≠ (v152 : Value).ownBlock ∧ some k_ ≠ (.slice Ao18 y160.length co18 : Value).ownBlock ∧ k_ ≠ gb144)) ?hr ?hp (fun _ hk => hk) ((show ∀ k_, w19.heap.size ≤ k_ → (fun k_ => (w.heap.size ≤ k_) ∧ some k_ ≠ (v152 : Value).ownBlock ∧ some k_ ≠ (.slice Ao18 y160.length co18 : Value).ownBlock ∧ k_ ≠ gb144) k_ from fun k_ hk => ⟨(Nat.le_trans (below_size (Goto.hx HB)) hk), Kd.fresh' (Kd.N_lt (by (with_reducible repeat (first | apply Kd.N_alloc | apply Kd.N_drewN | apply Kd.N_drew)); exact HO153.out)) k_ hk, Kd.fresh' (Kd.N_lt (by (with_reducible repeat (first | apply Kd.N_alloc | apply Kd.N_drewN | apply Kd.N_drew)); exact HO162.out)) k_ hk, Kd.freshB (g := gb144) (o := .cells #[.int .i64 0, .int .i64 0, .slice none 0 0, .slice none 0 0] 25 (0, 0)) (Goto.bx BK144) k_ hk⟩) _ (Nat.le_refl _)) (Below.refl _ _) (Nat.le_refl _) (by simp) ?_; (case hd => rfl); (case hg => rfl); (case hr => first | (go_simp; done) | (go_simp; rfl)); (case hp => exact (Reps.one (show Kd.FK (Kd.slice 3 (Kd.int .i64)) _ _ y163 [.slice Ao21 y163.length co21] from (Kd.FK_slice_mk (Kd.R_reads' (Kd.R_mono (ok' := (fun k_ => (w.heap.size ≤ k_) ∧ some k_ ≠ (v152 : Value).ownBlock ∧ some k_ ≠ (.slice Ao18 y160.length co18 : Value).ownBlock ∧ k_ ≠ gb144)) (Kd.R_types (Kd.R_apart' (Kd.R_apart' (HO165.out) (Kd.N_typed HO153.out) (by decide)) (Kd.N_typed HO162.out) (by decide)) BK144.out (by decide)) (fun k_ hk => ⟨hk.1.1.1.1, ⟨hk.1.1.2, ⟨hk.1.2, hk.2⟩⟩⟩))).2.1 (Kd.R_F (Kd.R_mono (ok' := (fun k_ => (w.heap.size ≤ k_) ∧ some k_ ≠ (v152 : Value).ownBlock ∧ some k_ ≠ (.slice Ao18 y160.length co18 : Value).ownBlock ∧ k_ ≠ gb144)) (Kd.R_types (Kd.R_apart' (Kd.R_apart' (HO165.out) (Kd.N_typed HO153.out) (by decide)) (Kd.N_typed HO162.out) (by decide)) BK144.out (by decide)) (fun k_ hk => ⟨hk.1.1.1.1, ⟨hk.1.1.2, ⟨hk.1.2, hk.2⟩⟩⟩))))) (Reps.none _ _))); intro v167 w22 ho23 hb hg_ hnew_; clear hg_ hnew_; (first | rw [← Ny166.out] at ho23 | (simp only [Int.reduceToNat] at ho23; rw [← Ny166.out] at ho23)); have n0_ := Goto.m0 (Kd.N_elder' (by (with_reducible repeat (first | apply Kd.N_alloc | apply Kd.N_drewN | apply Kd.N_drew)); exact HO153.out) (Kd.N_base ho23) hb); have n1_ := Goto.m0 (Kd.N_elder' (by (with_reducible repeat (first | apply Kd.N_alloc | apply Kd.N_drewN | apply Kd.N_drew)); exact HO162.out) (Kd.N_base ho23) hb); have n2_ := Goto.m0 (Kd.N_lower ho23 (below_size (Goto.hx HB))); have n3_ := Goto.m0 (blk_below (g := gb144) (o := .cells #[.int .i64 0, .int .i64 0, .slice none 0 0, .slice none 0 0] 25 (0, 0)) (Goto.bx BK144) hb); have n4_ := Goto.m0 (below_step (Goto.hx HB) hb); clear HO153; clear HO162; clear BK144; clear HB; clear HO165; have HO153 := n0_; have HO162 := n1_; have HO168 := n2_; have BK144 := n3_; have HB := n4_; clear n0_ n1_ n2_ n3_ n4_; clear hb ho23) | ((with_reducible refine gate_dst (N := 12) rfl ?_); refine Kd.R_lit (Kd.int .i64) _ 3 ?hg (N := 12) ?hd (xs := ([0, 1] : List Int)) (inner := [.int .i64 0, .int .i64 1]) (ok := fun _ => True) (okp := fun _ => True) ?hr ?hp (fun _ hk => hk) trivial (Below.refl _ _) (Nat.le_refl _) (by simp) ?_; (case hd => rfl); (case hg => rfl); (case hr => first | (go_simp; done) | (go_simp; rfl)); (case hp => exact (Reps.one (show Kd.M (Kd.int .i64) _ _ _ 0 [.int .i64 0] from rfl) (Reps.one (show Kd.M (Kd.int .i64) _ _ _ 1 [.int .i64 1] from rfl) (Reps.none _ _)))); intro v170 w24 ho25 hb hg_ hnew_; clear hg_ hnew_; (first | rw [← Ny169.out] at ho25 | (simp only [Int.reduceToNat] at ho25; rw [← Ny169.out] at ho25)); have HO171 := Goto.m0 (Kd.R_lower (Kd.R_newM (M := fun k_ => (w.heap.size ≤ k_)) ho25 (below_size (Goto.hx HB)) (fun k_ h_ => h_)) (below_size (Goto.hx HB))); replace HO153 := Goto.m0 (Kd.N_elder' (by (with_reducible repeat (first | apply Kd.N_alloc | apply Kd.N_drewN | apply Kd.N_drew)); exact HO153.out) (Kd.R_base ho25) hb); replace HO162 := Goto.m0 (Kd.N_elder' (by (with_reducible repeat (first | apply Kd.N_alloc | apply Kd.N_drewN | apply Kd.N_drew)); exact HO162.out) (Kd.R_base ho25) hb); replace HO168 := Goto.m0 (Kd.N_elder' (by (with_reducible repeat (first | apply Kd.N_alloc | apply Kd.N_drewN | apply Kd.N_drew)); exact HO168.out) (Kd.R_base ho25) hb); replace BK144 := Goto.bb BK144 hb; replace HB := Goto.hs HB hb; clear hb ho25; obtain ⟨Ao26, co26, eo26⟩ := Kd.R_slice HO171.out; subst eo26; obtain ⟨Ao27, co27, eo27⟩ := Kd.N_slice HO168.out; subst eo27) | ((with_reducible refine gate_dst (N := 15) rfl ?_); refine Kd.R_lit (Kd.int .i64) _ 3 ?hg (N := 15) ?hd (xs := ([3] : List Int)) (inner := [.int .i64 3]) (ok := fun _ => True) (okp := fun _ => True) ?hr ?hp (fun _ hk => hk) trivial (Below.refl _ _) (Nat.le_refl _) (by simp) ?_; (case hd => rfl); (case hg => rfl); (case hr => first | (go_simp; done) | (go_simp; rfl)); (case hp => exact (Reps.one (show Kd.M (Kd.int .i64) _ _ _ 3 [.int .i64 3] from rfl) (Reps.none _ _))); intro v173 w28 ho29 hb hg_ hnew_; clear hg_ hnew_; (first | rw [← Ny172.out] at ho29 | (simp only [Int.reduceToNat] at ho29; rw [← Ny172.out] at ho29)); have HO174 := Goto.m0 (Kd.R_lower (Kd.R_new' (Kd.R_newM (M := fun k_ => (w.heap.size ≤ k_)) ho29 (below_size (Goto.hx HB)) (fun k_ h_ => h_)) (Kd.R_lt (Goto.rk HO171))) (below_size (Goto.hx HB))); replace HO153 := Goto.m0 (Kd.N_elder' (by (with_reducible repeat (first | apply Kd.N_alloc | apply Kd.N_drewN | apply Kd.N_drew)); exact HO153.out) (Kd.R_base ho29) hb); replace HO162 := Goto.m0 (Kd.N_elder' (by (with_reducible repeat (first | apply Kd.N_alloc | apply Kd.N_drewN | apply Kd.N_drew)); exact HO162.out) (Kd.R_base ho29) hb); replace HO168 := Goto.m0 (Kd.N_elder' (by (with_reducible repeat (first | apply Kd.N_alloc | apply Kd.N_drewN | apply Kd.N_drew)); exact HO168.out) (Kd.R_base ho29) hb); replace HO171 := Goto.m0 (Kd.R_elder' (Goto.rk HO171) (Kd.R_base ho29) hb); replace BK144 := Goto.bb BK144 hb; replace HB := Goto.hs HB hb; clear hb ho29; obtain ⟨Ao30, co30, eo30⟩ := Kd.R_slice HO174.out; subst eo30) | ((with_reducible refine gate_dst (N := 16) rfl ?_); refine Kd.N_lit (Kd.slice 3 (Kd.int .i64)) _ 26 ?hg (N' := 16) ?hd (xs := ([y172] : List (List Int))) (inner := [.slice Ao30 y172.length co30]) (ok := (fun k_ => (w.heap.size ≤ k_) ∧ some k_ ≠ (v152 : Value).ownBlock ∧ some k_ ≠ (.slice Ao18 y160.length co18 : Value).ownBlock ∧ some k_ ≠ (.slice Ao27 y166.length co27 : Value).ownBlock ∧ some k_ ≠ (.slice Ao26 y169.length co26 : Value).ownBlock ∧ k_ ≠ gb144)) (okp := (fun k_ => (w.heap.size ≤ k_) ∧ some k_ ≠ (v152 : Value).ownBlock ∧ some k_ ≠ (.slice Ao18 y160.length co18 : Value).ownBlock ∧ some k_ ≠ (.slice Ao27 y166.length co27 : Value).ownBlock ∧ some k_ ≠ (.slice Ao26 y169.length co26 : Value).ownBlock ∧ k_ ≠ gb144)) ?hr ?hp (fun _ hk => hk) ((show ∀ k_, w28.heap.size ≤ k_ → (fun k_ => (w.heap.size ≤ k_) ∧ some k_ ≠ (v152 : Value).ownBlock ∧ some k_ ≠ (.slice Ao18 y160.length co18 : Value).ownBlock ∧ some k_ ≠ (.slice Ao27 y166.length co27 : Value).ownBlock ∧ some k_ ≠ (.slice Ao26 y169.length co26 : Value).ownBlock ∧ k_ ≠ gb144) k_ from fun k_ hk => ⟨(Nat.le_trans (below_size (Goto.hx HB)) hk), Kd.fresh' (Kd.N_lt (by (with_reducible repeat (first | apply Kd.N_alloc | apply Kd.N_drewN | apply Kd.N_drew)); exact HO153.out)) k_ hk, Kd.fresh' (Kd.N_lt (by (with_reducible repeat (first | apply Kd.N_alloc | apply Kd.N_drewN | apply Kd.N_drew)); exact HO162.out)) k_ hk, Kd.fresh' (Kd.N_lt (by (with_reducible repeat (first | apply Kd.N_alloc | apply Kd.N_drewN | apply Kd.N_drew)); exact HO168.out)) k_ hk, Kd.fresh' (Kd.R_lt (Goto.rk HO171)) k_ hk, Kd.freshB (g := gb144) (o := .cells #[.int .i64 0, .int .i64 0, .slice none 0 0, .slice none 0 0] 25 (0, 0)) (Goto.bx BK144) k_ hk⟩) _ (Nat.le_refl _)) (Below.refl _ _) (Nat.le_refl _) (by simp) ?_; (case hd => rfl); (case hg => rfl); (case hr => first | (go_simp; done) | (go_simp; rfl)); (case hp => exact (Reps.one (show Kd.FK (Kd.slice 3 (Kd.int .i64)) _ _ y172 [.slice Ao30 y172.length co30] from (Kd.FK_slice_mk (Kd.R_reads' (Kd.R_mono (ok' := (fun k_ => (w.heap.size ≤ k_) ∧ some k_ ≠ (v152 : Value).ownBlock ∧ some k_ ≠ (.slice Ao18 y160.length co18 : Value).ownBlock ∧ some k_ ≠ (.slice Ao27 y166.length co27 : Value).ownBlock ∧ some k_ ≠ (.slice Ao26 y169.length co26 : Value).ownBlock ∧ k_ ≠ gb144)) (Kd.R_types (Kd.R_apart' (Kd.R_apart' (Kd.R_apart' (HO174.out) (Kd.N_typed HO153.out) (by decide)) (Kd.N_typed HO162.out) (by decide)) (Kd.N_typed HO168.out) (by decide)) BK144.out (by decide)) (fun k_ hk => ⟨hk.1.1.1.1.1.1, ⟨hk.1.1.1.2, ⟨hk.1.1.2, ⟨hk.1.2, ⟨hk.1.1.1.1.2, hk.2⟩⟩⟩⟩⟩))).2.1 (Kd.R_F (Kd.R_mono (ok' := (fun k_ => (w.heap.size ≤ k_) ∧ some k_ ≠ (v152 : Value).ownBlock ∧ some k_ ≠ (.slice Ao18 y160.length co18 : Value).ownBlock ∧ some k_ ≠ (.slice Ao27 y166.length co27 : Value).ownBlock ∧ some k_ ≠ (.slice Ao26 y169.length co26 : Value).ownBlock ∧ k_ ≠ gb144)) (Kd.R_types (Kd.R_apart' (Kd.R_apart' (Kd.R_apart' (HO174.out) (Kd.N_typed HO153.out) (by decide)) (Kd.N_typed HO162.out) (by decide)) (Kd.N_typed HO168.out) (by decide)) BK144.out (by decide)) (fun k_ hk => ⟨hk.1.1.1.1.1.1, ⟨hk.1.1.1.2, ⟨hk.1.1.2, ⟨hk.1.2, ⟨hk.1.1.1.1.2, hk.2⟩⟩⟩⟩⟩))))) (Reps.none _ _))); intro v176 w31 ho32 hb hg_ hnew_; clear hg_ hnew_; (first | rw [← Ny175.out] at ho32 | (simp only [Int.reduceToNat] at ho32; rw [← Ny175.out] at ho32)); have n0_ := Goto.m0 (Kd.N_elder' (by (with_reducible repeat (first | apply Kd.N_alloc | apply Kd.N_drewN | apply Kd.N_drew)); exact HO153.out) (Kd.N_base ho32) hb); have n1_ := Goto.m0 (Kd.N_elder' (by (with_reducible repeat (first | apply Kd.N_alloc | apply Kd.N_drewN | apply Kd.N_drew)); exact HO162.out) (Kd.N_base ho32) hb); have n2_ := Goto.m0 (Kd.N_elder' (by (with_reducible repeat (first | apply Kd.N_alloc | apply Kd.N_drewN | apply Kd.N_drew)); exact HO168.out) (Kd.N_base ho32) hb); have n3_ := Goto.m0 (Kd.R_below (Goto.rk HO171) hb); have n4_ := Goto.m0 (Kd.N_lower ho32 (below_size (Goto.hx HB))); have n5_ := Goto.m0 (blk_below (g := gb144) (o := .cells #[.int .i64 0, .int .i64 0, .slice none 0 0, .slice none 0 0] 25 (0, 0)) (Goto.bx BK144) hb); have n6_ := Goto.m0 (below_step (Goto.hx HB) hb); clear HO153; clear HO162; clear HO168; clear HO171; clear BK144; clear HB; clear HO174; have HO153 := n0_; have HO162 := n1_; have HO168 := n2_; have HO171 := n3_; have HO177 := n4_; have BK144 := n5_; have HB := n6_; clear n0_ n1_ n2_ n3_ n4_ n5_ n6_; clear hb ho32; obtain ⟨Ao33, co33, eo33⟩ := Kd.N_slice HO177.out; subst eo33) | ((with_reducible refine gate_dst (N := 19) rfl ?_); refine Kd.R_lit (Kd.int .i64) _ 3 ?hg (N := 19) ?hd (xs := ([0, 1, 2] : List Int)) (inner := [.int .i64 0, .int .i64 1, .int .i64 2]) (ok := fun _ => True) (okp := fun _ => True) ?hr ?hp (fun _ hk => hk) trivial (Below.refl _ _) (Nat.le_refl _) (by simp) ?_; (case hd => rfl); (case hg => rfl); (case hr => first | (go_simp; done) | (go_simp; rfl)); (case hp => exact (Reps.one (show Kd.M (Kd.int .i64) _ _ _ 0 [.int .i64 0] from rfl) (Reps.one (show Kd.M (Kd.int .i64) _ _ _ 1 [.int .i64 1] from rfl) (Reps.one (show Kd.M (Kd.int .i64) _ _ _ 2 [.int .i64 2] from rfl) (Reps.none _ _))))); intro v179 w34 ho35 hb hg_ hnew_; clear hg_ hnew_; (first | rw [← Ny178.out] at ho35 | (simp only [Int.reduceToNat] at ho35; rw [← Ny178.out] at ho35)); have HO180 := Goto.m0 (Kd.R_lower (Kd.R_new' (Kd.R_newM (M := fun k_ => (w.heap.size ≤ k_)) ho35 (below_size (Goto.hx HB)) (fun k_ h_ => h_)) (Kd.R_lt (Goto.rk HO171))) (below_size (Goto.hx HB))); replace HO153 := Goto.m0 (Kd.N_elder' (by (with_reducible repeat (first | apply Kd.N_alloc | apply Kd.N_drewN | apply Kd.N_drew)); exact HO153.out) (Kd.R_base ho35) hb); replace HO162 := Goto.m0 (Kd.N_elder' (by (with_reducible repeat (first | apply Kd.N_alloc | apply Kd.N_drewN | apply Kd.N_drew)); exact HO162.out) (Kd.R_base ho35) hb); replace HO168 := Goto.m0 (Kd.N_elder' (by (with_reducible repeat (first | apply Kd.N_alloc | apply Kd.N_drewN | apply Kd.N_drew)); exact HO168.out) (Kd.R_base ho35) hb); replace HO171 := Goto.m0 (Kd.R_elder' (Goto.rk HO171) (Kd.R_base ho35) hb); replace HO177 := Goto.m0 (Kd.N_elder' (by (with_reducible repeat (first | apply Kd.N_alloc | apply Kd.N_drewN | apply Kd.N_drew)); exact HO177.out) (Kd.R_base ho35) hb); replace BK144 := Goto.bb BK144 hb; replace HB := Goto.hs HB hb; clear hb ho35; obtain ⟨Ao36, co36, eo36⟩ := Kd.R_slice HO180.out; subst eo36) | ((with_reducible refine gate_dst (N := 21) rfl ?_); refine Kd.N_lit k44 _ 44 ?hg (N' := 21) ?hd (xs := ([(⟨(⟨0, 0⟩ : S42), y160, ([] : List Int), (-1), 4, 2, 4, 3, 2⟩ : S44), (⟨(⟨1, 1⟩ : S42), y166, y169, 0, 4, 2, 4, 3, 2⟩ : S44), (⟨(⟨1, 2⟩ : S42), y175, ([] : List Int), (-1), 4, 2, 4, 3, 2⟩ : S44), (⟨(⟨2, 3⟩ : S42), ([] : List (List Int)), y178, 1, 4, 2, 4, 3, 2⟩ : S44)] : List (S44))) (inner := [.int .i64 0, .int .u64 0, .slice Ao18 y160.length co18, .slice none 0 0, .int .i64 (-1), .int .i64 4, .int .i64 2, .int .i64 4, .int .i64 3, .int .i64 2, .int .i64 1, .int .u64 1, .slice Ao27 y166.length co27, .slice Ao26 y169.length co26, .int .i64 0, .int .i64 4, .int .i64 2, .int .i64 4, .int .i64 3, .int .i64 2, .int .i64 1, .int .u64 2, .slice Ao33 y175.length co33, .slice none 0 0, .int .i64 (-1), .int .i64 4, .int .i64 2, .int .i64 4, .int .i64 3, .int .i64 2, .int .i64 2, .int .u64 3, .slice none 0 0, .slice Ao36 y178.length co36, .int .i64 1, .int .i64 4, .int .i64 2, .int .i64 4, .int .i64 3, .int .i64 2]) (ok := (fun k_ => (w.heap.size ≤ k_) ∧ some k_ ≠ (v152 : Value).ownBlock ∧ k_ ≠ gb144)) (okp := (fun k_ => (w.heap.size ≤ k_) ∧ some k_ ≠ (v152 : Value).ownBlock ∧ k_ ≠ gb144)) ?hr ?hp (fun _ hk => hk) ((show ∀ k_, w34.heap.size ≤ k_ → (fun k_ => (w.heap.size ≤ k_) ∧ some k_ ≠ (v152 : Value).ownBlock ∧ k_ ≠ gb144) k_ from fun k_ hk => ⟨(Nat.le_trans (below_size (Goto.hx HB)) hk), Kd.fresh' (Kd.N_lt (by (with_reducible repeat (first | apply Kd.N_alloc | apply Kd.N_drewN | apply Kd.N_drew)); exact HO153.out)) k_ hk, Kd.freshB (g := gb144) (o := .cells #[.int .i64 0, .int .i64 0, .slice none 0 0, .slice none 0 0] 25 (0, 0)) (Goto.bx BK144) k_ hk⟩) _ (Nat.le_refl _)) (Below.refl _ _) (Nat.le_refl _) (by simp) ?_; (case hd => rfl); (case hg => rfl); (case hr => first | (go_simp; done) | (go_simp; rfl)); (case hp => exact (Reps.c10 (show Kd.FK k44 _ _ (⟨(⟨0, 0⟩ : S42), y160, ([] : List Int), (-1), 4, 2, 4, 3, 2⟩ : S44) [.int .i64 0, .int .u64 0, .slice Ao18 y160.length co18, .slice none 0 0, .int .i64 (-1), .int .i64 4, .int .i64 2, .int .i64 4, .int .i64 3, .int .i64 2] from (k44_mkF _ _ (⟨(⟨0, 0⟩ : S42), y160, ([] : List Int), (-1), 4, 2, 4, 3, 2⟩ : S44) (Kd.N_reads' (Kd.N_mono (ok' := (fun k_ => (w.heap.size ≤ k_) ∧ some k_ ≠ (v152 : Value).ownBlock ∧ k_ ≠ gb144)) (HO162.out) (fun k_ hk => ⟨hk.1.1.1.1.1.1.1, ⟨hk.1.1.1.1.1.1.2.1, hk.1.1.1.1.1.1.2.2⟩⟩))).2.1 (Kd.N_F (Kd.N_mono (ok' := (fun k_ => (w.heap.size ≤ k_) ∧ some k_ ≠ (v152 : Value).ownBlock ∧ k_ ≠ gb144)) (HO162.out) (fun k_ hk => ⟨hk.1.1.1.1.1.1.1, ⟨hk.1.1.1.1.1.1.2.1, hk.1.1.1.1.1.1.2.2⟩⟩))) (Nat.le_refl _) (Kd.F_nil _ _ _))) (Reps.c10 (show Kd.FK k44 _ _ (⟨(⟨1, 1⟩ : S42), y166, y169, 0, 4, 2, 4, 3, 2⟩ : S44) [.int .i64 1, .int .u64 1, .slice Ao27 y166.length co27, .slice Ao26 y169.length co26, .int .i64 0, .int .i64 4, .int .i64 2, .int .i64 4, .int .i64 3, .int .i64 2] from (k44_mkF _ _ (⟨(⟨1, 1⟩ : S42), y166, y169, 0, 4, 2, 4, 3, 2⟩ : S44) (Kd.N_reads' (Kd.N_mono (ok' := (fun k_ => (w.heap.size ≤ k_) ∧ some k_ ≠ (v152 : Value).ownBlock ∧ k_ ≠ gb144)) (HO168.out) (fun k_ hk => ⟨hk.1.1.1.1.1, ⟨hk.1.1.1.1.2.1, hk.1.1.1.1.2.2.2⟩⟩))).2.1 (Kd.N_F (Kd.N_mono (ok' := (fun k_ => (w.heap.size ≤ k_) ∧ some k_ ≠ (v152 : Value).ownBlock ∧ k_ ≠ gb144)) (HO168.out) (fun k_ hk => ⟨hk.1.1.1.1.1, ⟨hk.1.1.1.1.2.1, hk.1.1.1.1.2.2.2⟩⟩))) (Kd.R_reads' (Kd.R_mono (ok' := (fun k_ => (w.heap.size ≤ k_) ∧ some k_ ≠ (v152 : Value).ownBlock ∧ k_ ≠ gb144)) (Kd.R_types (Kd.R_apart' (HO171.out) (Kd.N_typed HO153.out) (by decide)) BK144.out (by decide)) (fun k_ hk => ⟨hk.1.1.1.1.1, ⟨hk.1.2, hk.2⟩⟩))).2.1 (Kd.R_F (Kd.R_mono (ok' := (fun k_ => (w.heap.size ≤ k_) ∧ some k_ ≠ (v152 : Value).ownBlock ∧ k_ ≠ gb144)) (Kd.R_types (Kd.R_apart' (HO171.out) (Kd.N_typed HO153.out) (by decide)) BK144.out (by decide)) (fun k_ hk => ⟨hk.1.1.1.1.1, ⟨hk.1.2, hk.2⟩⟩))))) (Reps.c10 (show Kd.FK k44 _ _ (⟨(⟨1, 2⟩ : S42), y175, ([] : List Int), (-1), 4, 2, 4, 3, 2⟩ : S44) [.int .i64 1, .int .u64 2, .slice Ao33 y175.length co33, .slice none 0 0, .int .i64 (-1), .int .i64 4, .int .i64 2, .int .i64 4, .int .i64 3, .int .i64 2] from (k44_mkF _ _ (⟨(⟨1, 2⟩ : S42), y175, ([] : List Int), (-1), 4, 2, 4, 3, 2⟩ : S44) (Kd.N_reads' (Kd.N_mono (ok' := (fun k_ => (w.heap.size ≤ k_) ∧ some k_ ≠ (v152 : Value).ownBlock ∧ k_ ≠ gb144)) (HO177.out) (fun k_ hk => ⟨hk.1.1, ⟨hk.1.2.1, hk.1.2.2.2.2.2⟩⟩))).2.1 (Kd.N_F (Kd.N_mono (ok' := (fun k_ => (w.heap.size ≤ k_) ∧ some k_ ≠ (v152 : Value).ownBlock ∧ k_ ≠ gb144)) (HO177.out) (fun k_ hk => ⟨hk.1.1, ⟨hk.1.2.1, hk.1.2.2.2.2.2⟩⟩))) (Nat.le_refl _) (Kd.F_nil _ _ _))) (Reps.c10 (show Kd.FK k44 _ _ (⟨(⟨2, 3⟩ : S42), ([] : List (List Int)), y178, 1, 4, 2, 4, 3, 2⟩ : S44) [.int .i64 2, .int .u64 3, .slice none 0 0, .slice Ao36 y178.length co36, .int .i64 1, .int .i64 4, .int .i64 2, .int .i64 4, .int .i64 3, .int .i64 2] from (k44_mkF _ _ (⟨(⟨2, 3⟩ : S42), ([] : List (List Int)), y178, 1, 4, 2, 4, 3, 2⟩ : S44) (Nat.le_refl _) (Kd.F_nil _ _ _) (Kd.R_reads' (Kd.R_mono (ok' := (fun k_ => (w.heap.size ≤ k_) ∧ some k_ ≠ (v152 : Value).ownBlock ∧ k_ ≠ gb144)) (Kd.R_types (Kd.R_apart' (HO180.out) (Kd.N_typed HO153.out) (by decide)) BK144.out (by decide)) (fun k_ hk => ⟨hk.1.1.1.1, ⟨hk.1.2, hk.2⟩⟩))).2.1 (Kd.R_F (Kd.R_mono (ok' := (fun k_ => (w.heap.size ≤ k_) ∧ some k_ ≠ (v152 : Value).ownBlock ∧ k_ ≠ gb144)) (Kd.R_types (Kd.R_apart' (HO180.out) (Kd.N_typed HO153.out) (by decide)) BK144.out (by decide)) (fun k_ hk => ⟨hk.1.1.1.1, ⟨hk.1.2, hk.2⟩⟩))))) (Reps.none _ _)))))); intro v182 w37 ho38 hb hg_ hnew_; clear hg_ hnew_; (first | rw [← Ny181.out] at ho38 | (simp only [Int.reduceToNat] at ho38; rw [← Ny181.out] at ho38)); have n0_ := Goto.m0 (Kd.N_elder' (by (with_reducible repeat (first | apply Kd.N_alloc | apply Kd.N_drewN | apply Kd.N_drew)); exact HO153.out) (Kd.N_base ho38) hb); have n1_ := Goto.m0 (Kd.N_lower ho38 (below_size (Goto.hx HB))); have n2_ := Goto.m0 (blk_below (g := gb144) (o := .cells #[.int .i64 0, .int .i64 0, .slice none 0 0, .slice none 0 0] 25 (0, 0)) (Goto.bx BK144) hb); have n3_ := Goto.m0 (below_step (Goto.hx HB) hb); clear HO153; clear BK144; clear HB; clear HO162; clear HO168; clear HO171; clear HO177; clear HO180; have HO153 := n0_; have HO183 := n1_; have BK144 := n2_; have HB := n3_; clear n0_ n1_ n2_ n3_; clear hb ho38; obtain ⟨Ao39, co39, eo39⟩ := Kd.N_slice HO183.out; subst eo39; obtain ⟨Ao40, co40, eo40⟩ := Kd.N_slice HO153.out; subst eo40; have hcz41_0 := Goto.bc0 BK144; have hcz41_1 := Goto.bc1 BK144; have hcz41_2 := Goto.bc2 BK144; have hcz41_3 := Goto.bc3 BK144; have hfz41_0 := Goto.bf BK144 0; have hfz41_1 := Goto.bf BK144 1; have hfz41_2 := Goto.bf BK144 2; have hfz41_3 := Goto.bf BK144 3))
 refine bodyPost_ret (results_cell_row rfl _ _ gb144 25 #[.int .i64 8, .int .i64 2, .slice Ao40 y151.length co40, .slice Ao39 y181.length co39] (0, 0) _ rfl (Goto.bx BK144) Try.underlying25 rfl (by kernel_rfl)) rfl ?_
 exact ⟨_, _, Goto.er, by (with_reducible repeat (first | apply Kd.N_alloc | apply Kd.N_drewN | apply Kd.N_drew)); exact Kd.N_mono (Kd.N_far (p := ⟨gb144, 3, none⟩) (Kd.N_far (p := ⟨gb144, 2, none⟩) (Kd.N_far (p := ⟨gb144, 1, none⟩) (Kd.N_far (p := ⟨gb144, 0, none⟩) (Kd.N_mono HO153.out (fun k_ hk => (⟨hk, hk.1.1.1.1.1.1.1.1.1.1.2⟩ : _ ∧ k_ ≠ gb144))) (fun _ hk => hk.2) (.int .i64 8)) (fun _ hk => hk.2) (.int .i64 2)) (fun _ hk => hk.2) (.slice Ao40 y151.length co40)) (fun _ hk => hk.2) (.slice Ao39 y181.length co39)) (fun _ hk => ⟨hk.1.1.1.1.1.1.1.1.1.1.1.1, hk.1.2⟩), by (with_reducible repeat (first | apply Kd.N_alloc | apply Kd.N_drewN | apply Kd.N_drew)); exact Kd.N_mono (Kd.N_far (p := ⟨gb144, 3, none⟩) (Kd.N_far (p := ⟨gb144, 2, none⟩) (Kd.N_far (p := ⟨gb144, 1, none⟩) (Kd.N_far (p := ⟨gb144, 0, none⟩) (Kd.N_mono HO183.out (fun k_ hk => (⟨hk, hk.2.2⟩ : _ ∧ k_ ≠ gb144))) (fun _ hk => hk.2) (.int .i64 8)) (fun _ hk => hk.2) (.int .i64 2)) (fun _ hk => hk.2) (.slice Ao40 y151.length co40)) (fun _ hk => hk.2) (.slice Ao39 y181.length co39)) (fun _ hk => ⟨hk.1.1, hk.1.2.1⟩), by repeat (first | (with_reducible first | exact HB.out | apply below_alloc | apply pw_below_drewN | apply below_drew1 | refine below_set ?_ GE144.out) | exact HB.out)⟩

end Go.Proofs.Ytbhfkhcedjgpdaa.P
