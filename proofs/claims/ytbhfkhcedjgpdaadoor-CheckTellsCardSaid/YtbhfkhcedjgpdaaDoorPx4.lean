/- Printed by a program of this workplace (a turned copy of the kit's optional print), out of the translation; not trusted: Lean checks it. -/
import Derived.Test.YtbhfkhcedjgpdaaDoorPx0
import Derived.Test.YtbhfkhcedjgpdaaDoorPx2
import Derived.Test.YtbhfkhcedjgpdaaDoorPx3
namespace Go.Proofs.YtbhfkhcedjgpdaaDoor.P
open Go.RowKit Go.Proofs.YtbhfkhcedjgpdaaDoorW.PrintWords Go.Proofs.YtbhfkhcedjgpdaaDoorW.PrintLast Go.Proofs.YtbhfkhcedjgpdaaDoorW.PrintMore
attribute [local go_sem] max2_int min2_int max_two min_two max_three min_three max_four min_four   -- for this text's walks alone
set_option linter.unusedVariables false
set_option linter.unusedSimpArgs false

/-! ### check_Read: function 9 -/
def check_Read.f (k : Nat) (a0_0 : Int) (a0_1 : Int) (l0_2 : List (List Int)) (l0_3 : List (S60)) (a1 : Int) (a2 : Int) : Option (Option Int) := (check_flows.f k a0_0 a0_1 l0_2 l0_3 a2 a1).bind fun t111 => (some t111)
theorem check_Read.mono : ∀ a0 a1 a2 a3 a4 a5 k, LeO (check_Read.f k a0 a1 a2 a3 a4 a5) (check_Read.f (k + 1) a0 a1 a2 a3 a4 a5) := by
 intro a0 a1 a2 a3 a4 a5 k
 unfold check_Read.f
 repeat' first
   | (with_reducible exact check_flows.mono _ _ _ _ _ _ _)
   | (with_reducible exact LeO.refl _)
   | (with_reducible exact LeO.none _)
   | (with_reducible refine LeO.ite ?_ ?_)
   | (with_reducible refine LeO.bind ?_ (fun _ => ?_))
   | exact check_flows.mono _ _ _ _ _ _ _
   | exact LeO.none _
   | refine LeO.ite ?_ ?_
   | refine LeO.bind ?_ (fun _ => ?_)
set_option maxHeartbeats 8000000 in
set_option maxRecDepth 100000 in
theorem check_Read.calls (k : Nat) (a0_0 : Int) (a0_1 : Int) (A0_2 : Option Addr) (c0_2 : Nat) (l0_2 : List (List Int)) (A0_3 : Option Addr) (c0_3 : Nat) (l0_3 : List (S60)) (a1 : Int) (a2 : Int) (r : Option Int) (w : World) (hr0_2 : Kd.C (Kd.slice 3 (Kd.int .i64)) w A0_2 l0_2.length l0_2) (hc0_2 : l0_2.length ≤ c0_2) (hr0_3 : Kd.C k60 w A0_3 l0_3.length l0_3) (hc0_3 : l0_3.length ≤ c0_3) (h : check_Read.f k a0_0 a0_1 l0_2 l0_3 a1 a2 = some r) :
    Calls Tryd.prog 9 #[.agg #[.int .i64 a0_0, .int .i64 a0_1, .slice A0_2 l0_2.length c0_2, .slice A0_3 l0_3.length c0_3], .int .i64 a1, .int .i64 a2] w fun e w' => e = .returned (errW r) ∧ Below w.heap.size w w' := by
 have hu25 := Tryd.underlying25
 have HR0_2 := Goto.m0 hr0_2
 have HC0_2 := Goto.m0 hc0_2
 clear hr0_2 hc0_2
 have HR0_3 := Goto.m0 hr0_3
 have HC0_3 := Goto.m0 hc0_3
 clear hr0_3 hc0_3
 have HB := Goto.m0 (Below.refl w.heap.size w)
 have H : ((check_flows.f k a0_0 a0_1 l0_2 l0_3 a2 a1).bind fun t111 => (some t111)) = some r := h
 clear h
 replace H := Option.bind_eq_some_iff.mp H
 obtain ⟨t111, A40, H⟩ := H
 have A4 := Goto.m0 A40
 clear A40
 obtain rfl := Option.some.inj H
 go_enter Tryd.func9, Tryd.ntmps9
 go_wp2_with (first | ((with_reducible refine gate_dst (N := 3) rfl ?_); refine box_event ?hg (N := 3) ?hd (cs := #[.int .i64 a0_0, .int .i64 a0_1, .slice A0_2 l0_2.length c0_2, .slice A0_3 l0_3.length c0_3]) (t := 25) ?hr ?_; (case hd => rfl); (case hg => rfl); (case hr => first | (go_simp; done) | (go_simp; rfl)); intro gb110 hg w5 hbox hb; have BK110 := Goto.m0 (hbox); have GW110 := Goto.gs HB hg; have GE110 := Goto.gs HB hg; replace HB := Goto.hs HB hb; clear hb hbox hg; have hcz6_0 := Goto.bc0 BK110; have hcz6_1 := Goto.bc1 BK110; have hcz6_2 := Goto.bc2 BK110; have hcz6_3 := Goto.bc3 BK110; have hfz6_0 := Goto.bf BK110 0; have hfz6_1 := Goto.bf BK110 1; have hfz6_2 := Goto.bf BK110 2; have hfz6_3 := Goto.bf BK110 3) | ((with_reducible refine gate_callee (f := 37) rfl ?_); refine goesL_ (some 10) rfl rfl Tryd.func37 (by kernel_rfl) rfl #[.agg #[.int .i64 a0_0, .int .i64 a0_1, .slice A0_2 l0_2.length c0_2, .slice A0_3 l0_3.length c0_3], .int .i64 a2, .int .i64 a1] rfl (by (try simp only [List.map_toArray, List.map_cons, List.map_nil]); first | done | rfl | (simp only [List.length_drop, List.length_take]; rfl)) ?_; (with_reducible refine (check_flows.calls k a0_0 a0_1 _ _ l0_2 _ _ l0_3 a2 a1 t111 _ ?side1 ?side2 ?side3 ?side4 A4.out).mono ?_); (case side1 => repeat (first | exact (Kd.C_below HR0_2.out HB.out) | (with_reducible refine Kd.C_alloc ?_ _) | (with_reducible refine Kd.C_drewN ?_ _) | (with_reducible refine Kd.C_drew ?_))); (case side2 => exact HC0_2.out); (case side3 => repeat (first | exact (Kd.C_below HR0_3.out HB.out) | (with_reducible refine Kd.C_alloc ?_ _) | (with_reducible refine Kd.C_drewN ?_ _) | (with_reducible refine Kd.C_drew ?_))); (case side4 => exact HC0_3.out); rintro e w7 ⟨rfl, hb⟩; refine ⟨_, rfl, ?_⟩; replace BK110 := Goto.bb BK110 hb; replace HB := Goto.hs HB hb; (try clear hb); (try clear hb2); (try clear hk); (try clear hi); (try simp only [errW_none, errW_some])))
 go_ret
 exact ⟨Goto.er, by repeat (first | (with_reducible first | exact HB.out | apply below_alloc | apply pw_below_drewN | apply below_drew1 | refine below_set ?_ GE110.out) | exact HB.out)⟩

/-! ### check_Send: function 11 -/
def check_Send.f (k : Nat) (a0_0 : Int) (a0_1 : Int) (l0_2 : List (List Int)) (l0_3 : List (S60)) (a1 : Int) (a2 : Int) : Option (Option Int) := (check_flows.f k a0_0 a0_1 l0_2 l0_3 a1 a2).bind fun t113 => (some t113)
theorem check_Send.mono : ∀ a0 a1 a2 a3 a4 a5 k, LeO (check_Send.f k a0 a1 a2 a3 a4 a5) (check_Send.f (k + 1) a0 a1 a2 a3 a4 a5) := by
 intro a0 a1 a2 a3 a4 a5 k
 unfold check_Send.f
 repeat' first
   | (with_reducible exact check_flows.mono _ _ _ _ _ _ _)
   | (with_reducible exact LeO.refl _)
   | (with_reducible exact LeO.none _)
   | (with_reducible refine LeO.ite ?_ ?_)
   | (with_reducible refine LeO.bind ?_ (fun _ => ?_))
   | exact check_flows.mono _ _ _ _ _ _ _
   | exact LeO.none _
   | refine LeO.ite ?_ ?_
   | refine LeO.bind ?_ (fun _ => ?_)
set_option maxHeartbeats 8000000 in
set_option maxRecDepth 100000 in
theorem check_Send.calls (k : Nat) (a0_0 : Int) (a0_1 : Int) (A0_2 : Option Addr) (c0_2 : Nat) (l0_2 : List (List Int)) (A0_3 : Option Addr) (c0_3 : Nat) (l0_3 : List (S60)) (a1 : Int) (a2 : Int) (r : Option Int) (w : World) (hr0_2 : Kd.C (Kd.slice 3 (Kd.int .i64)) w A0_2 l0_2.length l0_2) (hc0_2 : l0_2.length ≤ c0_2) (hr0_3 : Kd.C k60 w A0_3 l0_3.length l0_3) (hc0_3 : l0_3.length ≤ c0_3) (h : check_Send.f k a0_0 a0_1 l0_2 l0_3 a1 a2 = some r) :
    Calls Tryd.prog 11 #[.agg #[.int .i64 a0_0, .int .i64 a0_1, .slice A0_2 l0_2.length c0_2, .slice A0_3 l0_3.length c0_3], .int .i64 a1, .int .i64 a2] w fun e w' => e = .returned (errW r) ∧ Below w.heap.size w w' := by
 have hu25 := Tryd.underlying25
 have HR0_2 := Goto.m0 hr0_2
 have HC0_2 := Goto.m0 hc0_2
 clear hr0_2 hc0_2
 have HR0_3 := Goto.m0 hr0_3
 have HC0_3 := Goto.m0 hc0_3
 clear hr0_3 hc0_3
 have HB := Goto.m0 (Below.refl w.heap.size w)
 have H : ((check_flows.f k a0_0 a0_1 l0_2 l0_3 a1 a2).bind fun t113 => (some t113)) = some r := h
 clear h
 replace H := Option.bind_eq_some_iff.mp H
 obtain ⟨t113, A40, H⟩ := H
 have A4 := Goto.m0 A40
 clear A40
 obtain rfl := Option.some.inj H
 go_enter Tryd.func11, Tryd.ntmps11
 go_wp2_with (first | ((with_reducible refine gate_dst (N := 3) rfl ?_); refine box_event ?hg (N := 3) ?hd (cs := #[.int .i64 a0_0, .int .i64 a0_1, .slice A0_2 l0_2.length c0_2, .slice A0_3 l0_3.length c0_3]) (t := 25) ?hr ?_; (case hd => rfl); (case hg => rfl); (case hr => first | (go_simp; done) | (go_simp; rfl)); intro gb112 hg w5 hbox hb; have BK112 := Goto.m0 (hbox); have GW112 := Goto.gs HB hg; have GE112 := Goto.gs HB hg; replace HB := Goto.hs HB hb; clear hb hbox hg; have hcz6_0 := Goto.bc0 BK112; have hcz6_1 := Goto.bc1 BK112; have hcz6_2 := Goto.bc2 BK112; have hcz6_3 := Goto.bc3 BK112; have hfz6_0 := Goto.bf BK112 0; have hfz6_1 := Goto.bf BK112 1; have hfz6_2 := Goto.bf BK112 2; have hfz6_3 := Goto.bf BK112 3) | ((with_reducible refine gate_callee (f := 37) rfl ?_); refine goesL_ (some 10) rfl rfl Tryd.func37 (by kernel_rfl) rfl #[.agg #[.int .i64 a0_0, .int .i64 a0_1, .slice A0_2 l0_2.length c0_2, .slice A0_3 l0_3.length c0_3], .int .i64 a1, .int .i64 a2] rfl (by (try simp only [List.map_toArray, List.map_cons, List.map_nil]); first | done | rfl | (simp only [List.length_drop, List.length_take]; rfl)) ?_; (with_reducible refine (check_flows.calls k a0_0 a0_1 _ _ l0_2 _ _ l0_3 a1 a2 t113 _ ?side1 ?side2 ?side3 ?side4 A4.out).mono ?_); (case side1 => repeat (first | exact (Kd.C_below HR0_2.out HB.out) | (with_reducible refine Kd.C_alloc ?_ _) | (with_reducible refine Kd.C_drewN ?_ _) | (with_reducible refine Kd.C_drew ?_))); (case side2 => exact HC0_2.out); (case side3 => repeat (first | exact (Kd.C_below HR0_3.out HB.out) | (with_reducible refine Kd.C_alloc ?_ _) | (with_reducible refine Kd.C_drewN ?_ _) | (with_reducible refine Kd.C_drew ?_))); (case side4 => exact HC0_3.out); rintro e w7 ⟨rfl, hb⟩; refine ⟨_, rfl, ?_⟩; replace BK112 := Goto.bb BK112 hb; replace HB := Goto.hs HB hb; (try clear hb); (try clear hb2); (try clear hk); (try clear hi); (try simp only [errW_none, errW_some])))
 go_ret
 exact ⟨Goto.er, by repeat (first | (with_reducible first | exact HB.out | apply below_alloc | apply pw_below_drewN | apply below_drew1 | refine below_set ?_ GE112.out) | exact HB.out)⟩

/-! ### check_Plan: function 13 -/
def check_Plan.l0 : Nat → Int → Int → Int → Int → Int → List (List Int) → List (S60) → Option (Option Int)
  | 0, _, _, _, _, _, _, _ => none
  | k + 1, x1, x2, x7, x115000, x115001, x115002, x115003 => if x7 < (x115003.length : Int) then ((check_flows.f k x115000 x115001 x115002 x115003 x1 x7).bind fun t115 => (if t115.isNone = true then (check_Plan.l0 k x1 x2 (wrap64 (x7 + 1)) x115000 x115001 x115002 x115003) else (some (some 15)))) else (if x2 < 0 then (some (some 10)) else (if x2 ≥ (x115002.length : Int) then (some (some 10)) else (some none)))
def check_Plan.f (k : Nat) (a0_0 : Int) (a0_1 : Int) (l0_2 : List (List Int)) (l0_3 : List (S60)) (a1 : Int) (a2 : Int) : Option (Option Int) := check_Plan.l0 k a1 a2 0 a0_0 a0_1 l0_2 l0_3
theorem check_Plan.mono_l : ∀ k, (∀ y0 y1 y2 y3 y4 y5 y6, LeO (check_Plan.l0 k y0 y1 y2 y3 y4 y5 y6) (check_Plan.l0 (k + 1) y0 y1 y2 y3 y4 y5 y6))
  | 0 => fun _ _ _ _ _ _ _ r h => by simp [check_Plan.l0] at h
  | k + 1 => by
    have ih0 := check_Plan.mono_l k
    · intro y0 y1 y2 y3 y4 y5 y6
      unfold check_Plan.l0
      repeat' first
      | (with_reducible exact ih0 _ _ _ _ _ _ _)
      | (with_reducible exact check_flows.mono _ _ _ _ _ _ _)
      | (with_reducible exact LeO.refl _)
      | (with_reducible exact LeO.none _)
      | (with_reducible refine LeO.ite ?_ ?_)
      | (with_reducible refine LeO.bind ?_ (fun _ => ?_))
      | exact ih0 _ _ _ _ _ _ _
      | exact check_flows.mono _ _ _ _ _ _ _
      | exact LeO.none _
      | refine LeO.ite ?_ ?_
      | refine LeO.bind ?_ (fun _ => ?_)
theorem check_Plan.mono : ∀ a0 a1 a2 a3 a4 a5 k, LeO (check_Plan.f k a0 a1 a2 a3 a4 a5) (check_Plan.f (k + 1) a0 a1 a2 a3 a4 a5) := by
 intro a0 a1 a2 a3 a4 a5 k
 have ih0 := check_Plan.mono_l k
 unfold check_Plan.f
 repeat' first
   | (with_reducible exact ih0 _ _ _ _ _ _ _)
   | (with_reducible exact check_flows.mono _ _ _ _ _ _ _)
   | (with_reducible exact LeO.refl _)
   | (with_reducible exact LeO.none _)
   | (with_reducible refine LeO.ite ?_ ?_)
   | (with_reducible refine LeO.bind ?_ (fun _ => ?_))
   | exact ih0 _ _ _ _ _ _ _
   | exact check_flows.mono _ _ _ _ _ _ _
   | exact LeO.none _
   | refine LeO.ite ?_ ?_
   | refine LeO.bind ?_ (fun _ => ?_)
set_option maxHeartbeats 8000000 in
set_option maxRecDepth 100000 in
theorem check_Plan.calls (k : Nat) (a0_0 : Int) (a0_1 : Int) (A0_2 : Option Addr) (c0_2 : Nat) (l0_2 : List (List Int)) (A0_3 : Option Addr) (c0_3 : Nat) (l0_3 : List (S60)) (a1 : Int) (a2 : Int) (r : Option Int) (w : World) (hr0_2 : Kd.C (Kd.slice 3 (Kd.int .i64)) w A0_2 l0_2.length l0_2) (hc0_2 : l0_2.length ≤ c0_2) (hr0_3 : Kd.C k60 w A0_3 l0_3.length l0_3) (hc0_3 : l0_3.length ≤ c0_3) (h : check_Plan.f k a0_0 a0_1 l0_2 l0_3 a1 a2 = some r) :
    Calls Tryd.prog 13 #[.agg #[.int .i64 a0_0, .int .i64 a0_1, .slice A0_2 l0_2.length c0_2, .slice A0_3 l0_3.length c0_3], .int .i64 a1, .int .i64 a2] w fun e w' => e = .returned (errW r) ∧ Below w.heap.size w w' := by
 have hu25 := Tryd.underlying25; have hu31 := Tryd.underlying31; have hu55 := Tryd.underlying55
 have HR0_2 := Goto.m0 hr0_2
 have HC0_2 := Goto.m0 hc0_2
 clear hr0_2 hc0_2
 have HR0_3 := Goto.m0 hr0_3
 have HC0_3 := Goto.m0 hc0_3
 clear hr0_3 hc0_3
 have HB := Goto.m0 (Below.refl w.heap.size w)
 have H : (check_Plan.l0 k a1 a2 0 a0_0 a0_1 l0_2 l0_3) = some r := h
 clear h
 have H' := Goto.m0 H
 clear H
 go_enter Tryd.func13, Tryd.ntmps13
 go_wp2_with (first | ((with_reducible refine gate_dst (N := 3) rfl ?_); (try (refine gate_guard (by rfl) ?_; dsimp only)); refine box_event ?hg (N := 3) ?hd (cs := #[.int .i64 a0_0, .int .i64 a0_1, .slice A0_2 l0_2.length c0_2, .slice A0_3 l0_3.length c0_3]) (t := 25) ?hr ?_; (case hd => rfl); (case hg => rfl); (case hr => first | (go_simp; done) | (go_simp; rfl)); intro gb114 hg w4 hbox hb; have BK114 := Goto.m0 (hbox); have GW114 := Goto.gs HB hg; have GE114 := Goto.gs HB hg; replace HB := Goto.hs HB hb; clear hb hbox hg) | (with_reducible refine Goto.scope_enter ?_))
 rename_i K0_ hK0_
 refine Goto.label_ghost (l := 0) hK0_ (fun a0_ kq a_ w' => ∃ w6_ v7 w8_ w9_ w10_ w11_ w12_ w13_ w14_ w15_ w16_ w17_ w18_ w19_ w20_ w21_ w22_ w23_ w24_ w25_ w26_ w27_ w28_ w29_ w30_ : Value, (∃ (x7_1 : Int), v7 = .int .i64 x7_1 ∧ Aside0 (check_Plan.l0 kq a1 a2 x7_1 a0_0 a0_1 l0_2 l0_3 = some r) ∧ Aside0 (kq ≤ k) ∧ Aside0 (w'.heap[gb114]? = some (.cells #[.int .i64 a0_0, .int .i64 a0_1, (.slice A0_2 l0_2.length c0_2), (.slice A0_3 l0_3.length c0_3)] 25 (0, 0))) ∧ Aside0 (Below w.heap.size w w')) ∧ a_ = { tmps := #[Goto.slot a0_.tmps.toList 0, Goto.slot a0_.tmps.toList 1, Goto.slot a0_.tmps.toList 2, Goto.slot a0_.tmps.toList 3, Goto.slot a0_.tmps.toList 4, Goto.slot a0_.tmps.toList 5, w6_, v7, w8_, w9_, w10_, w11_, w12_, w13_, w14_, w15_, w16_, w17_, w18_, w19_, w20_, w21_, w22_, w23_, w24_, w25_, w26_, w27_, w28_, w29_, w30_], defers := a0_.defers }) k ?hfl_ ?atStart ?round
 case hfl_ => rfl
 case atStart => ((repeat apply Exists.intro); refine ⟨?_, ?fr_⟩; (case fr_ => ((try simp only [Goto.slot_zero, Goto.slot_succ]); rfl)); exact ⟨(0), (by first | rfl | (simp; done) | (simp [*]; done)), H', ⟨Nat.le_refl _⟩, ⟨Goto.bx BK114⟩, ⟨Goto.hx HB⟩⟩)
 case round =>
  clear hK0_ K0_
  clear H'
  try clear c1; try clear p2
  intro gk _ wr hinv_
  obtain ⟨w6_, v7, w8_, w9_, w10_, w11_, w12_, w13_, w14_, w15_, w16_, w17_, w18_, w19_, w20_, w21_, w22_, w23_, w24_, w25_, w26_, w27_, w28_, w29_, w30_, hrel, ha_⟩ := hinv_
  subst ha_
  (try simp only [Goto.slot_zero, Goto.slot_succ])
  intro _ _ _ _
  obtain ⟨x7_1, rfl, HA, HK1, BK114, HB⟩ := hrel
  cases gk with
  | zero => exact absurd HA.out (by simp [check_Plan.l0])
  | succ k1 =>
   have H := HA.out; clear HA
   simp only [check_Plan.l0] at H
   by_cases c5 : x7_1 < (l0_3.length : Int)
   ·
    rw [if_pos c5] at H
    have c5b0 : decide (x7_1 < (l0_3.length : Int)) = true := decide_eq_true c5
    clear c5
    replace H := Option.bind_eq_some_iff.mp H
    obtain ⟨t115, A60, H⟩ := H
    have A6 := Goto.m0 A60
    clear A60
    rcases t115 with _ | q116
    ·
     have H1 : (check_Plan.l0 k1 a1 a2 (wrap64 (x7_1 + 1)) a0_0 a0_1 l0_2 l0_3) = some r := by rw [if_pos (show (none : Option Int).isNone = true by rfl)] at H; exact H
     clear H; have H := H1; clear H1
     try simp only [errW_none, errW_some]
     have H' := Goto.m0 H
     clear H; have hcz7_0 := Goto.bc0 BK114; have hcz7_1 := Goto.bc1 BK114; have hcz7_2 := Goto.bc2 BK114; have hcz7_3 := Goto.bc3 BK114; have hfz7_0 := Goto.bf BK114 0; have hfz7_1 := Goto.bf BK114 1; have hfz7_2 := Goto.bf BK114 2; have hfz7_3 := Goto.bf BK114 3
     go_wp2_with (first | ((with_reducible refine gate_callee (f := 37) rfl ?_); refine goesL_ (some 16) rfl rfl Tryd.func37 (by kernel_rfl) rfl #[.agg #[.int .i64 a0_0, .int .i64 a0_1, .slice A0_2 l0_2.length c0_2, .slice A0_3 l0_3.length c0_3], .int .i64 a1, .int .i64 x7_1] rfl (by (try simp only [List.map_toArray, List.map_cons, List.map_nil]); first | done | rfl | (simp only [List.length_drop, List.length_take]; rfl)) ?_; (with_reducible refine (check_flows.calls k1 a0_0 a0_1 _ _ l0_2 _ _ l0_3 a1 x7_1 none _ ?side1 ?side2 ?side3 ?side4 A6.out).mono ?_); (case side1 => repeat (first | exact (Kd.C_below HR0_2.out HB.out) | (with_reducible refine Kd.C_alloc ?_ _) | (with_reducible refine Kd.C_drewN ?_ _) | (with_reducible refine Kd.C_drew ?_))); (case side2 => exact HC0_2.out); (case side3 => repeat (first | exact (Kd.C_below HR0_3.out HB.out) | (with_reducible refine Kd.C_alloc ?_ _) | (with_reducible refine Kd.C_drewN ?_ _) | (with_reducible refine Kd.C_drew ?_))); (case side4 => exact HC0_3.out); rintro e w8 ⟨rfl, hb⟩; refine ⟨_, rfl, ?_⟩; replace BK114 := Goto.bb BK114 hb; replace HB := Goto.hs HB hb; (try clear hb); (try clear hb2); (try clear hk); (try clear hi); (try simp only [errW_none, errW_some])) | (with_reducible refine Goto.scope_enter ?_))
     refine wp_goto ?_
     (try simp only [Exit.then, Exit.inBlock])
     refine Goto.jump_hit ?_
     go_step
     go_roundg k1
     case measure => have := HK1.out; omega
     case rel => exact ⟨(wrap64 (x7_1 + 1)), (by first | rfl | (simp; done) | (simp [*]; done)), H', ⟨by have := HK1.out; omega⟩, ⟨Goto.bx BK114⟩, ⟨Goto.hx HB⟩⟩
    ·
     have H1 : (some (some 15)) = some r := by rw [if_neg (show ¬ (some q116).isNone = true by simp)] at H; exact H
     clear H; have H := H1; clear H1
     try simp only [errW_none, errW_some]
     obtain rfl := Option.some.inj H
     have hcz9_0 := Goto.bc0 BK114; have hcz9_1 := Goto.bc1 BK114; have hcz9_2 := Goto.bc2 BK114; have hcz9_3 := Goto.bc3 BK114; have hfz9_0 := Goto.bf BK114 0; have hfz9_1 := Goto.bf BK114 1; have hfz9_2 := Goto.bf BK114 2; have hfz9_3 := Goto.bf BK114 3
     go_wp2_with (first | ((with_reducible refine gate_callee (f := 37) rfl ?_); refine goesL_ (some 16) rfl rfl Tryd.func37 (by kernel_rfl) rfl #[.agg #[.int .i64 a0_0, .int .i64 a0_1, .slice A0_2 l0_2.length c0_2, .slice A0_3 l0_3.length c0_3], .int .i64 a1, .int .i64 x7_1] rfl (by (try simp only [List.map_toArray, List.map_cons, List.map_nil]); first | done | rfl | (simp only [List.length_drop, List.length_take]; rfl)) ?_; (with_reducible refine (check_flows.calls k1 a0_0 a0_1 _ _ l0_2 _ _ l0_3 a1 x7_1 (some q116) _ ?side1 ?side2 ?side3 ?side4 A6.out).mono ?_); (case side1 => repeat (first | exact (Kd.C_below HR0_2.out HB.out) | (with_reducible refine Kd.C_alloc ?_ _) | (with_reducible refine Kd.C_drewN ?_ _) | (with_reducible refine Kd.C_drew ?_))); (case side2 => exact HC0_2.out); (case side3 => repeat (first | exact (Kd.C_below HR0_3.out HB.out) | (with_reducible refine Kd.C_alloc ?_ _) | (with_reducible refine Kd.C_drewN ?_ _) | (with_reducible refine Kd.C_drew ?_))); (case side4 => exact HC0_3.out); rintro e w10 ⟨rfl, hb⟩; refine ⟨_, rfl, ?_⟩; replace BK114 := Goto.bb BK114 hb; replace HB := Goto.hs HB hb; (try clear hb); (try clear hb2); (try clear hk); (try clear hi); (try simp only [errW_none, errW_some])) | (with_reducible refine Goto.scope_enter ?_))
     (try simp only [Exit.inBlock, Exit.then])
     (try refine Goto.ret_hit ?_)
     (try refine Goto.end_hit ?_)
     go_ret
     exact ⟨Goto.er, by repeat (first | (with_reducible first | exact HB.out | apply below_alloc | apply pw_below_drewN | apply below_drew1 | refine below_set ?_ GE114.out) | exact HB.out)⟩
   ·
    rw [if_neg c5] at H
    have c5b0 : decide (x7_1 < (l0_3.length : Int)) = false := decide_eq_false c5
    clear c5
    by_cases c11 : a2 < 0
    ·
     rw [if_pos c11] at H
     have c11b0 : decide (a2 < 0) = true := decide_eq_true c11
     clear c11
     obtain rfl := Option.some.inj H
     have hcz12_0 := Goto.bc0 BK114; have hcz12_1 := Goto.bc1 BK114; have hcz12_2 := Goto.bc2 BK114; have hcz12_3 := Goto.bc3 BK114; have hfz12_0 := Goto.bf BK114 0; have hfz12_1 := Goto.bf BK114 1; have hfz12_2 := Goto.bf BK114 2; have hfz12_3 := Goto.bf BK114 3
     go_wp2_with (first | (with_reducible refine Goto.scope_enter ?_))
     (try simp only [Exit.inBlock, Exit.then])
     (try refine Goto.ret_hit ?_)
     (try refine Goto.end_hit ?_)
     go_ret
     exact ⟨Goto.er, by repeat (first | (with_reducible first | exact HB.out | apply below_alloc | apply pw_below_drewN | apply below_drew1 | refine below_set ?_ GE114.out) | exact HB.out)⟩
    ·
     rw [if_neg c11] at H
     have c11b0 : decide (a2 < 0) = false := decide_eq_false c11
     clear c11
     by_cases c13 : a2 ≥ (l0_2.length : Int)
     ·
      rw [if_pos c13] at H
      have c13b0 : decide ((l0_2.length : Int) ≤ a2) = true := decide_eq_true c13
      clear c13
      obtain rfl := Option.some.inj H
      have hcz14_0 := Goto.bc0 BK114; have hcz14_1 := Goto.bc1 BK114; have hcz14_2 := Goto.bc2 BK114; have hcz14_3 := Goto.bc3 BK114; have hfz14_0 := Goto.bf BK114 0; have hfz14_1 := Goto.bf BK114 1; have hfz14_2 := Goto.bf BK114 2; have hfz14_3 := Goto.bf BK114 3
      go_wp2_with (first | (with_reducible refine Goto.scope_enter ?_))
      (try simp only [Exit.inBlock, Exit.then])
      (try refine Goto.ret_hit ?_)
      (try refine Goto.end_hit ?_)
      go_ret
      exact ⟨Goto.er, by repeat (first | (with_reducible first | exact HB.out | apply below_alloc | apply pw_below_drewN | apply below_drew1 | refine below_set ?_ GE114.out) | exact HB.out)⟩
     ·
      rw [if_neg c13] at H
      have c13b0 : decide ((l0_2.length : Int) ≤ a2) = false := decide_eq_false c13
      clear c13
      obtain rfl := Option.some.inj H
      have hcz15_0 := Goto.bc0 BK114; have hcz15_1 := Goto.bc1 BK114; have hcz15_2 := Goto.bc2 BK114; have hcz15_3 := Goto.bc3 BK114; have hfz15_0 := Goto.bf BK114 0; have hfz15_1 := Goto.bf BK114 1; have hfz15_2 := Goto.bf BK114 2; have hfz15_3 := Goto.bf BK114 3
      go_wp2_with (first | (with_reducible refine Goto.scope_enter ?_))
      (try simp only [Exit.inBlock, Exit.then])
      (try refine Goto.ret_hit ?_)
      (try refine Goto.end_hit ?_)
      go_ret
      exact ⟨Goto.er, by repeat (first | (with_reducible first | exact HB.out | apply below_alloc | apply pw_below_drewN | apply below_drew1 | refine below_set ?_ GE114.out) | exact HB.out)⟩

/-! ### check_Level: function 15 -/
def check_Level.j0 : Nat → Bool → Option (Option Int)
  | 0, _ => none
  | k + 1, x25 => if x25 = true then (some (some 10)) else (some none)
def check_Level.f (k : Nat) (a0_0 : Int) (a0_1 : Int) (l0_2 : List (List Int)) (l0_3 : List (S60)) (a1 : Int) (a2 : Int) : Option (Option Int) := (check_domain.f a0_0 a0_1 l0_2 l0_3 a1).bind fun t118 => (if t118 = true then (if a2 < 0 then (check_Level.j0 k true) else (if 0 ≤ a1 then (if a1 < (l0_3.length : Int) then (check_Level.j0 k (decide (a2 ≥ (((rd_T60 l0_3 a1).f2).length : Int)))) else (none)) else (none))) else (check_Level.j0 k true))
theorem check_Level.mono_l : ∀ k, (∀ y0, LeO (check_Level.j0 k y0) (check_Level.j0 (k + 1) y0))
  | 0 => fun _ r h => by simp [check_Level.j0] at h
  | k + 1 => by
    have ih0 := check_Level.mono_l k
    · intro y0
      unfold check_Level.j0
      repeat' first
      | (with_reducible exact ih0 _)
      | (with_reducible exact LeO.refl _)
      | (with_reducible exact LeO.none _)
      | (with_reducible refine LeO.ite ?_ ?_)
      | (with_reducible refine LeO.bind ?_ (fun _ => ?_))
      | exact ih0 _
      | exact LeO.none _
      | refine LeO.ite ?_ ?_
      | refine LeO.bind ?_ (fun _ => ?_)
theorem check_Level.mono : ∀ a0 a1 a2 a3 a4 a5 k, LeO (check_Level.f k a0 a1 a2 a3 a4 a5) (check_Level.f (k + 1) a0 a1 a2 a3 a4 a5) := by
 intro a0 a1 a2 a3 a4 a5 k
 have ih0 := check_Level.mono_l k
 unfold check_Level.f
 repeat' first
   | (with_reducible exact ih0 _)
   | (with_reducible exact LeO.refl _)
   | (with_reducible exact LeO.none _)
   | (with_reducible refine LeO.ite ?_ ?_)
   | (with_reducible refine LeO.bind ?_ (fun _ => ?_))
   | exact ih0 _
   | exact LeO.none _
   | refine LeO.ite ?_ ?_
   | refine LeO.bind ?_ (fun _ => ?_)
set_option maxHeartbeats 8000000 in
set_option maxRecDepth 100000 in
theorem check_Level.calls (k : Nat) (a0_0 : Int) (a0_1 : Int) (A0_2 : Option Addr) (c0_2 : Nat) (l0_2 : List (List Int)) (A0_3 : Option Addr) (c0_3 : Nat) (l0_3 : List (S60)) (a1 : Int) (a2 : Int) (r : Option Int) (w : World) (hr0_2 : Kd.C (Kd.slice 3 (Kd.int .i64)) w A0_2 l0_2.length l0_2) (hc0_2 : l0_2.length ≤ c0_2) (hr0_3 : Kd.C k60 w A0_3 l0_3.length l0_3) (hc0_3 : l0_3.length ≤ c0_3) (h : check_Level.f k a0_0 a0_1 l0_2 l0_3 a1 a2 = some r) :
    Calls Tryd.prog 15 #[.agg #[.int .i64 a0_0, .int .i64 a0_1, .slice A0_2 l0_2.length c0_2, .slice A0_3 l0_3.length c0_3], .int .i64 a1, .int .i64 a2] w fun e w' => e = .returned (errW r) ∧ Below w.heap.size w w' := by
 have hu25 := Tryd.underlying25; have hu31 := Tryd.underlying31; have hu55 := Tryd.underlying55
 have HR0_2 := Goto.m0 hr0_2
 have HC0_2 := Goto.m0 hc0_2
 clear hr0_2 hc0_2
 have HR0_3 := Goto.m0 hr0_3
 have HC0_3 := Goto.m0 hc0_3
 clear hr0_3 hc0_3
 have HB := Goto.m0 (Below.refl w.heap.size w)
 have H : ((check_domain.f a0_0 a0_1 l0_2 l0_3 a1).bind fun t118 => (if t118 = true then (if a2 < 0 then (check_Level.j0 k true) else (if 0 ≤ a1 then (if a1 < (l0_3.length : Int) then (check_Level.j0 k (decide (a2 ≥ (((rd_T60 l0_3 a1).f2).length : Int)))) else (none)) else (none))) else (check_Level.j0 k true))) = some r := h
 clear h
 have HC4 := Goto.m0 H
 clear H
 go_enter Tryd.func15, Tryd.ntmps15
 go_upto_region 1 with (first | ((with_reducible refine gate_dst (N := 3) rfl ?_); (try (refine gate_guard (by rfl) ?_; dsimp only)); refine box_event ?hg (N := 3) ?hd (cs := #[.int .i64 a0_0, .int .i64 a0_1, .slice A0_2 l0_2.length c0_2, .slice A0_3 l0_3.length c0_3]) (t := 25) ?hr ?_; (case hd => rfl); (case hg => rfl); (case hr => first | (go_simp; done) | (go_simp; rfl)); intro gb117 hg w5 hbox hb; have BK117 := Goto.m0 (hbox); have GW117 := Goto.gs HB hg; have GE117 := Goto.gs HB hg; replace HB := Goto.hs HB hb; clear hb hbox hg))
 (try simp only [Act.put, List.setIfInBounds_toArray, List.set_cons_zero, List.set_cons_succ])
 go_cut [25] (fun v25 wc => ∃ (kq : Nat) (x25_3 : Bool), v25 = .bool x25_3 ∧ Aside0 (check_Level.j0 kq x25_3 = some r) ∧ Aside0 (kq ≤ k) ∧ Aside0 (wc.heap[gb117]? = some (.cells #[.int .i64 a0_0, .int .i64 a0_1, (.slice A0_2 l0_2.length c0_2), (.slice A0_3 l0_3.length c0_3)] 25 (0, 0))) ∧ Aside0 (Below w.heap.size w wc))
 case first =>
  have H := HC4.out; clear HC4
  replace H := Option.bind_eq_some_iff.mp H
  obtain ⟨t118, A60, H⟩ := H
  have A6 := Goto.m0 A60
  clear A60
  by_cases c7 : t118 = true
  ·
   subst c7
   rw [if_pos rfl] at H
   by_cases c8 : a2 < 0
   ·
    rw [if_pos c8] at H
    have c8b0 : decide (a2 < 0) = true := decide_eq_true c8
    clear c8
    (first | rw [c8b0] | (simp only [i64_w, i32_w]; rw [c8b0]) | skip)
    have H' := Goto.m0 H
    clear H; have hcz9_0 := Goto.bc0 BK117; have hcz9_1 := Goto.bc1 BK117; have hcz9_2 := Goto.bc2 BK117; have hcz9_3 := Goto.bc3 BK117; have hfz9_0 := Goto.bf BK117 0; have hfz9_1 := Goto.bf BK117 1; have hfz9_2 := Goto.bf BK117 2; have hfz9_3 := Goto.bf BK117 3
    go_wp2_with (first | ((with_reducible refine gate_callee (f := 40) rfl ?_); refine goesL_ (some 9) rfl rfl Tryd.func40 (by kernel_rfl) rfl #[.agg #[.int .i64 a0_0, .int .i64 a0_1, .slice A0_2 l0_2.length c0_2, .slice A0_3 l0_3.length c0_3], .int .i64 a1] rfl (by (try simp only [List.map_toArray, List.map_cons, List.map_nil]); first | done | rfl | (simp only [List.length_drop, List.length_take]; rfl)) ?_; (with_reducible refine (check_domain.calls a0_0 a0_1 _ _ l0_2 _ _ l0_3 a1 true _ ?side1 ?side2 ?side3 ?side4 A6.out).mono ?_); (case side1 => repeat (first | exact (Kd.C_below HR0_2.out HB.out) | (with_reducible refine Kd.C_alloc ?_ _) | (with_reducible refine Kd.C_drewN ?_ _) | (with_reducible refine Kd.C_drew ?_))); (case side2 => exact HC0_2.out); (case side3 => repeat (first | exact (Kd.C_below HR0_3.out HB.out) | (with_reducible refine Kd.C_alloc ?_ _) | (with_reducible refine Kd.C_drewN ?_ _) | (with_reducible refine Kd.C_drew ?_))); (case side4 => exact HC0_3.out); rintro e w10 ⟨rfl, hb⟩; refine ⟨_, rfl, ?_⟩; replace BK117 := Goto.bb BK117 hb; replace HB := Goto.hs HB hb; (try clear hb); (try clear hb2); (try clear hk); (try clear hi)))
    go_meet
    case rel => exact ⟨_, (true), (by first | rfl | (simp; done) | (simp [*]; done)), H', ⟨by first | omega | exact Nat.le_refl _⟩, ⟨Goto.bx BK117⟩, ⟨Goto.hx HB⟩⟩
   ·
    rw [if_neg c8] at H
    have c8b0 : decide (a2 < 0) = false := decide_eq_false c8
    clear c8
    (first | rw [c8b0] | (simp only [i64_w, i32_w]; rw [c8b0]) | skip)
    by_cases c11 : 0 ≤ a1
    ·
     rw [if_pos c11] at H
     have c11b0 : decide (0 ≤ a1) = true := decide_eq_true c11
     clear c11
     by_cases c12 : a1 < (l0_3.length : Int)
     ·
      rw [if_pos c12] at H
      have c12b0 : decide (a1 < (l0_3.length : Int)) = true := decide_eq_true c12
      clear c12
      have H' := Goto.m0 H
      clear H; have hcz13_0 := Goto.bc0 BK117; have hcz13_1 := Goto.bc1 BK117; have hcz13_2 := Goto.bc2 BK117; have hcz13_3 := Goto.bc3 BK117; have hfz13_0 := Goto.bf BK117 0; have hfz13_1 := Goto.bf BK117 1; have hfz13_2 := Goto.bf BK117 2; have hfz13_3 := Goto.bf BK117 3
      go_wp2_with (first | ((with_reducible refine gate_callee (f := 40) rfl ?_); refine goesL_ (some 9) rfl rfl Tryd.func40 (by kernel_rfl) rfl #[.agg #[.int .i64 a0_0, .int .i64 a0_1, .slice A0_2 l0_2.length c0_2, .slice A0_3 l0_3.length c0_3], .int .i64 a1] rfl (by (try simp only [List.map_toArray, List.map_cons, List.map_nil]); first | done | rfl | (simp only [List.length_drop, List.length_take]; rfl)) ?_; (with_reducible refine (check_domain.calls a0_0 a0_1 _ _ l0_2 _ _ l0_3 a1 true _ ?side1 ?side2 ?side3 ?side4 A6.out).mono ?_); (case side1 => repeat (first | exact (Kd.C_below HR0_2.out HB.out) | (with_reducible refine Kd.C_alloc ?_ _) | (with_reducible refine Kd.C_drewN ?_ _) | (with_reducible refine Kd.C_drew ?_))); (case side2 => exact HC0_2.out); (case side3 => repeat (first | exact (Kd.C_below HR0_3.out HB.out) | (with_reducible refine Kd.C_alloc ?_ _) | (with_reducible refine Kd.C_drewN ?_ _) | (with_reducible refine Kd.C_drew ?_))); (case side4 => exact HC0_3.out); rintro e w14 ⟨rfl, hb⟩; refine ⟨_, rfl, ?_⟩; replace BK117 := Goto.bb BK117 hb; replace HB := Goto.hs HB hb; (try clear hb); (try clear hb2); (try clear hk); (try clear hi); have hcz15_0 := Goto.bc0 BK117; have hcz15_1 := Goto.bc1 BK117; have hcz15_2 := Goto.bc2 BK117; have hcz15_3 := Goto.bc3 BK117; have hfz15_0 := Goto.bf BK117 0; have hfz15_1 := Goto.bf BK117 1; have hfz15_2 := Goto.bf BK117 2; have hfz15_3 := Goto.bf BK117 3; have p119 : 0 ≤ (a1 : Int) := Goto.od; have q119 : a1 < (l0_3.length : Int) := Goto.od; obtain ⟨ad119, A119_2, c119_2, A119_3, c119_3, e119, hx119_0, hx119_1, hx119_2, hx119_3, hx119_4, hx119_5, hx119_6, hx119_7, hx119_8, hx119_9, hl119_2, hi119_2, hl119_3, hi119_3⟩ := at_T60 HR0_3.out a1 p119 q119; cases e119; replace hx119_0 := Goto.kc HB.out hx119_0; replace hx119_1 := Goto.kc HB.out hx119_1; replace hx119_2 := Goto.kc HB.out hx119_2; replace hx119_3 := Goto.kc HB.out hx119_3; replace hx119_4 := Goto.kc HB.out hx119_4; replace hx119_5 := Goto.kc HB.out hx119_5; replace hx119_6 := Goto.kc HB.out hx119_6; replace hx119_7 := Goto.kc HB.out hx119_7; replace hx119_8 := Goto.kc HB.out hx119_8; replace hx119_9 := Goto.kc HB.out hx119_9; have HR119_2 := Goto.m0 hi119_2; have HC119_2 := Goto.m0 hl119_2; clear hi119_2 hl119_2; have HR119_3 := Goto.m0 hi119_3; have HC119_3 := Goto.m0 hl119_3; clear hi119_3 hl119_3; replace p119 := eq_true p119; replace q119 := eq_true q119))
      go_meet
      case rel => exact ⟨_, (decide (a2 ≥ (((rd_T60 l0_3 a1).f2).length : Int))), (by first | rfl | (simp; done) | (simp [*]; done)), H', ⟨by first | omega | exact Nat.le_refl _⟩, ⟨Goto.bx BK117⟩, ⟨Goto.hx HB⟩⟩
     ·
      rw [if_neg c12] at H
      exact absurd H (by simp)
    ·
     rw [if_neg c11] at H
     exact absurd H (by simp)
  ·
   replace c7 := Bool.eq_false_iff.mpr c7
   subst c7
   rw [if_neg (show ¬ (false = true) by decide)] at H
   have H' := Goto.m0 H
   clear H; have hcz16_0 := Goto.bc0 BK117; have hcz16_1 := Goto.bc1 BK117; have hcz16_2 := Goto.bc2 BK117; have hcz16_3 := Goto.bc3 BK117; have hfz16_0 := Goto.bf BK117 0; have hfz16_1 := Goto.bf BK117 1; have hfz16_2 := Goto.bf BK117 2; have hfz16_3 := Goto.bf BK117 3
   go_wp2_with (first | ((with_reducible refine gate_callee (f := 40) rfl ?_); refine goesL_ (some 9) rfl rfl Tryd.func40 (by kernel_rfl) rfl #[.agg #[.int .i64 a0_0, .int .i64 a0_1, .slice A0_2 l0_2.length c0_2, .slice A0_3 l0_3.length c0_3], .int .i64 a1] rfl (by (try simp only [List.map_toArray, List.map_cons, List.map_nil]); first | done | rfl | (simp only [List.length_drop, List.length_take]; rfl)) ?_; (with_reducible refine (check_domain.calls a0_0 a0_1 _ _ l0_2 _ _ l0_3 a1 false _ ?side1 ?side2 ?side3 ?side4 A6.out).mono ?_); (case side1 => repeat (first | exact (Kd.C_below HR0_2.out HB.out) | (with_reducible refine Kd.C_alloc ?_ _) | (with_reducible refine Kd.C_drewN ?_ _) | (with_reducible refine Kd.C_drew ?_))); (case side2 => exact HC0_2.out); (case side3 => repeat (first | exact (Kd.C_below HR0_3.out HB.out) | (with_reducible refine Kd.C_alloc ?_ _) | (with_reducible refine Kd.C_drewN ?_ _) | (with_reducible refine Kd.C_drew ?_))); (case side4 => exact HC0_3.out); rintro e w17 ⟨rfl, hb⟩; refine ⟨_, rfl, ?_⟩; replace BK117 := Goto.bb BK117 hb; replace HB := Goto.hs HB hb; (try clear hb); (try clear hb2); (try clear hk); (try clear hi)))
   go_meet
   case rel => exact ⟨_, (true), (by first | rfl | (simp; done) | (simp [*]; done)), H', ⟨by first | omega | exact Nat.le_refl _⟩, ⟨Goto.bx BK117⟩, ⟨Goto.hx HB⟩⟩
 case rest =>
  clear HC4; try clear c1; try clear p1; try clear q1; try clear hx1; try clear p2; try clear c4; try clear c7; try clear c8; try clear c8b0; try clear c11; try clear c11b0; try clear p11; try clear q11; try clear hx11; try clear c12; try clear c12b0; try clear c15; try clear hcz13_0; try clear hcz13_1; try clear hcz13_2; try clear hcz13_3; try clear hcz15_0; try clear hcz15_1; try clear hcz15_2; try clear hcz15_3; try clear hcz16_0; try clear hcz16_1; try clear hcz16_2; try clear hcz16_3; try clear hcz9_0; try clear hcz9_1; try clear hcz9_2; try clear hcz9_3; try clear hfz13_0; try clear hfz13_1; try clear hfz13_2; try clear hfz13_3; try clear hfz15_0; try clear hfz15_1; try clear hfz15_2; try clear hfz15_3; try clear hfz16_0; try clear hfz16_1; try clear hfz16_2; try clear hfz16_3; try clear hfz9_0; try clear hfz9_1; try clear hfz9_2; try clear hfz9_3; try clear hx119_0; try clear hx119_1; try clear hx119_2; try clear hx119_3; try clear hx119_4; try clear hx119_5; try clear hx119_6; try clear hx119_7; try clear hx119_8; try clear hx119_9; try clear p119; try clear q119
  obtain ⟨kq, x25_3, rfl, HA, HJ3, BK117, HB⟩ := hcut
  cases kq with
  | zero => exact absurd HA.out (by simp [check_Level.j0])
  | succ kj3 =>
   have H := HA.out; clear HA
   simp only [check_Level.j0] at H
   by_cases c18 : x25_3 = true
   ·
    subst c18
    rw [if_pos rfl] at H
    obtain rfl := Option.some.inj H
    go_wp2
    go_ret
    exact ⟨Goto.er, by repeat (first | (with_reducible first | exact HB.out | apply below_alloc | apply pw_below_drewN | apply below_drew1 | refine below_set ?_ GE117.out) | exact HB.out)⟩
   ·
    replace c18 := Bool.eq_false_iff.mpr c18
    subst c18
    rw [if_neg (show ¬ (false = true) by decide)] at H
    obtain rfl := Option.some.inj H
    go_wp2
    go_ret
    exact ⟨Goto.er, by repeat (first | (with_reducible first | exact HB.out | apply below_alloc | apply pw_below_drewN | apply below_drew1 | refine below_set ?_ GE117.out) | exact HB.out)⟩

end Go.Proofs.YtbhfkhcedjgpdaaDoor.P
