/- Printed by a program of this workplace (a turned copy of the kit's optional print), out of the translation; not trusted: Lean checks it. -/
import Derived.Test.YtbhfkhcedjgpdaaPx0
import Derived.Test.YtbhfkhcedjgpdaaPx8
import Derived.Test.YtbhfkhcedjgpdaaPx9
import Derived.Test.YtbhfkhcedjgpdaaPx12
namespace Go.Proofs.Ytbhfkhcedjgpdaa.P
open Go.RowKit Go.Proofs.YtbhfkhcedjgpdaaW.PrintWords Go.Proofs.YtbhfkhcedjgpdaaW.PrintLast Go.Proofs.YtbhfkhcedjgpdaaW.PrintMore
attribute [local go_sem] max2_int min2_int max_two min_two max_three min_three max_four min_four   -- for this text's walks alone
set_option linter.unusedVariables false
set_option linter.unusedSimpArgs false

/-! ### tontineref1_IsConf: function 14 -/
mutual
def tontineref1_IsConf.j0 : Nat → Int → Bool → Int → Int → List (List Int) → List (S44) → Option (Int)
  | 0, _, _, _, _, _, _ => none
  | k + 1, x3, x25, x311000, x311001, x311002, x311003 => if x25 = true then (some 10) else (tontineref1_IsConf.l0 k x3 0 x311000 x311001 x311002 x311003)
def tontineref1_IsConf.l0 : Nat → Int → Int → Int → Int → List (List Int) → List (S44) → Option (Int)
  | 0, _, _, _, _, _, _ => none
  | k + 1, x3, x4, x311000, x311001, x311002, x311003 => if x4 < x3 then (if 0 ≤ x4 then (if x4 < (x311003.length : Int) then ((tontineref1_IsLabel.f ((rd_T44 x311003 x4).f0.f0) ((rd_T44 x311003 x4).f0.f1)).bind fun t315 => (if t315 = true then (tontineref1_IsConf.l0 k x3 (wrap64 (x4 + 1)) x311000 x311001 x311002 x311003) else (some 10))) else (none)) else (none)) else ((tontineref1_shares.f k x311000 x311001 x311002 x311003).bind fun t316 => (if t316 = true then (tontineref1_IsConf.l1 k x3 0 x311000 x311001 x311002 x311003) else (some 18)))
def tontineref1_IsConf.l1 : Nat → Int → Int → Int → Int → List (List Int) → List (S44) → Option (Int)
  | 0, _, _, _, _, _, _ => none
  | k + 1, x3, x5, x311000, x311001, x311002, x311003 => if x5 < x3 then (if 0 ≤ x5 then (if x5 < (x311003.length : Int) then ((tontineref1_within.f ((rd_T44 x311003 x5).f4) 1 8).bind fun t319 => (if t319 = true then ((tontineref1_within.f ((rd_T44 x311003 x5).f5) 0 4).bind fun t320 => (if t320 = true then ((tontineref1_within.f ((rd_T44 x311003 x5).f6) 1 16).bind fun t321 => (if t321 = true then ((tontineref1_within.f ((rd_T44 x311003 x5).f7) 0 8).bind fun t322 => (if t322 = true then ((tontineref1_within.f ((rd_T44 x311003 x5).f8) 1 8).bind fun t323 => (tontineref1_IsConf.j3 k x3 x5 (!t323) x311000 x311001 x311002 x311003)) else (tontineref1_IsConf.j3 k x3 x5 true x311000 x311001 x311002 x311003))) else (tontineref1_IsConf.j3 k x3 x5 true x311000 x311001 x311002 x311003))) else (tontineref1_IsConf.j3 k x3 x5 true x311000 x311001 x311002 x311003))) else (tontineref1_IsConf.j3 k x3 x5 true x311000 x311001 x311002 x311003))) else (none)) else (none)) else (tontineref1_IsConf.l2 k x3 0 x311000 x311001 x311002 x311003)
def tontineref1_IsConf.j3 : Nat → Int → Int → Bool → Int → Int → List (List Int) → List (S44) → Option (Int)
  | 0, _, _, _, _, _, _, _ => none
  | k + 1, x3, x5, x79, x311000, x311001, x311002, x311003 => if x79 = true then (some 19) else (tontineref1_IsConf.l1 k x3 (wrap64 (x5 + 1)) x311000 x311001 x311002 x311003)
def tontineref1_IsConf.l2 : Nat → Int → Int → Int → Int → List (List Int) → List (S44) → Option (Int)
  | 0, _, _, _, _, _, _ => none
  | k + 1, x3, x7, x311000, x311001, x311002, x311003 => if x7 < x3 then ((tontineref1_routes.f k x311000 x311001 x311002 x311003 x7).bind fun t324 => (if t324 = true then (tontineref1_IsConf.l2 k x3 (wrap64 (x7 + 1)) x311000 x311001 x311002 x311003) else (some 17))) else (some 0)
end
def tontineref1_IsConf.f (k : Nat) (a0_0 : Int) (a0_1 : Int) (l0_2 : List (List Int)) (l0_3 : List (S44)) : Option (Int) := (tontineref1_within.f a0_0 1 64).bind fun t311 => (if t311 = true then ((tontineref1_within.f a0_1 1 8).bind fun t312 => (if t312 = true then ((tontineref1_within.f (l0_3.length : Int) 1 6).bind fun t313 => (tontineref1_IsConf.j0 k (l0_3.length : Int) (!t313) a0_0 a0_1 l0_2 l0_3)) else (tontineref1_IsConf.j0 k (l0_3.length : Int) true a0_0 a0_1 l0_2 l0_3))) else (tontineref1_IsConf.j0 k (l0_3.length : Int) true a0_0 a0_1 l0_2 l0_3))
theorem tontineref1_IsConf.mono_l : ∀ k, (∀ y0 y1 y2 y3 y4 y5, LeO (tontineref1_IsConf.j0 k y0 y1 y2 y3 y4 y5) (tontineref1_IsConf.j0 (k + 1) y0 y1 y2 y3 y4 y5)) ∧ (∀ y0 y1 y2 y3 y4 y5, LeO (tontineref1_IsConf.l0 k y0 y1 y2 y3 y4 y5) (tontineref1_IsConf.l0 (k + 1) y0 y1 y2 y3 y4 y5)) ∧ (∀ y0 y1 y2 y3 y4 y5, LeO (tontineref1_IsConf.l1 k y0 y1 y2 y3 y4 y5) (tontineref1_IsConf.l1 (k + 1) y0 y1 y2 y3 y4 y5)) ∧ (∀ y0 y1 y2 y3 y4 y5 y6, LeO (tontineref1_IsConf.j3 k y0 y1 y2 y3 y4 y5 y6) (tontineref1_IsConf.j3 (k + 1) y0 y1 y2 y3 y4 y5 y6)) ∧ (∀ y0 y1 y2 y3 y4 y5, LeO (tontineref1_IsConf.l2 k y0 y1 y2 y3 y4 y5) (tontineref1_IsConf.l2 (k + 1) y0 y1 y2 y3 y4 y5))
  | 0 => ⟨fun _ _ _ _ _ _ r h => by simp [tontineref1_IsConf.j0] at h, fun _ _ _ _ _ _ r h => by simp [tontineref1_IsConf.l0] at h, fun _ _ _ _ _ _ r h => by simp [tontineref1_IsConf.l1] at h, fun _ _ _ _ _ _ _ r h => by simp [tontineref1_IsConf.j3] at h, fun _ _ _ _ _ _ r h => by simp [tontineref1_IsConf.l2] at h⟩
  | k + 1 => by
    obtain ⟨ih0, ih1, ih2, ih3, ih4⟩ := tontineref1_IsConf.mono_l k
    refine ⟨?_, ?_, ?_, ?_, ?_⟩
    · intro y0 y1 y2 y3 y4 y5
      unfold tontineref1_IsConf.j0
      repeat' first
      | (with_reducible exact ih0 _ _ _ _ _ _)
      | (with_reducible exact ih1 _ _ _ _ _ _)
      | (with_reducible exact ih2 _ _ _ _ _ _)
      | (with_reducible exact ih3 _ _ _ _ _ _ _)
      | (with_reducible exact ih4 _ _ _ _ _ _)
      | (with_reducible exact tontineref1_routes.mono _ _ _ _ _ _)
      | (with_reducible exact tontineref1_shares.mono _ _ _ _ _)
      | (with_reducible exact LeO.refl _)
      | (with_reducible exact LeO.none _)
      | (with_reducible refine LeO.ite ?_ ?_)
      | (with_reducible refine LeO.bind ?_ (fun _ => ?_))
      | exact ih0 _ _ _ _ _ _
      | exact ih1 _ _ _ _ _ _
      | exact ih2 _ _ _ _ _ _
      | exact ih3 _ _ _ _ _ _ _
      | exact ih4 _ _ _ _ _ _
      | exact tontineref1_routes.mono _ _ _ _ _ _
      | exact tontineref1_shares.mono _ _ _ _ _
      | exact LeO.none _
      | refine LeO.ite ?_ ?_
      | refine LeO.bind ?_ (fun _ => ?_)
    · intro y0 y1 y2 y3 y4 y5
      unfold tontineref1_IsConf.l0
      repeat' first
      | (with_reducible exact ih0 _ _ _ _ _ _)
      | (with_reducible exact ih1 _ _ _ _ _ _)
      | (with_reducible exact ih2 _ _ _ _ _ _)
      | (with_reducible exact ih3 _ _ _ _ _ _ _)
      | (with_reducible exact ih4 _ _ _ _ _ _)
      | (with_reducible exact tontineref1_routes.mono _ _ _ _ _ _)
      | (with_reducible exact tontineref1_shares.mono _ _ _ _ _)
      | (with_reducible exact LeO.refl _)
      | (with_reducible exact LeO.none _)
      | (with_reducible refine LeO.ite ?_ ?_)
      | (with_reducible refine LeO.bind ?_ (fun _ => ?_))
      | exact ih0 _ _ _ _ _ _
      | exact ih1 _ _ _ _ _ _
      | exact ih2 _ _ _ _ _ _
      | exact ih3 _ _ _ _ _ _ _
      | exact ih4 _ _ _ _ _ _
      | exact tontineref1_routes.mono _ _ _ _ _ _
      | exact tontineref1_shares.mono _ _ _ _ _
      | exact LeO.none _
      | refine LeO.ite ?_ ?_
      | refine LeO.bind ?_ (fun _ => ?_)
    · intro y0 y1 y2 y3 y4 y5
      unfold tontineref1_IsConf.l1
      repeat' first
      | (with_reducible exact ih0 _ _ _ _ _ _)
      | (with_reducible exact ih1 _ _ _ _ _ _)
      | (with_reducible exact ih2 _ _ _ _ _ _)
      | (with_reducible exact ih3 _ _ _ _ _ _ _)
      | (with_reducible exact ih4 _ _ _ _ _ _)
      | (with_reducible exact tontineref1_routes.mono _ _ _ _ _ _)
      | (with_reducible exact tontineref1_shares.mono _ _ _ _ _)
      | (with_reducible exact LeO.refl _)
      | (with_reducible exact LeO.none _)
      | (with_reducible refine LeO.ite ?_ ?_)
      | (with_reducible refine LeO.bind ?_ (fun _ => ?_))
      | exact ih0 _ _ _ _ _ _
      | exact ih1 _ _ _ _ _ _
      | exact ih2 _ _ _ _ _ _
      | exact ih3 _ _ _ _ _ _ _
      | exact ih4 _ _ _ _ _ _
      | exact tontineref1_routes.mono _ _ _ _ _ _
      | exact tontineref1_shares.mono _ _ _ _ _
      | exact LeO.none _
      | refine LeO.ite ?_ ?_
      | refine LeO.bind ?_ (fun _ => ?_)
    · intro y0 y1 y2 y3 y4 y5 y6
      unfold tontineref1_IsConf.j3
      repeat' first
      | (with_reducible exact ih0 _ _ _ _ _ _)
      | (with_reducible exact ih1 _ _ _ _ _ _)
      | (with_reducible exact ih2 _ _ _ _ _ _)
      | (with_reducible exact ih3 _ _ _ _ _ _ _)
      | (with_reducible exact ih4 _ _ _ _ _ _)
      | (with_reducible exact tontineref1_routes.mono _ _ _ _ _ _)
      | (with_reducible exact tontineref1_shares.mono _ _ _ _ _)
      | (with_reducible exact LeO.refl _)
      | (with_reducible exact LeO.none _)
      | (with_reducible refine LeO.ite ?_ ?_)
      | (with_reducible refine LeO.bind ?_ (fun _ => ?_))
      | exact ih0 _ _ _ _ _ _
      | exact ih1 _ _ _ _ _ _
      | exact ih2 _ _ _ _ _ _
      | exact ih3 _ _ _ _ _ _ _
      | exact ih4 _ _ _ _ _ _
      | exact tontineref1_routes.mono _ _ _ _ _ _
      | exact tontineref1_shares.mono _ _ _ _ _
      | exact LeO.none _
      | refine LeO.ite ?_ ?_
      | refine LeO.bind ?_ (fun _ => ?_)
    · intro y0 y1 y2 y3 y4 y5
      unfold tontineref1_IsConf.l2
      repeat' first
      | (with_reducible exact ih0 _ _ _ _ _ _)
      | (with_reducible exact ih1 _ _ _ _ _ _)
      | (with_reducible exact ih2 _ _ _ _ _ _)
      | (with_reducible exact ih3 _ _ _ _ _ _ _)
      | (with_reducible exact ih4 _ _ _ _ _ _)
      | (with_reducible exact tontineref1_routes.mono _ _ _ _ _ _)
      | (with_reducible exact tontineref1_shares.mono _ _ _ _ _)
      | (with_reducible exact LeO.refl _)
      | (with_reducible exact LeO.none _)
      | (with_reducible refine LeO.ite ?_ ?_)
      | (with_reducible refine LeO.bind ?_ (fun _ => ?_))
      | exact ih0 _ _ _ _ _ _
      | exact ih1 _ _ _ _ _ _
      | exact ih2 _ _ _ _ _ _
      | exact ih3 _ _ _ _ _ _ _
      | exact ih4 _ _ _ _ _ _
      | exact tontineref1_routes.mono _ _ _ _ _ _
      | exact tontineref1_shares.mono _ _ _ _ _
      | exact LeO.none _
      | refine LeO.ite ?_ ?_
      | refine LeO.bind ?_ (fun _ => ?_)
theorem tontineref1_IsConf.mono : ∀ a0 a1 a2 a3 k, LeO (tontineref1_IsConf.f k a0 a1 a2 a3) (tontineref1_IsConf.f (k + 1) a0 a1 a2 a3) := by
 intro a0 a1 a2 a3 k
 obtain ⟨ih0, ih1, ih2, ih3, ih4⟩ := tontineref1_IsConf.mono_l k
 unfold tontineref1_IsConf.f
 repeat' first
   | (with_reducible exact ih0 _ _ _ _ _ _)
   | (with_reducible exact ih1 _ _ _ _ _ _)
   | (with_reducible exact ih2 _ _ _ _ _ _)
   | (with_reducible exact ih3 _ _ _ _ _ _ _)
   | (with_reducible exact ih4 _ _ _ _ _ _)
   | (with_reducible exact tontineref1_routes.mono _ _ _ _ _ _)
   | (with_reducible exact tontineref1_shares.mono _ _ _ _ _)
   | (with_reducible exact LeO.refl _)
   | (with_reducible exact LeO.none _)
   | (with_reducible refine LeO.ite ?_ ?_)
   | (with_reducible refine LeO.bind ?_ (fun _ => ?_))
   | exact ih0 _ _ _ _ _ _
   | exact ih1 _ _ _ _ _ _
   | exact ih2 _ _ _ _ _ _
   | exact ih3 _ _ _ _ _ _ _
   | exact ih4 _ _ _ _ _ _
   | exact tontineref1_routes.mono _ _ _ _ _ _
   | exact tontineref1_shares.mono _ _ _ _ _
   | exact LeO.none _
   | refine LeO.ite ?_ ?_
   | refine LeO.bind ?_ (fun _ => ?_)
set_option maxHeartbeats 8000000 in
set_option maxRecDepth 100000 in
theorem tontineref1_IsConf.calls (k : Nat) (a0_0 : Int) (a0_1 : Int) (A0_2 : Option Addr) (c0_2 : Nat) (l0_2 : List (List Int)) (A0_3 : Option Addr) (c0_3 : Nat) (l0_3 : List (S44)) (r : Int) (w : World) (hr0_2 : Kd.C (Kd.slice 3 (Kd.int .i64)) w A0_2 l0_2.length l0_2) (hc0_2 : l0_2.length ≤ c0_2) (hr0_3 : Kd.C k44 w A0_3 l0_3.length l0_3) (hc0_3 : l0_3.length ≤ c0_3) (h : tontineref1_IsConf.f k a0_0 a0_1 l0_2 l0_3 = some r) :
    Calls Try.prog 14 #[.agg #[.int .i64 a0_0, .int .i64 a0_1, .slice A0_2 l0_2.length c0_2, .slice A0_3 l0_3.length c0_3]] w fun e w' => e = .returned (.int .i64 r) ∧ Below w.heap.size w w' := by
 have hu25 := Try.underlying25; have hu42 := Try.underlying42; have hu44 := Try.underlying44
 have HR0_2 := Goto.m0 hr0_2
 have HC0_2 := Goto.m0 hc0_2
 clear hr0_2 hc0_2
 have HR0_3 := Goto.m0 hr0_3
 have HC0_3 := Goto.m0 hc0_3
 clear hr0_3 hc0_3
 have HB := Goto.m0 (Below.refl w.heap.size w)
 have H : ((tontineref1_within.f a0_0 1 64).bind fun t311 => (if t311 = true then ((tontineref1_within.f a0_1 1 8).bind fun t312 => (if t312 = true then ((tontineref1_within.f (l0_3.length : Int) 1 6).bind fun t313 => (tontineref1_IsConf.j0 k (l0_3.length : Int) (!t313) a0_0 a0_1 l0_2 l0_3)) else (tontineref1_IsConf.j0 k (l0_3.length : Int) true a0_0 a0_1 l0_2 l0_3))) else (tontineref1_IsConf.j0 k (l0_3.length : Int) true a0_0 a0_1 l0_2 l0_3))) = some r := h
 clear h
 have HC2 := Goto.m0 H
 clear H
 go_enter Try.func14, Try.ntmps14
 go_upto_region 2 with (first | ((with_reducible refine gate_dst (N := 1) rfl ?_); refine box_event ?hg (N := 1) ?hd (cs := #[.int .i64 a0_0, .int .i64 a0_1, .slice A0_2 l0_2.length c0_2, .slice A0_3 l0_3.length c0_3]) (t := 25) ?hr ?_; (case hd => rfl); (case hg => rfl); (case hr => first | (go_simp; done) | (go_simp; rfl)); intro gb310 hg w3 hbox hb; have BK310 := Goto.m0 (hbox); have GW310 := Goto.gs HB hg; have GE310 := Goto.gs HB hg; replace HB := Goto.hs HB hb; clear hb hbox hg; have hcz4_0 := Goto.bc0 BK310; have hcz4_1 := Goto.bc1 BK310; have hcz4_2 := Goto.bc2 BK310; have hcz4_3 := Goto.bc3 BK310; have hfz4_0 := Goto.bf BK310 0; have hfz4_1 := Goto.bf BK310 1; have hfz4_2 := Goto.bf BK310 2; have hfz4_3 := Goto.bf BK310 3))
 (try simp only [Act.put, List.setIfInBounds_toArray, List.set_cons_zero, List.set_cons_succ])
 go_cut [25] (fun v25 wc => ∃ (kq : Nat) (x25_1 : Bool), v25 = .bool x25_1 ∧ Aside0 (tontineref1_IsConf.j0 kq (l0_3.length : Int) x25_1 a0_0 a0_1 l0_2 l0_3 = some r) ∧ Aside0 (kq ≤ k) ∧ Aside0 (wc.heap[gb310]? = some (.cells #[.int .i64 a0_0, .int .i64 a0_1, (.slice A0_2 l0_2.length c0_2), (.slice A0_3 l0_3.length c0_3)] 25 (0, 0))) ∧ Aside0 (Below w.heap.size w wc))
 case first =>
  have H := HC2.out; clear HC2
  replace H := Option.bind_eq_some_iff.mp H
  obtain ⟨t311, A50, H⟩ := H
  have A5 := Goto.m0 A50
  clear A50
  by_cases c6 : t311 = true
  ·
   subst c6
   rw [if_pos rfl] at H
   replace H := Option.bind_eq_some_iff.mp H
   obtain ⟨t312, A70, H⟩ := H
   have A7 := Goto.m0 A70
   clear A70
   by_cases c8 : t312 = true
   ·
    subst c8
    rw [if_pos rfl] at H
    replace H := Option.bind_eq_some_iff.mp H
    obtain ⟨t313, A90, H⟩ := H
    have A9 := Goto.m0 A90
    clear A90
    have H' := Goto.m0 H
    clear H; have hcz10_0 := Goto.bc0 BK310; have hcz10_1 := Goto.bc1 BK310; have hcz10_2 := Goto.bc2 BK310; have hcz10_3 := Goto.bc3 BK310; have hfz10_0 := Goto.bf BK310 0; have hfz10_1 := Goto.bf BK310 1; have hfz10_2 := Goto.bf BK310 2; have hfz10_3 := Goto.bf BK310 3
    go_wp2_with (first | ((with_reducible refine gate_callee (f := 41) rfl ?_); refine goesL_ (some 13) rfl rfl Try.func41 (by kernel_rfl) rfl #[.int .i64 a0_0, .int .i64 1, .int .i64 64] rfl (by (try simp only [List.map_toArray, List.map_cons, List.map_nil]); first | done | rfl | (simp only [List.length_drop, List.length_take]; rfl)) ?_; (with_reducible refine (tontineref1_within.calls a0_0 1 64 true _ A5.out).mono ?_); rintro e w' ⟨rfl, ⟨nd, rfl⟩⟩; refine ⟨_, rfl, ?_⟩) | (go_at_call 41; (with_reducible refine (tontineref1_within.calls a0_1 1 8 true _ A7.out).mono ?_); rintro e w' ⟨rfl, ⟨nd, rfl⟩⟩) | (go_at_call 41; (with_reducible refine (tontineref1_within.calls (l0_3.length : Int) 1 6 t313 _ A9.out).mono ?_); rintro e w' ⟨rfl, ⟨nd, rfl⟩⟩))
    go_meet
    case rel => exact ⟨_, (!t313), (by first | rfl | (simp; done) | (simp [*]; done)), H', ⟨by first | omega | exact Nat.le_refl _⟩, ⟨Goto.bx BK310⟩, ⟨Goto.hx HB⟩⟩
   ·
    replace c8 := Bool.eq_false_iff.mpr c8
    subst c8
    rw [if_neg (show ¬ (false = true) by decide)] at H
    have H' := Goto.m0 H
    clear H; have hcz11_0 := Goto.bc0 BK310; have hcz11_1 := Goto.bc1 BK310; have hcz11_2 := Goto.bc2 BK310; have hcz11_3 := Goto.bc3 BK310; have hfz11_0 := Goto.bf BK310 0; have hfz11_1 := Goto.bf BK310 1; have hfz11_2 := Goto.bf BK310 2; have hfz11_3 := Goto.bf BK310 3
    go_wp2_with (first | ((with_reducible refine gate_callee (f := 41) rfl ?_); refine goesL_ (some 13) rfl rfl Try.func41 (by kernel_rfl) rfl #[.int .i64 a0_0, .int .i64 1, .int .i64 64] rfl (by (try simp only [List.map_toArray, List.map_cons, List.map_nil]); first | done | rfl | (simp only [List.length_drop, List.length_take]; rfl)) ?_; (with_reducible refine (tontineref1_within.calls a0_0 1 64 true _ A5.out).mono ?_); rintro e w' ⟨rfl, ⟨nd, rfl⟩⟩; refine ⟨_, rfl, ?_⟩) | (go_at_call 41; (with_reducible refine (tontineref1_within.calls a0_1 1 8 false _ A7.out).mono ?_); rintro e w' ⟨rfl, ⟨nd, rfl⟩⟩))
    go_meet
    case rel => exact ⟨_, (true), (by first | rfl | (simp; done) | (simp [*]; done)), H', ⟨by first | omega | exact Nat.le_refl _⟩, ⟨Goto.bx BK310⟩, ⟨Goto.hx HB⟩⟩
  ·
   replace c6 := Bool.eq_false_iff.mpr c6
   subst c6
   rw [if_neg (show ¬ (false = true) by decide)] at H
   have H' := Goto.m0 H
   clear H; have hcz12_0 := Goto.bc0 BK310; have hcz12_1 := Goto.bc1 BK310; have hcz12_2 := Goto.bc2 BK310; have hcz12_3 := Goto.bc3 BK310; have hfz12_0 := Goto.bf BK310 0; have hfz12_1 := Goto.bf BK310 1; have hfz12_2 := Goto.bf BK310 2; have hfz12_3 := Goto.bf BK310 3
   go_wp2_with (first | ((with_reducible refine gate_callee (f := 41) rfl ?_); refine goesL_ (some 13) rfl rfl Try.func41 (by kernel_rfl) rfl #[.int .i64 a0_0, .int .i64 1, .int .i64 64] rfl (by (try simp only [List.map_toArray, List.map_cons, List.map_nil]); first | done | rfl | (simp only [List.length_drop, List.length_take]; rfl)) ?_; (with_reducible refine (tontineref1_within.calls a0_0 1 64 false _ A5.out).mono ?_); rintro e w' ⟨rfl, ⟨nd, rfl⟩⟩; refine ⟨_, rfl, ?_⟩))
   go_meet
   case rel => exact ⟨_, (true), (by first | rfl | (simp; done) | (simp [*]; done)), H', ⟨by first | omega | exact Nat.le_refl _⟩, ⟨Goto.bx BK310⟩, ⟨Goto.hx HB⟩⟩
 case rest =>
  clear HC2; try clear c1; try clear p2; try clear c4; try clear c6; try clear c8; try clear hcz10_0; try clear hcz10_1; try clear hcz10_2; try clear hcz10_3; try clear hcz11_0; try clear hcz11_1; try clear hcz11_2; try clear hcz11_3; try clear hcz12_0; try clear hcz12_1; try clear hcz12_2; try clear hcz12_3; try clear hcz4_0; try clear hcz4_1; try clear hcz4_2; try clear hcz4_3; try clear hfz10_0; try clear hfz10_1; try clear hfz10_2; try clear hfz10_3; try clear hfz11_0; try clear hfz11_1; try clear hfz11_2; try clear hfz11_3; try clear hfz12_0; try clear hfz12_1; try clear hfz12_2; try clear hfz12_3; try clear hfz4_0; try clear hfz4_1; try clear hfz4_2; try clear hfz4_3
  obtain ⟨kq, x25_1, rfl, HA, HJ1, BK310, HB⟩ := hcut
  cases kq with
  | zero => exact absurd HA.out (by simp [tontineref1_IsConf.j0])
  | succ kj1 =>
   have H := HA.out; clear HA
   simp only [tontineref1_IsConf.j0] at H
   by_cases c13 : x25_1 = true
   ·
    subst c13
    rw [if_pos rfl] at H
    obtain rfl := Option.some.inj H
    go_wp2
    go_ret
    exact ⟨Goto.er, by repeat (first | (with_reducible first | exact HB.out | apply below_alloc | apply pw_below_drewN | apply below_drew1 | refine below_set ?_ GE310.out) | exact HB.out)⟩
   ·
    replace c13 := Bool.eq_false_iff.mpr c13
    subst c13
    rw [if_neg (show ¬ (false = true) by decide)] at H
    have H' := Goto.m0 H
    clear H
    go_wp2
    go_loopg [4] kj1 (fun kq v4 w' => ∃ (x4_2 : Int), v4 = .int .i64 x4_2 ∧ Aside0 (tontineref1_IsConf.l0 kq (l0_3.length : Int) x4_2 a0_0 a0_1 l0_2 l0_3 = some r) ∧ Aside0 (kq ≤ kj1) ∧ Aside0 (w'.heap[gb310]? = some (.cells #[.int .i64 a0_0, .int .i64 a0_1, (.slice A0_2 l0_2.length c0_2), (.slice A0_3 l0_3.length c0_3)] 25 (0, 0))) ∧ Aside0 (Below w.heap.size w w'))
    case atStart => exact ⟨(0), (by first | rfl | (simp; done) | (simp [*]; done)), H', ⟨Nat.le_refl _⟩, ⟨Goto.bx BK310⟩, ⟨Goto.hx HB⟩⟩
    case round =>
     clear H'
     try clear c1; try clear p2; try clear c4; try clear c6; try clear c8; try clear c13; try clear hcz10_0; try clear hcz10_1; try clear hcz10_2; try clear hcz10_3; try clear hcz11_0; try clear hcz11_1; try clear hcz11_2; try clear hcz11_3; try clear hcz12_0; try clear hcz12_1; try clear hcz12_2; try clear hcz12_3; try clear hcz4_0; try clear hcz4_1; try clear hcz4_2; try clear hcz4_3; try clear hfz10_0; try clear hfz10_1; try clear hfz10_2; try clear hfz10_3; try clear hfz11_0; try clear hfz11_1; try clear hfz11_2; try clear hfz11_3; try clear hfz12_0; try clear hfz12_1; try clear hfz12_2; try clear hfz12_3; try clear hfz4_0; try clear hfz4_1; try clear hfz4_2; try clear hfz4_3; try clear p2
     obtain ⟨x4_2, rfl, HA, HK2, BK310, HB⟩ := hrel
     cases gk with
     | zero => exact absurd HA.out (by simp [tontineref1_IsConf.l0])
     | succ k2 =>
      have H := HA.out; clear HA
      simp only [tontineref1_IsConf.l0] at H
      by_cases c14 : x4_2 < (l0_3.length : Int)
      ·
       rw [if_pos c14] at H
       have c14b0 : decide (x4_2 < (l0_3.length : Int)) = true := decide_eq_true c14
       clear c14
       by_cases c15 : 0 ≤ x4_2
       ·
        rw [if_pos c15] at H
        have c15b0 : decide (0 ≤ x4_2) = true := decide_eq_true c15
        clear c15
        by_cases c16 : x4_2 < (l0_3.length : Int)
        ·
         rw [if_pos c16] at H
         have c16b0 : decide (x4_2 < (l0_3.length : Int)) = true := decide_eq_true c16
         clear c16
         replace H := Option.bind_eq_some_iff.mp H
         obtain ⟨t315, A170, H⟩ := H
         have A17 := Goto.m0 A170
         clear A170
         by_cases c18 : t315 = true
         ·
          subst c18
          rw [if_pos rfl] at H
          have H' := Goto.m0 H
          clear H; have hcz19_0 := Goto.bc0 BK310; have hcz19_1 := Goto.bc1 BK310; have hcz19_2 := Goto.bc2 BK310; have hcz19_3 := Goto.bc3 BK310; have hfz19_0 := Goto.bf BK310 0; have hfz19_1 := Goto.bf BK310 1; have hfz19_2 := Goto.bf BK310 2; have hfz19_3 := Goto.bf BK310 3
          have p314 : 0 ≤ (x4_2 : Int) := Goto.od
          have q314 : x4_2 < (l0_3.length : Int) := Goto.od
          obtain ⟨ad314, A314_2, c314_2, A314_3, c314_3, e314, hx314_0, hx314_1, hx314_2, hx314_3, hx314_4, hx314_5, hx314_6, hx314_7, hx314_8, hx314_9, hl314_2, hi314_2, hl314_3, hi314_3⟩ := at_T44 HR0_3.out x4_2 p314 q314
          cases e314
          replace hx314_0 := Goto.kc HB.out hx314_0
          replace hx314_1 := Goto.kc HB.out hx314_1
          replace hx314_2 := Goto.kc HB.out hx314_2
          replace hx314_3 := Goto.kc HB.out hx314_3
          replace hx314_4 := Goto.kc HB.out hx314_4
          replace hx314_5 := Goto.kc HB.out hx314_5
          replace hx314_6 := Goto.kc HB.out hx314_6
          replace hx314_7 := Goto.kc HB.out hx314_7
          replace hx314_8 := Goto.kc HB.out hx314_8
          replace hx314_9 := Goto.kc HB.out hx314_9
          have HR314_2 := Goto.m0 hi314_2
          have HC314_2 := Goto.m0 hl314_2
          clear hi314_2 hl314_2
          have HR314_3 := Goto.m0 hi314_3
          have HC314_3 := Goto.m0 hl314_3
          clear hi314_3 hl314_3; replace p314 := eq_true p314; replace q314 := eq_true q314
          go_wp2_with (first | ((with_reducible refine gate_callee (f := 42) rfl ?_); refine goesL_ (some 37) rfl rfl Try.func42 (by kernel_rfl) rfl #[.agg #[.int .i64 ((rd_T44 l0_3 x4_2).f0.f0), .int .u64 ((rd_T44 l0_3 x4_2).f0.f1)]] rfl (by (try simp only [List.map_toArray, List.map_cons, List.map_nil]); first | done | rfl | (simp only [List.length_drop, List.length_take]; rfl)) ?_; (with_reducible refine (tontineref1_IsLabel.calls ((rd_T44 l0_3 x4_2).f0.f0) ((rd_T44 l0_3 x4_2).f0.f1) true _ A17.out).mono ?_); rintro e w20 ⟨rfl, hb⟩; refine ⟨_, rfl, ?_⟩; replace BK310 := Goto.bb BK310 hb; replace HB := Goto.hs HB hb; (try clear hb); (try clear hb2); (try clear hk); (try clear hi)))
          go_roundg k2
          case measure => have := HJ1.out; have := HK2.out; omega
          case rel => exact ⟨(wrap64 (x4_2 + 1)), (by first | rfl | (simp; done) | (simp [*]; done)), H', ⟨by have := HJ1.out; have := HK2.out; omega⟩, ⟨Goto.bx BK310⟩, ⟨Goto.hx HB⟩⟩
         ·
          replace c18 := Bool.eq_false_iff.mpr c18
          subst c18
          rw [if_neg (show ¬ (false = true) by decide)] at H
          obtain rfl := Option.some.inj H
          have hcz21_0 := Goto.bc0 BK310; have hcz21_1 := Goto.bc1 BK310; have hcz21_2 := Goto.bc2 BK310; have hcz21_3 := Goto.bc3 BK310; have hfz21_0 := Goto.bf BK310 0; have hfz21_1 := Goto.bf BK310 1; have hfz21_2 := Goto.bf BK310 2; have hfz21_3 := Goto.bf BK310 3
          have p314 : 0 ≤ (x4_2 : Int) := Goto.od
          have q314 : x4_2 < (l0_3.length : Int) := Goto.od
          obtain ⟨ad314, A314_2, c314_2, A314_3, c314_3, e314, hx314_0, hx314_1, hx314_2, hx314_3, hx314_4, hx314_5, hx314_6, hx314_7, hx314_8, hx314_9, hl314_2, hi314_2, hl314_3, hi314_3⟩ := at_T44 HR0_3.out x4_2 p314 q314
          cases e314
          replace hx314_0 := Goto.kc HB.out hx314_0
          replace hx314_1 := Goto.kc HB.out hx314_1
          replace hx314_2 := Goto.kc HB.out hx314_2
          replace hx314_3 := Goto.kc HB.out hx314_3
          replace hx314_4 := Goto.kc HB.out hx314_4
          replace hx314_5 := Goto.kc HB.out hx314_5
          replace hx314_6 := Goto.kc HB.out hx314_6
          replace hx314_7 := Goto.kc HB.out hx314_7
          replace hx314_8 := Goto.kc HB.out hx314_8
          replace hx314_9 := Goto.kc HB.out hx314_9
          have HR314_2 := Goto.m0 hi314_2
          have HC314_2 := Goto.m0 hl314_2
          clear hi314_2 hl314_2
          have HR314_3 := Goto.m0 hi314_3
          have HC314_3 := Goto.m0 hl314_3
          clear hi314_3 hl314_3; replace p314 := eq_true p314; replace q314 := eq_true q314
          go_wp2_with (first | ((with_reducible refine gate_callee (f := 42) rfl ?_); refine goesL_ (some 37) rfl rfl Try.func42 (by kernel_rfl) rfl #[.agg #[.int .i64 ((rd_T44 l0_3 x4_2).f0.f0), .int .u64 ((rd_T44 l0_3 x4_2).f0.f1)]] rfl (by (try simp only [List.map_toArray, List.map_cons, List.map_nil]); first | done | rfl | (simp only [List.length_drop, List.length_take]; rfl)) ?_; (with_reducible refine (tontineref1_IsLabel.calls ((rd_T44 l0_3 x4_2).f0.f0) ((rd_T44 l0_3 x4_2).f0.f1) false _ A17.out).mono ?_); rintro e w22 ⟨rfl, hb⟩; refine ⟨_, rfl, ?_⟩; replace BK310 := Goto.bb BK310 hb; replace HB := Goto.hs HB hb; (try clear hb); (try clear hb2); (try clear hk); (try clear hi)))
          go_ret
          exact ⟨Goto.er, by repeat (first | (with_reducible first | exact HB.out | apply below_alloc | apply pw_below_drewN | apply below_drew1 | refine below_set ?_ GE310.out) | exact HB.out)⟩
        ·
         rw [if_neg c16] at H
         exact absurd H (by simp)
       ·
        rw [if_neg c15] at H
        exact absurd H (by simp)
      ·
       rw [if_neg c14] at H
       have c14b0 : decide (x4_2 < (l0_3.length : Int)) = false := decide_eq_false c14
       clear c14
       replace H := Option.bind_eq_some_iff.mp H
       obtain ⟨t316, A230, H⟩ := H
       have A23 := Goto.m0 A230
       clear A230
       by_cases c24 : t316 = true
       ·
        subst c24
        rw [if_pos rfl] at H
        have H' := Goto.m0 H
        clear H; have hcz25_0 := Goto.bc0 BK310; have hcz25_1 := Goto.bc1 BK310; have hcz25_2 := Goto.bc2 BK310; have hcz25_3 := Goto.bc3 BK310; have hfz25_0 := Goto.bf BK310 0; have hfz25_1 := Goto.bf BK310 1; have hfz25_2 := Goto.bf BK310 2; have hfz25_3 := Goto.bf BK310 3
        go_wp2_with (first | ((with_reducible refine gate_callee (f := 43) rfl ?_); refine goesL_ (some 40) rfl rfl Try.func43 (by kernel_rfl) rfl #[.agg #[.int .i64 a0_0, .int .i64 a0_1, .slice A0_2 l0_2.length c0_2, .slice A0_3 l0_3.length c0_3]] rfl (by (try simp only [List.map_toArray, List.map_cons, List.map_nil]); first | done | rfl | (simp only [List.length_drop, List.length_take]; rfl)) ?_; (with_reducible refine (tontineref1_shares.calls k2 a0_0 a0_1 _ _ l0_2 _ _ l0_3 true _ ?side1 ?side2 ?side3 ?side4 A23.out).mono ?_); (case side1 => repeat (first | exact (Kd.C_below HR0_2.out HB.out) | (with_reducible refine Kd.C_alloc ?_ _) | (with_reducible refine Kd.C_drewN ?_ _) | (with_reducible refine Kd.C_drew ?_))); (case side2 => exact HC0_2.out); (case side3 => repeat (first | exact (Kd.C_below HR0_3.out HB.out) | (with_reducible refine Kd.C_alloc ?_ _) | (with_reducible refine Kd.C_drewN ?_ _) | (with_reducible refine Kd.C_drew ?_))); (case side4 => exact HC0_3.out); rintro e w26 ⟨rfl, hb⟩; refine ⟨_, rfl, ?_⟩; replace BK310 := Goto.bb BK310 hb; replace HB := Goto.hs HB hb; (try clear hb); (try clear hb2); (try clear hk); (try clear hi)))
        go_loopg [5] k2 (fun kq v5 w' => ∃ (x5_3 : Int), v5 = .int .i64 x5_3 ∧ Aside0 (tontineref1_IsConf.l1 kq (l0_3.length : Int) x5_3 a0_0 a0_1 l0_2 l0_3 = some r) ∧ Aside0 (kq ≤ k2) ∧ Aside0 (w'.heap[gb310]? = some (.cells #[.int .i64 a0_0, .int .i64 a0_1, (.slice A0_2 l0_2.length c0_2), (.slice A0_3 l0_3.length c0_3)] 25 (0, 0))) ∧ Aside0 (Below w.heap.size w w'))
        case atStart => exact ⟨(0), (by first | rfl | (simp; done) | (simp [*]; done)), H', ⟨Nat.le_refl _⟩, ⟨Goto.bx BK310⟩, ⟨Goto.hx HB⟩⟩
        case round =>
         clear H'
         try clear c1; try clear c2; try clear p2; try clear c3; try clear p3; try clear q3; try clear hx3; try clear c4; try clear c6; try clear p6; try clear c8; try clear c13; try clear c14; try clear c14b0; try clear c15; try clear c15b0; try clear c16; try clear c16b0; try clear c18; try clear c24; try clear hcz10_0; try clear hcz10_1; try clear hcz10_2; try clear hcz10_3; try clear hcz11_0; try clear hcz11_1; try clear hcz11_2; try clear hcz11_3; try clear hcz12_0; try clear hcz12_1; try clear hcz12_2; try clear hcz12_3; try clear hcz19_0; try clear hcz19_1; try clear hcz19_2; try clear hcz19_3; try clear hcz21_0; try clear hcz21_1; try clear hcz21_2; try clear hcz21_3; try clear hcz25_0; try clear hcz25_1; try clear hcz25_2; try clear hcz25_3; try clear hcz4_0; try clear hcz4_1; try clear hcz4_2; try clear hcz4_3; try clear hfz10_0; try clear hfz10_1; try clear hfz10_2; try clear hfz10_3; try clear hfz11_0; try clear hfz11_1; try clear hfz11_2; try clear hfz11_3; try clear hfz12_0; try clear hfz12_1; try clear hfz12_2; try clear hfz12_3; try clear hfz19_0; try clear hfz19_1; try clear hfz19_2; try clear hfz19_3; try clear hfz21_0; try clear hfz21_1; try clear hfz21_2; try clear hfz21_3; try clear hfz25_0; try clear hfz25_1; try clear hfz25_2; try clear hfz25_3; try clear hfz4_0; try clear hfz4_1; try clear hfz4_2; try clear hfz4_3; try clear hx314_0; try clear hx314_1; try clear hx314_2; try clear hx314_3; try clear hx314_4; try clear hx314_5; try clear hx314_6; try clear hx314_7; try clear hx314_8; try clear hx314_9; try clear p2; try clear p314; try clear q314
         obtain ⟨x5_3, rfl, HA, HK3, BK310, HB⟩ := hrel
         cases gk with
         | zero => exact absurd HA.out (by simp [tontineref1_IsConf.l1])
         | succ k3 =>
          have H := HA.out; clear HA
          simp only [tontineref1_IsConf.l1] at H
          by_cases c27 : x5_3 < (l0_3.length : Int)
          ·
           rw [if_pos c27] at H
           have c27b0 : decide (x5_3 < (l0_3.length : Int)) = true := decide_eq_true c27
           clear c27
           by_cases c28 : 0 ≤ x5_3
           ·
            rw [if_pos c28] at H
            have c28b0 : decide (0 ≤ x5_3) = true := decide_eq_true c28
            clear c28
            by_cases c29 : x5_3 < (l0_3.length : Int)
            ·
             rw [if_pos c29] at H
             have c29b0 : decide (x5_3 < (l0_3.length : Int)) = true := decide_eq_true c29
             clear c29
             have HC30 := Goto.m0 H
             clear H; have hcz31_0 := Goto.bc0 BK310; have hcz31_1 := Goto.bc1 BK310; have hcz31_2 := Goto.bc2 BK310; have hcz31_3 := Goto.bc3 BK310; have hfz31_0 := Goto.bf BK310 0; have hfz31_1 := Goto.bf BK310 1; have hfz31_2 := Goto.bf BK310 2; have hfz31_3 := Goto.bf BK310 3
             have p317 : 0 ≤ (x5_3 : Int) := Goto.od
             have q317 : x5_3 < (l0_3.length : Int) := Goto.od
             obtain ⟨ad317, A317_2, c317_2, A317_3, c317_3, e317, hx317_0, hx317_1, hx317_2, hx317_3, hx317_4, hx317_5, hx317_6, hx317_7, hx317_8, hx317_9, hl317_2, hi317_2, hl317_3, hi317_3⟩ := at_T44 HR0_3.out x5_3 p317 q317
             cases e317
             replace hx317_0 := Goto.kc HB.out hx317_0
             replace hx317_1 := Goto.kc HB.out hx317_1
             replace hx317_2 := Goto.kc HB.out hx317_2
             replace hx317_3 := Goto.kc HB.out hx317_3
             replace hx317_4 := Goto.kc HB.out hx317_4
             replace hx317_5 := Goto.kc HB.out hx317_5
             replace hx317_6 := Goto.kc HB.out hx317_6
             replace hx317_7 := Goto.kc HB.out hx317_7
             replace hx317_8 := Goto.kc HB.out hx317_8
             replace hx317_9 := Goto.kc HB.out hx317_9
             have HR317_2 := Goto.m0 hi317_2
             have HC317_2 := Goto.m0 hl317_2
             clear hi317_2 hl317_2
             have HR317_3 := Goto.m0 hi317_3
             have HC317_3 := Goto.m0 hl317_3
             clear hi317_3 hl317_3; replace p317 := eq_true p317; replace q317 := eq_true q317
             go_upto_region 15 with (first | ((with_reducible refine gate_dst (N := 6) rfl ?_); refine box_event ?hg (N := 6) ?hd (cs := #[.int .i64 0, .int .u64 0, .slice none 0 0, .slice none 0 0, .int .i64 0, .int .i64 0, .int .i64 0, .int .i64 0, .int .i64 0, .int .i64 0]) (t := 44) ?hr ?_; (case hd => rfl); (case hg => rfl); (case hr => first | (go_simp; done) | (go_simp; rfl)); intro gb318 hg w32 hbox hb; have BK318 := Goto.m0 (hbox); have GW318 := Goto.gs HB hg; have GE318 := Goto.gs HB hg; have NB310_318 := Goto.nl BK310 hg; have NB318_310 := Goto.nr BK310 hg; replace BK310 := Goto.bb BK310 hb; replace HB := Goto.hs HB hb; clear hb hbox hg; have hnb33 := NB318_310.out; have hnc33 := NB310_318.out; have hcz34_0 := Goto.bc0 BK318; have hcz34_1 := Goto.bc1 BK318; have hcz34_2 := Goto.bc2 BK318; have hcz34_3 := Goto.bc3 BK318; have hcz34_4 := Goto.bc4 BK318; have hcz34_5 := Goto.bc5 BK318; have hcz34_6 := Goto.bc6 BK318; have hcz34_7 := Goto.bc7 BK318; have hcz34_8 := Goto.bc8 BK318; have hcz34_9 := Goto.bc9 BK318; have hfz34_0 := Goto.bf BK318 0; have hfz34_1 := Goto.bf BK318 1; have hfz34_2 := Goto.bf BK318 2; have hfz34_3 := Goto.bf BK318 3; have hfz34_4 := Goto.bf BK318 4; have hfz34_5 := Goto.bf BK318 5; have hfz34_6 := Goto.bf BK318 6; have hfz34_7 := Goto.bf BK318 7; have hfz34_8 := Goto.bf BK318 8; have hfz34_9 := Goto.bf BK318 9))
             (try simp only [Act.put, List.setIfInBounds_toArray, List.set_cons_zero, List.set_cons_succ])
             go_cut [79] (fun v79 wc => ∃ (kq : Nat) (x79_29 : Bool), v79 = .bool x79_29 ∧ Aside0 (tontineref1_IsConf.j3 kq (l0_3.length : Int) x5_3 x79_29 a0_0 a0_1 l0_2 l0_3 = some r) ∧ Aside0 (kq ≤ k3) ∧ Aside0 (wc.heap[gb310]? = some (.cells #[.int .i64 a0_0, .int .i64 a0_1, (.slice A0_2 l0_2.length c0_2), (.slice (some ad317) l0_3.length c0_3)] 25 (0, 0))) ∧ Aside0 (wc.heap[gb318]? = some (.cells #[.int .i64 ((rd_T44 l0_3 x5_3).f0.f0), .int .u64 ((rd_T44 l0_3 x5_3).f0.f1), (.slice A317_2 ((rd_T44 l0_3 x5_3).f1).length c317_2), (.slice A317_3 ((rd_T44 l0_3 x5_3).f2).length c317_3), .int .i64 ((rd_T44 l0_3 x5_3).f3), .int .i64 ((rd_T44 l0_3 x5_3).f4), .int .i64 ((rd_T44 l0_3 x5_3).f5), .int .i64 ((rd_T44 l0_3 x5_3).f6), .int .i64 ((rd_T44 l0_3 x5_3).f7), .int .i64 ((rd_T44 l0_3 x5_3).f8)] 44 (0, 0))) ∧ Aside0 (Below w.heap.size w wc))
             case first =>
              have H := HC30.out; clear HC30
              replace H := Option.bind_eq_some_iff.mp H
              obtain ⟨t319, A350, H⟩ := H
              have A35 := Goto.m0 A350
              clear A350
              by_cases c36 : t319 = true
              ·
               subst c36
               rw [if_pos rfl] at H
               replace H := Option.bind_eq_some_iff.mp H
               obtain ⟨t320, A370, H⟩ := H
               have A37 := Goto.m0 A370
               clear A370
               by_cases c38 : t320 = true
               ·
                subst c38
                rw [if_pos rfl] at H
                replace H := Option.bind_eq_some_iff.mp H
                obtain ⟨t321, A390, H⟩ := H
                have A39 := Goto.m0 A390
                clear A390
                by_cases c40 : t321 = true
                ·
                 subst c40
                 rw [if_pos rfl] at H
                 replace H := Option.bind_eq_some_iff.mp H
                 obtain ⟨t322, A410, H⟩ := H
                 have A41 := Goto.m0 A410
                 clear A410
                 by_cases c42 : t322 = true
                 ·
                  subst c42
                  rw [if_pos rfl] at H
                  replace H := Option.bind_eq_some_iff.mp H
                  obtain ⟨t323, A430, H⟩ := H
                  have A43 := Goto.m0 A430
                  clear A430
                  have H' := Goto.m0 H
                  clear H; have hnb44 := NB318_310.out; have hnc44 := NB310_318.out; have hcz45_0 := Goto.bc0 BK318; have hcz45_1 := Goto.bc1 BK318; have hcz45_2 := Goto.bc2 BK318; have hcz45_3 := Goto.bc3 BK318; have hcz45_4 := Goto.bc4 BK318; have hcz45_5 := Goto.bc5 BK318; have hcz45_6 := Goto.bc6 BK318; have hcz45_7 := Goto.bc7 BK318; have hcz45_8 := Goto.bc8 BK318; have hcz45_9 := Goto.bc9 BK318; have hfz45_0 := Goto.bf BK318 0; have hfz45_1 := Goto.bf BK318 1; have hfz45_2 := Goto.bf BK318 2; have hfz45_3 := Goto.bf BK318 3; have hfz45_4 := Goto.bf BK318 4; have hfz45_5 := Goto.bf BK318 5; have hfz45_6 := Goto.bf BK318 6; have hfz45_7 := Goto.bf BK318 7; have hfz45_8 := Goto.bf BK318 8; have hfz45_9 := Goto.bf BK318 9
                  go_wp2_with (first | ((with_reducible refine gate_callee (f := 41) rfl ?_); refine goesL_ (some 54) rfl rfl Try.func41 (by kernel_rfl) rfl #[.int .i64 ((rd_T44 l0_3 x5_3).f4), .int .i64 1, .int .i64 8] rfl (by (try simp only [List.map_toArray, List.map_cons, List.map_nil]); first | done | rfl | (simp only [List.length_drop, List.length_take]; rfl)) ?_; (with_reducible refine (tontineref1_within.calls ((rd_T44 l0_3 x5_3).f4) 1 8 true _ A35.out).mono ?_); rintro e w' ⟨rfl, ⟨nd, rfl⟩⟩; refine ⟨_, rfl, ?_⟩) | (go_at_call 41; (with_reducible refine (tontineref1_within.calls ((rd_T44 l0_3 x5_3).f5) 0 4 true _ A37.out).mono ?_); rintro e w' ⟨rfl, ⟨nd, rfl⟩⟩) | (go_at_call 41; (with_reducible refine (tontineref1_within.calls ((rd_T44 l0_3 x5_3).f6) 1 16 true _ A39.out).mono ?_); rintro e w' ⟨rfl, ⟨nd, rfl⟩⟩) | (go_at_call 41; (with_reducible refine (tontineref1_within.calls ((rd_T44 l0_3 x5_3).f7) 0 8 true _ A41.out).mono ?_); rintro e w' ⟨rfl, ⟨nd, rfl⟩⟩) | (go_at_call 41; (with_reducible refine (tontineref1_within.calls ((rd_T44 l0_3 x5_3).f8) 1 8 t323 _ A43.out).mono ?_); rintro e w' ⟨rfl, ⟨nd, rfl⟩⟩))
                  go_meet
                  case rel => exact ⟨_, (!t323), (by first | rfl | (simp; done) | (simp [*]; done)), H', ⟨by have := HJ1.out; have := HK2.out; have := HK3.out; first | omega | exact Nat.le_refl _⟩, ⟨Goto.bx BK310⟩, ⟨Goto.bx BK318⟩, ⟨Goto.hx HB⟩⟩
                 ·
                  replace c42 := Bool.eq_false_iff.mpr c42
                  subst c42
                  rw [if_neg (show ¬ (false = true) by decide)] at H
                  have H' := Goto.m0 H
                  clear H; have hnb46 := NB318_310.out; have hnc46 := NB310_318.out; have hcz47_0 := Goto.bc0 BK318; have hcz47_1 := Goto.bc1 BK318; have hcz47_2 := Goto.bc2 BK318; have hcz47_3 := Goto.bc3 BK318; have hcz47_4 := Goto.bc4 BK318; have hcz47_5 := Goto.bc5 BK318; have hcz47_6 := Goto.bc6 BK318; have hcz47_7 := Goto.bc7 BK318; have hcz47_8 := Goto.bc8 BK318; have hcz47_9 := Goto.bc9 BK318; have hfz47_0 := Goto.bf BK318 0; have hfz47_1 := Goto.bf BK318 1; have hfz47_2 := Goto.bf BK318 2; have hfz47_3 := Goto.bf BK318 3; have hfz47_4 := Goto.bf BK318 4; have hfz47_5 := Goto.bf BK318 5; have hfz47_6 := Goto.bf BK318 6; have hfz47_7 := Goto.bf BK318 7; have hfz47_8 := Goto.bf BK318 8; have hfz47_9 := Goto.bf BK318 9
                  go_wp2_with (first | ((with_reducible refine gate_callee (f := 41) rfl ?_); refine goesL_ (some 54) rfl rfl Try.func41 (by kernel_rfl) rfl #[.int .i64 ((rd_T44 l0_3 x5_3).f4), .int .i64 1, .int .i64 8] rfl (by (try simp only [List.map_toArray, List.map_cons, List.map_nil]); first | done | rfl | (simp only [List.length_drop, List.length_take]; rfl)) ?_; (with_reducible refine (tontineref1_within.calls ((rd_T44 l0_3 x5_3).f4) 1 8 true _ A35.out).mono ?_); rintro e w' ⟨rfl, ⟨nd, rfl⟩⟩; refine ⟨_, rfl, ?_⟩) | (go_at_call 41; (with_reducible refine (tontineref1_within.calls ((rd_T44 l0_3 x5_3).f5) 0 4 true _ A37.out).mono ?_); rintro e w' ⟨rfl, ⟨nd, rfl⟩⟩) | (go_at_call 41; (with_reducible refine (tontineref1_within.calls ((rd_T44 l0_3 x5_3).f6) 1 16 true _ A39.out).mono ?_); rintro e w' ⟨rfl, ⟨nd, rfl⟩⟩) | (go_at_call 41; (with_reducible refine (tontineref1_within.calls ((rd_T44 l0_3 x5_3).f7) 0 8 false _ A41.out).mono ?_); rintro e w' ⟨rfl, ⟨nd, rfl⟩⟩))
                  go_meet
                  case rel => exact ⟨_, (true), (by first | rfl | (simp; done) | (simp [*]; done)), H', ⟨by have := HJ1.out; have := HK2.out; have := HK3.out; first | omega | exact Nat.le_refl _⟩, ⟨Goto.bx BK310⟩, ⟨Goto.bx BK318⟩, ⟨Goto.hx HB⟩⟩
                ·
                 replace c40 := Bool.eq_false_iff.mpr c40
                 subst c40
                 rw [if_neg (show ¬ (false = true) by decide)] at H
                 have H' := Goto.m0 H
                 clear H; have hnb48 := NB318_310.out; have hnc48 := NB310_318.out; have hcz49_0 := Goto.bc0 BK318; have hcz49_1 := Goto.bc1 BK318; have hcz49_2 := Goto.bc2 BK318; have hcz49_3 := Goto.bc3 BK318; have hcz49_4 := Goto.bc4 BK318; have hcz49_5 := Goto.bc5 BK318; have hcz49_6 := Goto.bc6 BK318; have hcz49_7 := Goto.bc7 BK318; have hcz49_8 := Goto.bc8 BK318; have hcz49_9 := Goto.bc9 BK318; have hfz49_0 := Goto.bf BK318 0; have hfz49_1 := Goto.bf BK318 1; have hfz49_2 := Goto.bf BK318 2; have hfz49_3 := Goto.bf BK318 3; have hfz49_4 := Goto.bf BK318 4; have hfz49_5 := Goto.bf BK318 5; have hfz49_6 := Goto.bf BK318 6; have hfz49_7 := Goto.bf BK318 7; have hfz49_8 := Goto.bf BK318 8; have hfz49_9 := Goto.bf BK318 9
                 go_wp2_with (first | ((with_reducible refine gate_callee (f := 41) rfl ?_); refine goesL_ (some 54) rfl rfl Try.func41 (by kernel_rfl) rfl #[.int .i64 ((rd_T44 l0_3 x5_3).f4), .int .i64 1, .int .i64 8] rfl (by (try simp only [List.map_toArray, List.map_cons, List.map_nil]); first | done | rfl | (simp only [List.length_drop, List.length_take]; rfl)) ?_; (with_reducible refine (tontineref1_within.calls ((rd_T44 l0_3 x5_3).f4) 1 8 true _ A35.out).mono ?_); rintro e w' ⟨rfl, ⟨nd, rfl⟩⟩; refine ⟨_, rfl, ?_⟩) | (go_at_call 41; (with_reducible refine (tontineref1_within.calls ((rd_T44 l0_3 x5_3).f5) 0 4 true _ A37.out).mono ?_); rintro e w' ⟨rfl, ⟨nd, rfl⟩⟩) | (go_at_call 41; (with_reducible refine (tontineref1_within.calls ((rd_T44 l0_3 x5_3).f6) 1 16 false _ A39.out).mono ?_); rintro e w' ⟨rfl, ⟨nd, rfl⟩⟩))
                 go_meet
                 case rel => exact ⟨_, (true), (by first | rfl | (simp; done) | (simp [*]; done)), H', ⟨by have := HJ1.out; have := HK2.out; have := HK3.out; first | omega | exact Nat.le_refl _⟩, ⟨Goto.bx BK310⟩, ⟨Goto.bx BK318⟩, ⟨Goto.hx HB⟩⟩
               ·
                replace c38 := Bool.eq_false_iff.mpr c38
                subst c38
                rw [if_neg (show ¬ (false = true) by decide)] at H
                have H' := Goto.m0 H
                clear H; have hnb50 := NB318_310.out; have hnc50 := NB310_318.out; have hcz51_0 := Goto.bc0 BK318; have hcz51_1 := Goto.bc1 BK318; have hcz51_2 := Goto.bc2 BK318; have hcz51_3 := Goto.bc3 BK318; have hcz51_4 := Goto.bc4 BK318; have hcz51_5 := Goto.bc5 BK318; have hcz51_6 := Goto.bc6 BK318; have hcz51_7 := Goto.bc7 BK318; have hcz51_8 := Goto.bc8 BK318; have hcz51_9 := Goto.bc9 BK318; have hfz51_0 := Goto.bf BK318 0; have hfz51_1 := Goto.bf BK318 1; have hfz51_2 := Goto.bf BK318 2; have hfz51_3 := Goto.bf BK318 3; have hfz51_4 := Goto.bf BK318 4; have hfz51_5 := Goto.bf BK318 5; have hfz51_6 := Goto.bf BK318 6; have hfz51_7 := Goto.bf BK318 7; have hfz51_8 := Goto.bf BK318 8; have hfz51_9 := Goto.bf BK318 9
                go_wp2_with (first | ((with_reducible refine gate_callee (f := 41) rfl ?_); refine goesL_ (some 54) rfl rfl Try.func41 (by kernel_rfl) rfl #[.int .i64 ((rd_T44 l0_3 x5_3).f4), .int .i64 1, .int .i64 8] rfl (by (try simp only [List.map_toArray, List.map_cons, List.map_nil]); first | done | rfl | (simp only [List.length_drop, List.length_take]; rfl)) ?_; (with_reducible refine (tontineref1_within.calls ((rd_T44 l0_3 x5_3).f4) 1 8 true _ A35.out).mono ?_); rintro e w' ⟨rfl, ⟨nd, rfl⟩⟩; refine ⟨_, rfl, ?_⟩) | (go_at_call 41; (with_reducible refine (tontineref1_within.calls ((rd_T44 l0_3 x5_3).f5) 0 4 false _ A37.out).mono ?_); rintro e w' ⟨rfl, ⟨nd, rfl⟩⟩))
                go_meet
                case rel => exact ⟨_, (true), (by first | rfl | (simp; done) | (simp [*]; done)), H', ⟨by have := HJ1.out; have := HK2.out; have := HK3.out; first | omega | exact Nat.le_refl _⟩, ⟨Goto.bx BK310⟩, ⟨Goto.bx BK318⟩, ⟨Goto.hx HB⟩⟩
              ·
               replace c36 := Bool.eq_false_iff.mpr c36
               subst c36
               rw [if_neg (show ¬ (false = true) by decide)] at H
               have H' := Goto.m0 H
               clear H; have hnb52 := NB318_310.out; have hnc52 := NB310_318.out; have hcz53_0 := Goto.bc0 BK318; have hcz53_1 := Goto.bc1 BK318; have hcz53_2 := Goto.bc2 BK318; have hcz53_3 := Goto.bc3 BK318; have hcz53_4 := Goto.bc4 BK318; have hcz53_5 := Goto.bc5 BK318; have hcz53_6 := Goto.bc6 BK318; have hcz53_7 := Goto.bc7 BK318; have hcz53_8 := Goto.bc8 BK318; have hcz53_9 := Goto.bc9 BK318; have hfz53_0 := Goto.bf BK318 0; have hfz53_1 := Goto.bf BK318 1; have hfz53_2 := Goto.bf BK318 2; have hfz53_3 := Goto.bf BK318 3; have hfz53_4 := Goto.bf BK318 4; have hfz53_5 := Goto.bf BK318 5; have hfz53_6 := Goto.bf BK318 6; have hfz53_7 := Goto.bf BK318 7; have hfz53_8 := Goto.bf BK318 8; have hfz53_9 := Goto.bf BK318 9
               go_wp2_with (first | ((with_reducible refine gate_callee (f := 41) rfl ?_); refine goesL_ (some 54) rfl rfl Try.func41 (by kernel_rfl) rfl #[.int .i64 ((rd_T44 l0_3 x5_3).f4), .int .i64 1, .int .i64 8] rfl (by (try simp only [List.map_toArray, List.map_cons, List.map_nil]); first | done | rfl | (simp only [List.length_drop, List.length_take]; rfl)) ?_; (with_reducible refine (tontineref1_within.calls ((rd_T44 l0_3 x5_3).f4) 1 8 false _ A35.out).mono ?_); rintro e w' ⟨rfl, ⟨nd, rfl⟩⟩; refine ⟨_, rfl, ?_⟩))
               go_meet
               case rel => exact ⟨_, (true), (by first | rfl | (simp; done) | (simp [*]; done)), H', ⟨by have := HJ1.out; have := HK2.out; have := HK3.out; first | omega | exact Nat.le_refl _⟩, ⟨Goto.bx BK310⟩, ⟨Goto.bx BK318⟩, ⟨Goto.hx HB⟩⟩
             case rest =>
              clear HC30; try clear c1; try clear c2; try clear p2; try clear c3; try clear p3; try clear q3; try clear hx3; try clear c4; try clear c5; try clear c6; try clear p6; try clear c8; try clear c13; try clear c14; try clear c14b0; try clear c15; try clear c15b0; try clear c16; try clear c16b0; try clear c18; try clear c24; try clear c27; try clear c27b0; try clear c28; try clear c28b0; try clear c29; try clear c29b0; try clear c31; try clear p31; try clear q31; try clear hx31; try clear c33; try clear c36; try clear c38; try clear c40; try clear c41; try clear c42; try clear c43; try clear c44; try clear c46; try clear c48; try clear c50; try clear c52; try clear hcz10_0; try clear hcz10_1; try clear hcz10_2; try clear hcz10_3; try clear hcz11_0; try clear hcz11_1; try clear hcz11_2; try clear hcz11_3; try clear hcz12_0; try clear hcz12_1; try clear hcz12_2; try clear hcz12_3; try clear hcz19_0; try clear hcz19_1; try clear hcz19_2; try clear hcz19_3; try clear hcz21_0; try clear hcz21_1; try clear hcz21_2; try clear hcz21_3; try clear hcz25_0; try clear hcz25_1; try clear hcz25_2; try clear hcz25_3; try clear hcz31_0; try clear hcz31_1; try clear hcz31_2; try clear hcz31_3; try clear hcz34_0; try clear hcz34_1; try clear hcz34_2; try clear hcz34_3; try clear hcz34_4; try clear hcz34_5; try clear hcz34_6; try clear hcz34_7; try clear hcz34_8; try clear hcz34_9; try clear hcz45_0; try clear hcz45_1; try clear hcz45_2; try clear hcz45_3; try clear hcz45_4; try clear hcz45_5; try clear hcz45_6; try clear hcz45_7; try clear hcz45_8; try clear hcz45_9; try clear hcz47_0; try clear hcz47_1; try clear hcz47_2; try clear hcz47_3; try clear hcz47_4; try clear hcz47_5; try clear hcz47_6; try clear hcz47_7; try clear hcz47_8; try clear hcz47_9; try clear hcz49_0; try clear hcz49_1; try clear hcz49_2; try clear hcz49_3; try clear hcz49_4; try clear hcz49_5; try clear hcz49_6; try clear hcz49_7; try clear hcz49_8; try clear hcz49_9; try clear hcz4_0; try clear hcz4_1; try clear hcz4_2; try clear hcz4_3; try clear hcz51_0; try clear hcz51_1; try clear hcz51_2; try clear hcz51_3; try clear hcz51_4; try clear hcz51_5; try clear hcz51_6; try clear hcz51_7; try clear hcz51_8; try clear hcz51_9; try clear hcz53_0; try clear hcz53_1; try clear hcz53_2; try clear hcz53_3; try clear hcz53_4; try clear hcz53_5; try clear hcz53_6; try clear hcz53_7; try clear hcz53_8; try clear hcz53_9; try clear hfz10_0; try clear hfz10_1; try clear hfz10_2; try clear hfz10_3; try clear hfz11_0; try clear hfz11_1; try clear hfz11_2; try clear hfz11_3; try clear hfz12_0; try clear hfz12_1; try clear hfz12_2; try clear hfz12_3; try clear hfz19_0; try clear hfz19_1; try clear hfz19_2; try clear hfz19_3; try clear hfz21_0; try clear hfz21_1; try clear hfz21_2; try clear hfz21_3; try clear hfz25_0; try clear hfz25_1; try clear hfz25_2; try clear hfz25_3; try clear hfz31_0; try clear hfz31_1; try clear hfz31_2; try clear hfz31_3; try clear hfz34_0; try clear hfz34_1; try clear hfz34_2; try clear hfz34_3; try clear hfz34_4; try clear hfz34_5; try clear hfz34_6; try clear hfz34_7; try clear hfz34_8; try clear hfz34_9; try clear hfz45_0; try clear hfz45_1; try clear hfz45_2; try clear hfz45_3; try clear hfz45_4; try clear hfz45_5; try clear hfz45_6; try clear hfz45_7; try clear hfz45_8; try clear hfz45_9; try clear hfz47_0; try clear hfz47_1; try clear hfz47_2; try clear hfz47_3; try clear hfz47_4; try clear hfz47_5; try clear hfz47_6; try clear hfz47_7; try clear hfz47_8; try clear hfz47_9; try clear hfz49_0; try clear hfz49_1; try clear hfz49_2; try clear hfz49_3; try clear hfz49_4; try clear hfz49_5; try clear hfz49_6; try clear hfz49_7; try clear hfz49_8; try clear hfz49_9; try clear hfz4_0; try clear hfz4_1; try clear hfz4_2; try clear hfz4_3; try clear hfz51_0; try clear hfz51_1; try clear hfz51_2; try clear hfz51_3; try clear hfz51_4; try clear hfz51_5; try clear hfz51_6; try clear hfz51_7; try clear hfz51_8; try clear hfz51_9; try clear hfz53_0; try clear hfz53_1
              try clear hfz53_2; try clear hfz53_3; try clear hfz53_4; try clear hfz53_5; try clear hfz53_6; try clear hfz53_7; try clear hfz53_8; try clear hfz53_9; try clear hx314_0; try clear hx314_1; try clear hx314_2; try clear hx314_3; try clear hx314_4; try clear hx314_5; try clear hx314_6; try clear hx314_7; try clear hx314_8; try clear hx314_9; try clear hx317_0; try clear hx317_1; try clear hx317_2; try clear hx317_3; try clear hx317_4; try clear hx317_5; try clear hx317_6; try clear hx317_7; try clear hx317_8; try clear hx317_9; try clear p2; try clear p3; try clear p314; try clear p317; try clear p6; try clear q3; try clear q314; try clear q317
              obtain ⟨kq, x79_29, rfl, HA, HJ29, BK310, BK318, HB⟩ := hcut
              cases kq with
              | zero => exact absurd HA.out (by simp [tontineref1_IsConf.j3])
              | succ kj29 =>
               have H := HA.out; clear HA
               simp only [tontineref1_IsConf.j3] at H
               by_cases c54 : x79_29 = true
               ·
                subst c54
                rw [if_pos rfl] at H
                obtain rfl := Option.some.inj H
                go_wp2
                go_ret
                exact ⟨Goto.er, by repeat (first | (with_reducible first | exact HB.out | apply below_alloc | apply pw_below_drewN | apply below_drew1 | refine below_set ?_ GE310.out | refine below_set ?_ GE318.out) | exact HB.out)⟩
               ·
                replace c54 := Bool.eq_false_iff.mpr c54
                subst c54
                rw [if_neg (show ¬ (false = true) by decide)] at H
                have H' := Goto.m0 H
                clear H
                go_wp2
                go_roundg kj29
                case measure => have := HJ1.out; have := HK2.out; have := HK3.out; have := HJ29.out; omega
                case rel => exact ⟨(wrap64 (x5_3 + 1)), (by first | rfl | (simp; done) | (simp [*]; done)), H', ⟨by have := HJ1.out; have := HK2.out; have := HK3.out; have := HJ29.out; omega⟩, ⟨Goto.bx BK310⟩, ⟨Goto.hx HB⟩⟩
            ·
             rw [if_neg c29] at H
             exact absurd H (by simp)
           ·
            rw [if_neg c28] at H
            exact absurd H (by simp)
          ·
           rw [if_neg c27] at H
           have c27b0 : decide (x5_3 < (l0_3.length : Int)) = false := decide_eq_false c27
           clear c27
           have H' := Goto.m0 H
           clear H
           go_wp2
           go_loopg [7] k3 (fun kq v7 w' => ∃ (x7_4 : Int), v7 = .int .i64 x7_4 ∧ Aside0 (tontineref1_IsConf.l2 kq (l0_3.length : Int) x7_4 a0_0 a0_1 l0_2 l0_3 = some r) ∧ Aside0 (kq ≤ k3) ∧ Aside0 (w'.heap[gb310]? = some (.cells #[.int .i64 a0_0, .int .i64 a0_1, (.slice A0_2 l0_2.length c0_2), (.slice A0_3 l0_3.length c0_3)] 25 (0, 0))) ∧ Aside0 (Below w.heap.size w w'))
           case atStart => exact ⟨(0), (by first | rfl | (simp; done) | (simp [*]; done)), H', ⟨Nat.le_refl _⟩, ⟨Goto.bx BK310⟩, ⟨Goto.hx HB⟩⟩
           case round =>
            clear H'
            try clear c1; try clear c2; try clear p2; try clear c3; try clear p3; try clear q3; try clear hx3; try clear c4; try clear c5; try clear c6; try clear p6; try clear c8; try clear c13; try clear c14; try clear c14b0; try clear c15; try clear c15b0; try clear c16; try clear c16b0; try clear c18; try clear c24; try clear c27; try clear c27b0; try clear c28; try clear c28b0; try clear c29; try clear c29b0; try clear c31; try clear p31; try clear q31; try clear hx31; try clear c33; try clear c36; try clear c38; try clear c40; try clear c41; try clear c42; try clear c43; try clear c44; try clear c46; try clear c48; try clear c50; try clear c52; try clear c54; try clear hcz10_0; try clear hcz10_1; try clear hcz10_2; try clear hcz10_3; try clear hcz11_0; try clear hcz11_1; try clear hcz11_2; try clear hcz11_3; try clear hcz12_0; try clear hcz12_1; try clear hcz12_2; try clear hcz12_3; try clear hcz19_0; try clear hcz19_1; try clear hcz19_2; try clear hcz19_3; try clear hcz21_0; try clear hcz21_1; try clear hcz21_2; try clear hcz21_3; try clear hcz25_0; try clear hcz25_1; try clear hcz25_2; try clear hcz25_3; try clear hcz31_0; try clear hcz31_1; try clear hcz31_2; try clear hcz31_3; try clear hcz34_0; try clear hcz34_1; try clear hcz34_2; try clear hcz34_3; try clear hcz34_4; try clear hcz34_5; try clear hcz34_6; try clear hcz34_7; try clear hcz34_8; try clear hcz34_9; try clear hcz45_0; try clear hcz45_1; try clear hcz45_2; try clear hcz45_3; try clear hcz45_4; try clear hcz45_5; try clear hcz45_6; try clear hcz45_7; try clear hcz45_8; try clear hcz45_9; try clear hcz47_0; try clear hcz47_1; try clear hcz47_2; try clear hcz47_3; try clear hcz47_4; try clear hcz47_5; try clear hcz47_6; try clear hcz47_7; try clear hcz47_8; try clear hcz47_9; try clear hcz49_0; try clear hcz49_1; try clear hcz49_2; try clear hcz49_3; try clear hcz49_4; try clear hcz49_5; try clear hcz49_6; try clear hcz49_7; try clear hcz49_8; try clear hcz49_9; try clear hcz4_0; try clear hcz4_1; try clear hcz4_2; try clear hcz4_3; try clear hcz51_0; try clear hcz51_1; try clear hcz51_2; try clear hcz51_3; try clear hcz51_4; try clear hcz51_5; try clear hcz51_6; try clear hcz51_7; try clear hcz51_8; try clear hcz51_9; try clear hcz53_0; try clear hcz53_1; try clear hcz53_2; try clear hcz53_3; try clear hcz53_4; try clear hcz53_5; try clear hcz53_6; try clear hcz53_7; try clear hcz53_8; try clear hcz53_9; try clear hfz10_0; try clear hfz10_1; try clear hfz10_2; try clear hfz10_3; try clear hfz11_0; try clear hfz11_1; try clear hfz11_2; try clear hfz11_3; try clear hfz12_0; try clear hfz12_1; try clear hfz12_2; try clear hfz12_3; try clear hfz19_0; try clear hfz19_1; try clear hfz19_2; try clear hfz19_3; try clear hfz21_0; try clear hfz21_1; try clear hfz21_2; try clear hfz21_3; try clear hfz25_0; try clear hfz25_1; try clear hfz25_2; try clear hfz25_3; try clear hfz31_0; try clear hfz31_1; try clear hfz31_2; try clear hfz31_3; try clear hfz34_0; try clear hfz34_1; try clear hfz34_2; try clear hfz34_3; try clear hfz34_4; try clear hfz34_5; try clear hfz34_6; try clear hfz34_7; try clear hfz34_8; try clear hfz34_9; try clear hfz45_0; try clear hfz45_1; try clear hfz45_2; try clear hfz45_3; try clear hfz45_4; try clear hfz45_5; try clear hfz45_6; try clear hfz45_7; try clear hfz45_8; try clear hfz45_9; try clear hfz47_0; try clear hfz47_1; try clear hfz47_2; try clear hfz47_3; try clear hfz47_4; try clear hfz47_5; try clear hfz47_6; try clear hfz47_7; try clear hfz47_8; try clear hfz47_9; try clear hfz49_0; try clear hfz49_1; try clear hfz49_2; try clear hfz49_3; try clear hfz49_4; try clear hfz49_5; try clear hfz49_6; try clear hfz49_7; try clear hfz49_8; try clear hfz49_9; try clear hfz4_0; try clear hfz4_1; try clear hfz4_2; try clear hfz4_3; try clear hfz51_0; try clear hfz51_1; try clear hfz51_2; try clear hfz51_3; try clear hfz51_4; try clear hfz51_5; try clear hfz51_6; try clear hfz51_7; try clear hfz51_8; try clear hfz51_9; try clear hfz53_0; try clear hfz53_1
            try clear hfz53_2; try clear hfz53_3; try clear hfz53_4; try clear hfz53_5; try clear hfz53_6; try clear hfz53_7; try clear hfz53_8; try clear hfz53_9; try clear hx314_0; try clear hx314_1; try clear hx314_2; try clear hx314_3; try clear hx314_4; try clear hx314_5; try clear hx314_6; try clear hx314_7; try clear hx314_8; try clear hx314_9; try clear hx317_0; try clear hx317_1; try clear hx317_2; try clear hx317_3; try clear hx317_4; try clear hx317_5; try clear hx317_6; try clear hx317_7; try clear hx317_8; try clear hx317_9; try clear p2; try clear p3; try clear p31; try clear p314; try clear p317; try clear p6; try clear q3; try clear q31; try clear q314; try clear q317
            obtain ⟨x7_4, rfl, HA, HK4, BK310, HB⟩ := hrel
            cases gk with
            | zero => exact absurd HA.out (by simp [tontineref1_IsConf.l2])
            | succ k4 =>
             have H := HA.out; clear HA
             simp only [tontineref1_IsConf.l2] at H
             by_cases c55 : x7_4 < (l0_3.length : Int)
             ·
              rw [if_pos c55] at H
              have c55b0 : decide (x7_4 < (l0_3.length : Int)) = true := decide_eq_true c55
              clear c55
              replace H := Option.bind_eq_some_iff.mp H
              obtain ⟨t324, A560, H⟩ := H
              have A56 := Goto.m0 A560
              clear A560
              by_cases c57 : t324 = true
              ·
               subst c57
               rw [if_pos rfl] at H
               have H' := Goto.m0 H
               clear H; have hcz58_0 := Goto.bc0 BK310; have hcz58_1 := Goto.bc1 BK310; have hcz58_2 := Goto.bc2 BK310; have hcz58_3 := Goto.bc3 BK310; have hfz58_0 := Goto.bf BK310 0; have hfz58_1 := Goto.bf BK310 1; have hfz58_2 := Goto.bf BK310 2; have hfz58_3 := Goto.bf BK310 3
               go_wp2_with (first | ((with_reducible refine gate_callee (f := 44) rfl ?_); refine goesL_ (some 87) rfl rfl Try.func44 (by kernel_rfl) rfl #[.agg #[.int .i64 a0_0, .int .i64 a0_1, .slice A0_2 l0_2.length c0_2, .slice A0_3 l0_3.length c0_3], .int .i64 x7_4] rfl (by (try simp only [List.map_toArray, List.map_cons, List.map_nil]); first | done | rfl | (simp only [List.length_drop, List.length_take]; rfl)) ?_; (with_reducible refine (tontineref1_routes.calls k4 a0_0 a0_1 _ _ l0_2 _ _ l0_3 x7_4 true _ ?side1 ?side2 ?side3 ?side4 A56.out).mono ?_); (case side1 => repeat (first | exact (Kd.C_below HR0_2.out HB.out) | (with_reducible refine Kd.C_alloc ?_ _) | (with_reducible refine Kd.C_drewN ?_ _) | (with_reducible refine Kd.C_drew ?_))); (case side2 => exact HC0_2.out); (case side3 => repeat (first | exact (Kd.C_below HR0_3.out HB.out) | (with_reducible refine Kd.C_alloc ?_ _) | (with_reducible refine Kd.C_drewN ?_ _) | (with_reducible refine Kd.C_drew ?_))); (case side4 => exact HC0_3.out); rintro e w59 ⟨rfl, hb⟩; refine ⟨_, rfl, ?_⟩; replace BK310 := Goto.bb BK310 hb; replace HB := Goto.hs HB hb; (try clear hb); (try clear hb2); (try clear hk); (try clear hi)))
               go_roundg k4
               case measure => have := HJ1.out; have := HK2.out; have := HK3.out; have := HK4.out; omega
               case rel => exact ⟨(wrap64 (x7_4 + 1)), (by first | rfl | (simp; done) | (simp [*]; done)), H', ⟨by have := HJ1.out; have := HK2.out; have := HK3.out; have := HK4.out; omega⟩, ⟨Goto.bx BK310⟩, ⟨Goto.hx HB⟩⟩
              ·
               replace c57 := Bool.eq_false_iff.mpr c57
               subst c57
               rw [if_neg (show ¬ (false = true) by decide)] at H
               obtain rfl := Option.some.inj H
               have hcz60_0 := Goto.bc0 BK310; have hcz60_1 := Goto.bc1 BK310; have hcz60_2 := Goto.bc2 BK310; have hcz60_3 := Goto.bc3 BK310; have hfz60_0 := Goto.bf BK310 0; have hfz60_1 := Goto.bf BK310 1; have hfz60_2 := Goto.bf BK310 2; have hfz60_3 := Goto.bf BK310 3
               go_wp2_with (first | ((with_reducible refine gate_callee (f := 44) rfl ?_); refine goesL_ (some 87) rfl rfl Try.func44 (by kernel_rfl) rfl #[.agg #[.int .i64 a0_0, .int .i64 a0_1, .slice A0_2 l0_2.length c0_2, .slice A0_3 l0_3.length c0_3], .int .i64 x7_4] rfl (by (try simp only [List.map_toArray, List.map_cons, List.map_nil]); first | done | rfl | (simp only [List.length_drop, List.length_take]; rfl)) ?_; (with_reducible refine (tontineref1_routes.calls k4 a0_0 a0_1 _ _ l0_2 _ _ l0_3 x7_4 false _ ?side1 ?side2 ?side3 ?side4 A56.out).mono ?_); (case side1 => repeat (first | exact (Kd.C_below HR0_2.out HB.out) | (with_reducible refine Kd.C_alloc ?_ _) | (with_reducible refine Kd.C_drewN ?_ _) | (with_reducible refine Kd.C_drew ?_))); (case side2 => exact HC0_2.out); (case side3 => repeat (first | exact (Kd.C_below HR0_3.out HB.out) | (with_reducible refine Kd.C_alloc ?_ _) | (with_reducible refine Kd.C_drewN ?_ _) | (with_reducible refine Kd.C_drew ?_))); (case side4 => exact HC0_3.out); rintro e w61 ⟨rfl, hb⟩; refine ⟨_, rfl, ?_⟩; replace BK310 := Goto.bb BK310 hb; replace HB := Goto.hs HB hb; (try clear hb); (try clear hb2); (try clear hk); (try clear hi)))
               go_ret
               exact ⟨Goto.er, by repeat (first | (with_reducible first | exact HB.out | apply below_alloc | apply pw_below_drewN | apply below_drew1 | refine below_set ?_ GE310.out) | exact HB.out)⟩
             ·
              rw [if_neg c55] at H
              have c55b0 : decide (x7_4 < (l0_3.length : Int)) = false := decide_eq_false c55
              clear c55
              obtain rfl := Option.some.inj H
              go_wp2
              go_ret
              exact ⟨Goto.er, by repeat (first | (with_reducible first | exact HB.out | apply below_alloc | apply pw_below_drewN | apply below_drew1 | refine below_set ?_ GE310.out) | exact HB.out)⟩
       ·
        replace c24 := Bool.eq_false_iff.mpr c24
        subst c24
        rw [if_neg (show ¬ (false = true) by decide)] at H
        obtain rfl := Option.some.inj H
        have hcz62_0 := Goto.bc0 BK310; have hcz62_1 := Goto.bc1 BK310; have hcz62_2 := Goto.bc2 BK310; have hcz62_3 := Goto.bc3 BK310; have hfz62_0 := Goto.bf BK310 0; have hfz62_1 := Goto.bf BK310 1; have hfz62_2 := Goto.bf BK310 2; have hfz62_3 := Goto.bf BK310 3
        go_wp2_with (first | ((with_reducible refine gate_callee (f := 43) rfl ?_); refine goesL_ (some 40) rfl rfl Try.func43 (by kernel_rfl) rfl #[.agg #[.int .i64 a0_0, .int .i64 a0_1, .slice A0_2 l0_2.length c0_2, .slice A0_3 l0_3.length c0_3]] rfl (by (try simp only [List.map_toArray, List.map_cons, List.map_nil]); first | done | rfl | (simp only [List.length_drop, List.length_take]; rfl)) ?_; (with_reducible refine (tontineref1_shares.calls k2 a0_0 a0_1 _ _ l0_2 _ _ l0_3 false _ ?side1 ?side2 ?side3 ?side4 A23.out).mono ?_); (case side1 => repeat (first | exact (Kd.C_below HR0_2.out HB.out) | (with_reducible refine Kd.C_alloc ?_ _) | (with_reducible refine Kd.C_drewN ?_ _) | (with_reducible refine Kd.C_drew ?_))); (case side2 => exact HC0_2.out); (case side3 => repeat (first | exact (Kd.C_below HR0_3.out HB.out) | (with_reducible refine Kd.C_alloc ?_ _) | (with_reducible refine Kd.C_drewN ?_ _) | (with_reducible refine Kd.C_drew ?_))); (case side4 => exact HC0_3.out); rintro e w63 ⟨rfl, hb⟩; refine ⟨_, rfl, ?_⟩; replace BK310 := Goto.bb BK310 hb; replace HB := Goto.hs HB hb; (try clear hb); (try clear hb2); (try clear hk); (try clear hi)))
        go_ret
        exact ⟨Goto.er, by repeat (first | (with_reducible first | exact HB.out | apply below_alloc | apply pw_below_drewN | apply below_drew1 | refine below_set ?_ GE310.out) | exact HB.out)⟩

end Go.Proofs.Ytbhfkhcedjgpdaa.P
