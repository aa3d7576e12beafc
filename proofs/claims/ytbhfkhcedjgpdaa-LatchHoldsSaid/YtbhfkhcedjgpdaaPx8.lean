/- Printed by a program of this workplace (a turned copy of the kit's optional print), out of the translation; not trusted: Lean checks it. -/
import Derived.Test.YtbhfkhcedjgpdaaPx0
import Derived.Test.YtbhfkhcedjgpdaaPx3
import Derived.Test.YtbhfkhcedjgpdaaPx4
import Derived.Test.YtbhfkhcedjgpdaaPx7
namespace Go.Proofs.Ytbhfkhcedjgpdaa.P
open Go.RowKit Go.Proofs.YtbhfkhcedjgpdaaW.PrintWords Go.Proofs.YtbhfkhcedjgpdaaW.PrintLast Go.Proofs.YtbhfkhcedjgpdaaW.PrintMore
attribute [local go_sem] max2_int min2_int max_two min_two max_three min_three max_four min_four   -- for this text's walks alone
set_option linter.unusedVariables false
set_option linter.unusedSimpArgs false

/-! ### tontineref1_IsConf: function 14 -/
mutual
def tontineref1_IsConf.j0 : Nat → Int → Bool → Int → Int → List (List Int) → List (S44) → Option (Int)
  | 0, _, _, _, _, _, _ => none
  | k + 1, x3, x25, x147000, x147001, x147002, x147003 => if x25 = true then (some 10) else (tontineref1_IsConf.l0 k x3 0 x147000 x147001 x147002 x147003)
def tontineref1_IsConf.l0 : Nat → Int → Int → Int → Int → List (List Int) → List (S44) → Option (Int)
  | 0, _, _, _, _, _, _ => none
  | k + 1, x3, x4, x147000, x147001, x147002, x147003 => if x4 < x3 then (if 0 ≤ x4 then (if x4 < (x147003.length : Int) then ((tontineref1_IsLabel.f ((rd_T44 x147003 x4).f0.f0) ((rd_T44 x147003 x4).f0.f1)).bind fun t151 => (if t151 = true then (tontineref1_IsConf.l0 k x3 (wrap64 (x4 + 1)) x147000 x147001 x147002 x147003) else (some 10))) else (none)) else (none)) else ((tontineref1_shares.f k x147000 x147001 x147002 x147003).bind fun t152 => (if t152 = true then (tontineref1_IsConf.l1 k x3 0 x147000 x147001 x147002 x147003) else (some 18)))
def tontineref1_IsConf.l1 : Nat → Int → Int → Int → Int → List (List Int) → List (S44) → Option (Int)
  | 0, _, _, _, _, _, _ => none
  | k + 1, x3, x5, x147000, x147001, x147002, x147003 => if x5 < x3 then (if 0 ≤ x5 then (if x5 < (x147003.length : Int) then ((tontineref1_within.f ((rd_T44 x147003 x5).f4) 1 8).bind fun t155 => (if t155 = true then ((tontineref1_within.f ((rd_T44 x147003 x5).f5) 0 4).bind fun t156 => (if t156 = true then ((tontineref1_within.f ((rd_T44 x147003 x5).f6) 1 16).bind fun t157 => (if t157 = true then ((tontineref1_within.f ((rd_T44 x147003 x5).f7) 0 8).bind fun t158 => (if t158 = true then ((tontineref1_within.f ((rd_T44 x147003 x5).f8) 1 8).bind fun t159 => (tontineref1_IsConf.j3 k x3 x5 (!t159) x147000 x147001 x147002 x147003)) else (tontineref1_IsConf.j3 k x3 x5 true x147000 x147001 x147002 x147003))) else (tontineref1_IsConf.j3 k x3 x5 true x147000 x147001 x147002 x147003))) else (tontineref1_IsConf.j3 k x3 x5 true x147000 x147001 x147002 x147003))) else (tontineref1_IsConf.j3 k x3 x5 true x147000 x147001 x147002 x147003))) else (none)) else (none)) else (tontineref1_IsConf.l2 k x3 0 x147000 x147001 x147002 x147003)
def tontineref1_IsConf.j3 : Nat → Int → Int → Bool → Int → Int → List (List Int) → List (S44) → Option (Int)
  | 0, _, _, _, _, _, _, _ => none
  | k + 1, x3, x5, x79, x147000, x147001, x147002, x147003 => if x79 = true then (some 19) else (tontineref1_IsConf.l1 k x3 (wrap64 (x5 + 1)) x147000 x147001 x147002 x147003)
def tontineref1_IsConf.l2 : Nat → Int → Int → Int → Int → List (List Int) → List (S44) → Option (Int)
  | 0, _, _, _, _, _, _ => none
  | k + 1, x3, x7, x147000, x147001, x147002, x147003 => if x7 < x3 then ((tontineref1_routes.f k x147000 x147001 x147002 x147003 x7).bind fun t160 => (if t160 = true then (tontineref1_IsConf.l2 k x3 (wrap64 (x7 + 1)) x147000 x147001 x147002 x147003) else (some 17))) else (some 0)
end
def tontineref1_IsConf.f (k : Nat) (a0_0 : Int) (a0_1 : Int) (l0_2 : List (List Int)) (l0_3 : List (S44)) : Option (Int) := (tontineref1_within.f a0_0 1 64).bind fun t147 => (if t147 = true then ((tontineref1_within.f a0_1 1 8).bind fun t148 => (if t148 = true then ((tontineref1_within.f (l0_3.length : Int) 1 6).bind fun t149 => (tontineref1_IsConf.j0 k (l0_3.length : Int) (!t149) a0_0 a0_1 l0_2 l0_3)) else (tontineref1_IsConf.j0 k (l0_3.length : Int) true a0_0 a0_1 l0_2 l0_3))) else (tontineref1_IsConf.j0 k (l0_3.length : Int) true a0_0 a0_1 l0_2 l0_3))
theorem tontineref1_IsConf.mono_l : ∀ k, (∀ y0 y1 y2 y3 y4 y5, LeO (tontineref1_IsConf.j0 k y0 y1 y2 y3 y4 y5) (tontineref1_IsConf.j0 (k + 1) y0 y1 y2 y3 y4 y5)) ∧ (∀ y0 y1 y2 y3 y4 y5, LeO (tontineref1_IsConf.l0 k y0 y1 y2 y3 y4 y5) (tontineref1_IsConf.l0 (k + 1) y0 y1 y2 y3 y4 y5)) ∧ (∀ y0 y1 y2 y3 y4 y5, LeO (tontineref1_IsConf.l1 k y0 y1 y2 y3 y4 y5) (tontineref1_IsConf.l1 (k + 1) y0 y1 y2 y3 y4 y5)) ∧ (∀ y0 y1 y2 y3 y4 y5 y6, LeO (tontineref1_IsConf.j3 k y0 y1 y2 y3 y4 y5 y6) (tontineref1_IsConf.j3 (k + 1) y0 y1 y2 y3 y4 y5 y6)) ∧ (∀ y0 y1 y2 y3 y4 y5, LeO (tontineref1_IsConf.l2 k y0 y1 y2 y3 y4 y5) (tontineref1_IsConf.l2 (k + 1) y0 y1 y2 y3 y4 y5))
  | 0 => ⟨fun _ _ _ _ _ _ r h => by simp [tontineref1_IsConf.j0] at h, fun _ _ _ _ _ _ r h => by simp [tontineref1_IsConf.l0] at h, fun _ _ _ _ _ _ r h => by simp [tontineref1_IsConf.l1] at h, fun _ _ _ _ _ _ _ r h => by simp [tontineref1_IsConf.j3] at h, fun _ _ _ _ _ _ r h => by simp [tontineref1_IsConf.l2] at h⟩
  | k + 1 => by
    obtain ⟨ih0, ih1, ih2, ih3, ih4⟩ := tontineref1_IsConf.mono_l k
    refine ⟨?_, ?_, ?_, ?_, ?_⟩
    · intro y0 y1 y2 y3 y4 y5
      unfold tontineref1_IsConf.j0
      repeat' first
      | (with_reducible exact ih0 _ _ _ _ _ _)
      | (with_reducible exact ih1 _ _ _ _ _ _)
      | (with_reducible exact ih2 _ _ _ _ _ _)
      | (with_reducible exact ih3 _ _ _ _ _ _ _)
      | (with_reducible exact ih4 _ _ _ _ _ _)
      | (with_reducible exact tontineref1_routes.mono _ _ _ _ _ _)
      | (with_reducible exact tontineref1_shares.mono _ _ _ _ _)
      | (with_reducible exact LeO.refl _)
      | (with_reducible exact LeO.none _)
      | (with_reducible refine LeO.ite ?_ ?_)
      | (with_reducible refine LeO.bind ?_ (fun _ => ?_))
      | exact ih0 _ _ _ _ _ _
      | exact ih1 _ _ _ _ _ _
      | exact ih2 _ _ _ _ _ _
      | exact ih3 _ _ _ _ _ _ _
      | exact ih4 _ _ _ _ _ _
      | exact tontineref1_routes.mono _ _ _ _ _ _
      | exact tontineref1_shares.mono _ _ _ _ _
      | exact LeO.none _
      | refine LeO.ite ?_ ?_
      | refine LeO.bind ?_ (fun _ => ?_)
    · intro y0 y1 y2 y3 y4 y5
      unfold tontineref1_IsConf.l0
      repeat' first
      | (with_reducible exact ih0 _ _ _ _ _ _)
      | (with_reducible exact ih1 _ _ _ _ _ _)
      | (with_reducible exact ih2 _ _ _ _ _ _)
      | (with_reducible exact ih3 _ _ _ _ _ _ _)
      | (with_reducible exact ih4 _ _ _ _ _ _)
      | (with_reducible exact tontineref1_routes.mono _ _ _ _ _ _)
      | (with_reducible exact tontineref1_shares.mono _ _ _ _ _)
      | (with_reducible exact LeO.refl _)
      | (with_reducible exact LeO.none _)
      | (with_reducible refine LeO.ite ?_ ?_)
      | (with_reducible refine LeO.bind ?_ (fun _ => ?_))
      | exact ih0 _ _ _ _ _ _
      | exact ih1 _ _ _ _ _ _
      | exact ih2 _ _ _ _ _ _
      | exact ih3 _ _ _ _ _ _ _
      | exact ih4 _ _ _ _ _ _
      | exact tontineref1_routes.mono _ _ _ _ _ _
      | exact tontineref1_shares.mono _ _ _ _ _
      | exact LeO.none _
      | refine LeO.ite ?_ ?_
      | refine LeO.bind ?_ (fun _ => ?_)
    · intro y0 y1 y2 y3 y4 y5
      unfold tontineref1_IsConf.l1
      repeat' first
      | (with_reducible exact ih0 _ _ _ _ _ _)
      | (with_reducible exact ih1 _ _ _ _ _ _)
      | (with_reducible exact ih2 _ _ _ _ _ _)
      | (with_reducible exact ih3 _ _ _ _ _ _ _)
      | (with_reducible exact ih4 _ _ _ _ _ _)
      | (with_reducible exact tontineref1_routes.mono _ _ _ _ _ _)
      | (with_reducible exact tontineref1_shares.mono _ _ _ _ _)
      | (with_reducible exact LeO.refl _)
      | (with_reducible exact LeO.none _)
      | (with_reducible refine LeO.ite ?_ ?_)
      | (with_reducible refine LeO.bind ?_ (fun _ => ?_))
      | exact ih0 _ _ _ _ _ _
      | exact ih1 _ _ _ _ _ _
      | exact ih2 _ _ _ _ _ _
      | exact ih3 _ _ _ _ _ _ _
      | exact ih4 _ _ _ _ _ _
      | exact tontineref1_routes.mono _ _ _ _ _ _
      | exact tontineref1_shares.mono _ _ _ _ _
      | exact LeO.none _
      | refine LeO.ite ?_ ?_
      | refine LeO.bind ?_ (fun _ => ?_)
    · intro y0 y1 y2 y3 y4 y5 y6
      unfold tontineref1_IsConf.j3
      repeat' first
      | (with_reducible exact ih0 _ _ _ _ _ _)
      | (with_reducible exact ih1 _ _ _ _ _ _)
      | (with_reducible exact ih2 _ _ _ _ _ _)
      | (with_reducible exact ih3 _ _ _ _ _ _ _)
      | (with_reducible exact ih4 _ _ _ _ _ _)
      | (with_reducible exact tontineref1_routes.mono _ _ _ _ _ _)
      | (with_reducible exact tontineref1_shares.mono _ _ _ _ _)
      | (with_reducible exact LeO.refl _)
      | (with_reducible exact LeO.none _)
      | (with_reducible refine LeO.ite ?_ ?_)
      | (with_reducible refine LeO.bind ?_ (fun _ => ?_))
      | exact ih0 _ _ _ _ _ _
      | exact ih1 _ _ _ _ _ _
      | exact ih2 _ _ _ _ _ _
      | exact ih3 _ _ _ _ _ _ _
      | exact ih4 _ _ _ _ _ _
      | exact tontineref1_routes.mono _ _ _ _ _ _
      | exact tontineref1_shares.mono _ _ _ _ _
      | exact LeO.none _
      | refine LeO.ite ?_ ?_
      | refine LeO.bind ?_ (fun _ => ?_)
    · intro y0 y1 y2 y3 y4 y5
      unfold tontineref1_IsConf.l2
      repeat' first
      | (with_reducible exact ih0 _ _ _ _ _ _)
      | (with_reducible exact ih1 _ _ _ _ _ _)
      | (with_reducible exact ih2 _ _ _ _ _ _)
      | (with_reducible exact ih3 _ _ _ _ _ _ _)
      | (with_reducible exact ih4 _ _ _ _ _ _)
      | (with_reducible exact tontineref1_routes.mono _ _ _ _ _ _)
      | (with_reducible exact tontineref1_shares.mono _ _ _ _ _)
      | (with_reducible exact LeO.refl _)
      | (with_reducible exact LeO.none _)
      | (with_reducible refine LeO.ite ?_ ?_)
      | (with_reducible refine LeO.bind ?_ (fun _ => ?_))
      | exact ih0 _ _ _ _ _ _
      | exact ih1 _ _ _ _ _ _
      | exact ih2 _ _ _ _ _ _
      | exact ih3 _ _ _ _ _ _ _
      | exact ih4 _ _ _ _ _ _
      | exact tontineref1_routes.mono _ _ _ _ _ _
      | exact tontineref1_shares.mono _ _ _ _ _
      | exact LeO.none _
      | refine LeO.ite ?_ ?_
      | refine LeO.bind ?_ (fun _ => ?_)
theorem tontineref1_IsConf.mono : ∀ a0 a1 a2 a3 k, LeO (tontineref1_IsConf.f k a0 a1 a2 a3) (tontineref1_IsConf.f (k + 1) a0 a1 a2 a3) := by
 intro a0 a1 a2 a3 k
 obtain ⟨ih0, ih1, ih2, ih3, ih4⟩ := tontineref1_IsConf.mono_l k
 unfold tontineref1_IsConf.f
 repeat' first
   | (with_reducible exact ih0 _ _ _ _ _ _)
   | (with_reducible exact ih1 _ _ _ _ _ _)
   | (with_reducible exact ih2 _ _ _ _ _ _)
   | (with_reducible exact ih3 _ _ _ _ _ _ _)
   | (with_reducible exact ih4 _ _ _ _ _ _)
   | (with_reducible exact tontineref1_routes.mono _ _ _ _ _ _)
   | (with_reducible exact tontineref1_shares.mono _ _ _ _ _)
   | (with_reducible exact LeO.refl _)
   | (with_reducible exact LeO.none _)
   | (with_reducible refine LeO.ite ?_ ?_)
   | (with_reducible refine LeO.bind ?_ (fun _ => ?_))
   | exact ih0 _ _ _ _ _ _
   | exact ih1 _ _ _ _ _ _
   | exact ih2 _ _ _ _ _ _
   | exact ih3 _ _ _ _ _ _ _
   | exact ih4 _ _ _ _ _ _
   | exact tontineref1_routes.mono _ _ _ _ _ _
   | exact tontineref1_shares.mono _ _ _ _ _
   | exact LeO.none _
   | refine LeO.ite ?_ ?_
   | refine LeO.bind ?_ (fun _ => ?_)
set_option maxHeartbeats 8000000 in
set_option maxRecDepth 100000 in
theorem tontineref1_IsConf.calls (k : Nat) (a0_0 : Int) (a0_1 : Int) (A0_2 : Option Addr) (c0_2 : Nat) (l0_2 : List (List Int)) (A0_3 : Option Addr) (c0_3 : Nat) (l0_3 : List (S44)) (r : Int) (w : World) (hr0_2 : Kd.C (Kd.slice 3 (Kd.int .i64)) w A0_2 l0_2.length l0_2) (hc0_2 : l0_2.length ≤ c0_2) (hr0_3 : Kd.C k44 w A0_3 l0_3.length l0_3) (hc0_3 : l0_3.length ≤ c0_3) (h : tontineref1_IsConf.f k a0_0 a0_1 l0_2 l0_3 = some r) :
    Calls Try.prog 14 #[.agg #[.int .i64 a0_0, .int .i64 a0_1, .slice A0_2 l0_2.length c0_2, .slice A0_3 l0_3.length c0_3]] w fun e w' => e = .returned (.int .i64 r) ∧ Below w.heap.size w w' := by
 have hu25 := Try.underlying25; have hu42 := Try.underlying42; have hu44 := Try.underlying44
 have HR0_2 := Goto.m0 hr0_2
 have HC0_2 := Goto.m0 hc0_2
 clear hr0_2 hc0_2
 have HR0_3 := Goto.m0 hr0_3
 have HC0_3 := Goto.m0 hc0_3
 clear hr0_3 hc0_3
 have HB := Goto.m0 (Below.refl w.heap.size w)
 have H : ((tontineref1_within.f a0_0 1 64).bind fun t147 => (if t147 = true then ((tontineref1_within.f a0_1 1 8).bind fun t148 => (if t148 = true then ((tontineref1_within.f (l0_3.length : Int) 1 6).bind fun t149 => (tontineref1_IsConf.j0 k (l0_3.length : Int) (!t149) a0_0 a0_1 l0_2 l0_3)) else (tontineref1_IsConf.j0 k (l0_3.length : Int) true a0_0 a0_1 l0_2 l0_3))) else (tontineref1_IsConf.j0 k (l0_3.length : Int) true a0_0 a0_1 l0_2 l0_3))) = some r := h
 clear h
 have HC2 := Goto.m0 H
 clear H
 go_enter Try.func14, Try.ntmps14
 go_upto_region 2 with (first | ((with_reducible refine gate_dst (N := 1) rfl ?_); refine box_event ?hg (N := 1) ?hd (cs := #[.int .i64 a0_0, .int .i64 a0_1, .slice A0_2 l0_2.length c0_2, .slice A0_3 l0_3.length c0_3]) (t := 25) ?hr ?_; (case hd => rfl); (case hg => rfl); (case hr => first | (go_simp; done) | (go_simp; rfl)); intro gb146 hg w3 hbox hb; have BK146 := Goto.m0 (hbox); have GW146 := Goto.gs HB hg; have GE146 := Goto.gs HB hg; replace HB := Goto.hs HB hb; clear hb hbox hg; have hcz4_0 := Goto.bc0 BK146; have hcz4_1 := Goto.bc1 BK146; have hcz4_2 := Goto.bc2 BK146; have hcz4_3 := Goto.bc3 BK146; have hfz4_0 := blk_frozen BK146.out 0; have hfz4_1 := blk_frozen BK146.out 1; have hfz4_2 := blk_frozen BK146.out 2; have hfz4_3 := blk_frozen BK146.out 3))
 (try simp only [Act.put, List.setIfInBounds_toArray, List.set_cons_zero, List.set_cons_succ])
 go_cut [25] (fun v25 wc => ∃ (kq : Nat) (x25_1 : Bool), v25 = .bool x25_1 ∧ Aside0 (tontineref1_IsConf.j0 kq (l0_3.length : Int) x25_1 a0_0 a0_1 l0_2 l0_3 = some r) ∧ Aside0 (kq ≤ k) ∧ Aside0 (wc.heap[gb146]? = some (.cells #[.int .i64 a0_0, .int .i64 a0_1, (.slice A0_2 l0_2.length c0_2), (.slice A0_3 l0_3.length c0_3)] 25 (0, 0))) ∧ Aside0 (Below w.heap.size w wc))
 case first =>
  have H := HC2.out; clear HC2
  replace H := Option.bind_eq_some_iff.mp H
  obtain ⟨t147, A50, H⟩ := H
  have A5 := Goto.m0 A50
  clear A50
  by_cases c6 : t147 = true
  ·
   subst c6
   rw [if_pos rfl] at H
   replace H := Option.bind_eq_some_iff.mp H
   obtain ⟨t148, A70, H⟩ := H
   have A7 := Goto.m0 A70
   clear A70
   by_cases c8 : t148 = true
   ·
    subst c8
    rw [if_pos rfl] at H
    replace H := Option.bind_eq_some_iff.mp H
    obtain ⟨t149, A90, H⟩ := H
    have A9 := Goto.m0 A90
    clear A90
    have H' := Goto.m0 H
    clear H; have hcz10_0 := Goto.bc0 BK146; have hcz10_1 := Goto.bc1 BK146; have hcz10_2 := Goto.bc2 BK146; have hcz10_3 := Goto.bc3 BK146; have hfz10_0 := blk_frozen BK146.out 0; have hfz10_1 := blk_frozen BK146.out 1; have hfz10_2 := blk_frozen BK146.out 2; have hfz10_3 := blk_frozen BK146.out 3
    go_wp2_with (first | ((with_reducible refine gate_callee (f := 41) rfl ?_); refine goesL_ (some 13) rfl rfl Try.func41 (by kernel_rfl) rfl #[.int .i64 a0_0, .int .i64 1, .int .i64 64] rfl (by (try simp only [List.map_toArray, List.map_cons, List.map_nil]); first | done | rfl | (simp only [List.length_drop, List.length_take]; rfl)) ?_; (with_reducible refine (tontineref1_within.calls a0_0 1 64 true _ A5.out).mono ?_); rintro e w' ⟨rfl, ⟨nd, rfl⟩⟩; refine ⟨_, rfl, ?_⟩) | (go_at_call 41; (with_reducible refine (tontineref1_within.calls a0_1 1 8 true _ A7.out).mono ?_); rintro e w' ⟨rfl, ⟨nd, rfl⟩⟩) | (go_at_call 41; (with_reducible refine (tontineref1_within.calls (l0_3.length : Int) 1 6 t149 _ A9.out).mono ?_); rintro e w' ⟨rfl, ⟨nd, rfl⟩⟩))
    go_meet
    case rel => exact ⟨_, (!t149), (by first | rfl | (simp; done) | (simp [*]; done)), H', ⟨by first | omega | exact Nat.le_refl _⟩, ⟨Goto.bx BK146⟩, ⟨Goto.hx HB⟩⟩
   ·
    replace c8 := Bool.eq_false_iff.mpr c8
    subst c8
    rw [if_neg (show ¬ (false = true) by decide)] at H
    have H' := Goto.m0 H
    clear H; have hcz11_0 := Goto.bc0 BK146; have hcz11_1 := Goto.bc1 BK146; have hcz11_2 := Goto.bc2 BK146; have hcz11_3 := Goto.bc3 BK146; have hfz11_0 := blk_frozen BK146.out 0; have hfz11_1 := blk_frozen BK146.out 1; have hfz11_2 := blk_frozen BK146.out 2; have hfz11_3 := blk_frozen BK146.out 3
    go_wp2_with (first | ((with_reducible refine gate_callee (f := 41) rfl ?_); refine goesL_ (some 13) rfl rfl Try.func41 (by kernel_rfl) rfl #[.int .i64 a0_0, .int .i64 1, .int .i64 64] rfl (by (try simp only [List.map_toArray, List.map_cons, List.map_nil]); first | done | rfl | (simp only [List.length_drop, List.length_take]; rfl)) ?_; (with_reducible refine (tontineref1_within.calls a0_0 1 64 true _ A5.out).mono ?_); rintro e w' ⟨rfl, ⟨nd, rfl⟩⟩; refine ⟨_, rfl, ?_⟩) | (go_at_call 41; (with_reducible refine (tontineref1_within.calls a0_1 1 8 false _ A7.out).mono ?_); rintro e w' ⟨rfl, ⟨nd, rfl⟩⟩))
    go_meet
    case rel => exact ⟨_, (true), (by first | rfl | (simp; done) | (simp [*]; done)), H', ⟨by first | omega | exact Nat.le_refl _⟩, ⟨Goto.bx BK146⟩, ⟨Goto.hx HB⟩⟩
  ·
   replace c6 := Bool.eq_false_iff.mpr c6
   subst c6
   rw [if_neg (show ¬ (false = true) by decide)] at H
   have H' := Goto.m0 H
   clear H; have hcz12_0 := Goto.bc0 BK146; have hcz12_1 := Goto.bc1 BK146; have hcz12_2 := Goto.bc2 BK146; have hcz12_3 := Goto.bc3 BK146; have hfz12_0 := blk_frozen BK146.out 0; have hfz12_1 := blk_frozen BK146.out 1; have hfz12_2 := blk_frozen BK146.out 2; have hfz12_3 := blk_frozen BK146.out 3
   go_wp2_with (first | ((with_reducible refine gate_callee (f := 41) rfl ?_); refine goesL_ (some 13) rfl rfl Try.func41 (by kernel_rfl) rfl #[.int .i64 a0_0, .int .i64 1, .int .i64 64] rfl (by (try simp only [List.map_toArray, List.map_cons, List.map_nil]); first | done | rfl | (simp only [List.length_drop, List.length_take]; rfl)) ?_; (with_reducible refine (tontineref1_within.calls a0_0 1 64 false _ A5.out).mono ?_); rintro e w' ⟨rfl, ⟨nd, rfl⟩⟩; refine ⟨_, rfl, ?_⟩))
   go_meet
   case rel => exact ⟨_, (true), (by first | rfl | (simp; done) | (simp [*]; done)), H', ⟨by first | omega | exact Nat.le_refl _⟩, ⟨Goto.bx BK146⟩, ⟨Goto.hx HB⟩⟩
 case rest =>
  clear HC2; try clear c1; try clear p2; try clear c4; try clear c6; try clear c8; try clear hcz10_0; try clear hcz10_1; try clear hcz10_2; try clear hcz10_3; try clear hcz11_0; try clear hcz11_1; try clear hcz11_2; try clear hcz11_3; try clear hcz12_0; try clear hcz12_1; try clear hcz12_2; try clear hcz12_3; try clear hcz4_0; try clear hcz4_1; try clear hcz4_2; try clear hcz4_3; try clear hfz10_0; try clear hfz10_1; try clear hfz10_2; try clear hfz10_3; try clear hfz11_0; try clear hfz11_1; try clear hfz11_2; try clear hfz11_3; try clear hfz12_0; try clear hfz12_1; try clear hfz12_2; try clear hfz12_3; try clear hfz4_0; try clear hfz4_1; try clear hfz4_2; try clear hfz4_3
  obtain ⟨kq, x25_1, rfl, HA, HJ1, BK146, HB⟩ := hcut
  cases kq with
  | zero => exact absurd HA.out (by simp [tontineref1_IsConf.j0])
  | succ kj1 =>
   have H := HA.out; clear HA
   simp only [tontineref1_IsConf.j0] at H
   by_cases c13 : x25_1 = true
   ·
    subst c13
    rw [if_pos rfl] at H
    obtain rfl := Option.some.inj H
    go_wp2
    go_ret
    exact ⟨by first | rfl | (simp [errW_none, errW_some] <;> rfl) | (simp [*, errW_none, errW_some] <;> rfl), by repeat (first | (with_reducible first | exact HB.out | apply below_alloc | apply pw_below_drewN | apply below_drew1 | refine below_set ?_ GE146.out) | exact HB.out)⟩
   ·
    replace c13 := Bool.eq_false_iff.mpr c13
    subst c13
    rw [if_neg (show ¬ (false = true) by decide)] at H
    have H' := Goto.m0 H
    clear H
    go_wp2
    go_loopg [4] kj1 (fun kq v4 w' => ∃ (x4_2 : Int), v4 = .int .i64 x4_2 ∧ Aside0 (tontineref1_IsConf.l0 kq (l0_3.length : Int) x4_2 a0_0 a0_1 l0_2 l0_3 = some r) ∧ Aside0 (kq ≤ kj1) ∧ Aside0 (w'.heap[gb146]? = some (.cells #[.int .i64 a0_0, .int .i64 a0_1, (.slice A0_2 l0_2.length c0_2), (.slice A0_3 l0_3.length c0_3)] 25 (0, 0))) ∧ Aside0 (Below w.heap.size w w'))
    case atStart => exact ⟨(0), (by first | rfl | (simp; done) | (simp [*]; done)), H', ⟨Nat.le_refl _⟩, ⟨Goto.bx BK146⟩, ⟨Goto.hx HB⟩⟩
    case round =>
     clear H'
     try clear c1; try clear p2; try clear c4; try clear c6; try clear c8; try clear c13; try clear hcz10_0; try clear hcz10_1; try clear hcz10_2; try clear hcz10_3; try clear hcz11_0; try clear hcz11_1; try clear hcz11_2; try clear hcz11_3; try clear hcz12_0; try clear hcz12_1; try clear hcz12_2; try clear hcz12_3; try clear hcz4_0; try clear hcz4_1; try clear hcz4_2; try clear hcz4_3; try clear hfz10_0; try clear hfz10_1; try clear hfz10_2; try clear hfz10_3; try clear hfz11_0; try clear hfz11_1; try clear hfz11_2; try clear hfz11_3; try clear hfz12_0; try clear hfz12_1; try clear hfz12_2; try clear hfz12_3; try clear hfz4_0; try clear hfz4_1; try clear hfz4_2; try clear hfz4_3; try clear p2
     obtain ⟨x4_2, rfl, HA, HK2, BK146, HB⟩ := hrel
     cases gk with
     | zero => exact absurd HA.out (by simp [tontineref1_IsConf.l0])
     | succ k2 =>
      have H := HA.out; clear HA
      simp only [tontineref1_IsConf.l0] at H
      by_cases c14 : x4_2 < (l0_3.length : Int)
      ·
       rw [if_pos c14] at H
       have c14b0 : decide (x4_2 < (l0_3.length : Int)) = true := decide_eq_true c14
       clear c14
       by_cases c15 : 0 ≤ x4_2
       ·
        rw [if_pos c15] at H
        have c15b0 : decide (0 ≤ x4_2) = true := decide_eq_true c15
        clear c15
        by_cases c16 : x4_2 < (l0_3.length : Int)
        ·
         rw [if_pos c16] at H
         have c16b0 : decide (x4_2 < (l0_3.length : Int)) = true := decide_eq_true c16
         clear c16
         replace H := Option.bind_eq_some_iff.mp H
         obtain ⟨t151, A170, H⟩ := H
         have A17 := Goto.m0 A170
         clear A170
         by_cases c18 : t151 = true
         ·
          subst c18
          rw [if_pos rfl] at H
          have H' := Goto.m0 H
          clear H; have hcz19_0 := Goto.bc0 BK146; have hcz19_1 := Goto.bc1 BK146; have hcz19_2 := Goto.bc2 BK146; have hcz19_3 := Goto.bc3 BK146; have hfz19_0 := blk_frozen BK146.out 0; have hfz19_1 := blk_frozen BK146.out 1; have hfz19_2 := blk_frozen BK146.out 2; have hfz19_3 := blk_frozen BK146.out 3
          have p150 : 0 ≤ (x4_2 : Int) := of_decide_eq_true (by first | (with_reducible assumption) | assumption)
          have q150 : x4_2 < (l0_3.length : Int) := of_decide_eq_true (by first | (with_reducible assumption) | assumption)
          obtain ⟨ad150, A150_2, c150_2, A150_3, c150_3, e150, hx150_0, hx150_1, hx150_2, hx150_3, hx150_4, hx150_5, hx150_6, hx150_7, hx150_8, hx150_9, hl150_2, hi150_2, hl150_3, hi150_3⟩ := at_T44 HR0_3.out x4_2 p150 q150
          cases e150
          replace hx150_0 := Goto.kc HB.out hx150_0
          replace hx150_1 := Goto.kc HB.out hx150_1
          replace hx150_2 := Goto.kc HB.out hx150_2
          replace hx150_3 := Goto.kc HB.out hx150_3
          replace hx150_4 := Goto.kc HB.out hx150_4
          replace hx150_5 := Goto.kc HB.out hx150_5
          replace hx150_6 := Goto.kc HB.out hx150_6
          replace hx150_7 := Goto.kc HB.out hx150_7
          replace hx150_8 := Goto.kc HB.out hx150_8
          replace hx150_9 := Goto.kc HB.out hx150_9
          have HR150_2 := Goto.m0 hi150_2
          have HC150_2 := Goto.m0 hl150_2
          clear hi150_2 hl150_2
          have HR150_3 := Goto.m0 hi150_3
          have HC150_3 := Goto.m0 hl150_3
          clear hi150_3 hl150_3; replace p150 := eq_true p150; replace q150 := eq_true q150
          go_wp2_with (first | ((with_reducible refine gate_callee (f := 42) rfl ?_); refine goesL_ (some 37) rfl rfl Try.func42 (by kernel_rfl) rfl #[.agg #[.int .i64 ((rd_T44 l0_3 x4_2).f0.f0), .int .u64 ((rd_T44 l0_3 x4_2).f0.f1)]] rfl (by (try simp only [List.map_toArray, List.map_cons, List.map_nil]); first | done | rfl | (simp only [List.length_drop, List.length_take]; rfl)) ?_; (with_reducible refine (tontineref1_IsLabel.calls ((rd_T44 l0_3 x4_2).f0.f0) ((rd_T44 l0_3 x4_2).f0.f1) true _ A17.out).mono ?_); rintro e w20 ⟨rfl, hb⟩; refine ⟨_, rfl, ?_⟩; replace BK146 := Goto.bb BK146 hb; replace HB := Goto.hs HB hb; (try clear hb); (try clear hb2); (try clear hk); (try clear hi)))
          go_roundg k2
          case measure => have := HJ1.out; have := HK2.out; omega
          case rel => exact ⟨(wrap64 (x4_2 + 1)), (by first | rfl | (simp; done) | (simp [*]; done)), H', ⟨by have := HJ1.out; have := HK2.out; omega⟩, ⟨Goto.bx BK146⟩, ⟨Goto.hx HB⟩⟩
         ·
          replace c18 := Bool.eq_false_iff.mpr c18
          subst c18
          rw [if_neg (show ¬ (false = true) by decide)] at H
          obtain rfl := Option.some.inj H
          have hcz21_0 := Goto.bc0 BK146; have hcz21_1 := Goto.bc1 BK146; have hcz21_2 := Goto.bc2 BK146; have hcz21_3 := Goto.bc3 BK146; have hfz21_0 := blk_frozen BK146.out 0; have hfz21_1 := blk_frozen BK146.out 1; have hfz21_2 := blk_frozen BK146.out 2; have hfz21_3 := blk_frozen BK146.out 3
          have p150 : 0 ≤ (x4_2 : Int) := of_decide_eq_true (by first | (with_reducible assumption) | assumption)
          have q150 : x4_2 < (l0_3.length : Int) := of_decide_eq_true (by first | (with_reducible assumption) | assumption)
          obtain ⟨ad150, A150_2, c150_2, A150_3, c150_3, e150, hx150_0, hx150_1, hx150_2, hx150_3, hx150_4, hx150_5, hx150_6, hx150_7, hx150_8, hx150_9, hl150_2, hi150_2, hl150_3, hi150_3⟩ := at_T44 HR0_3.out x4_2 p150 q150
          cases e150
          replace hx150_0 := Goto.kc HB.out hx150_0
          replace hx150_1 := Goto.kc HB.out hx150_1
          replace hx150_2 := Goto.kc HB.out hx150_2
          replace hx150_3 := Goto.kc HB.out hx150_3
          replace hx150_4 := Goto.kc HB.out hx150_4
          replace hx150_5 := Goto.kc HB.out hx150_5
          replace hx150_6 := Goto.kc HB.out hx150_6
          replace hx150_7 := Goto.kc HB.out hx150_7
          replace hx150_8 := Goto.kc HB.out hx150_8
          replace hx150_9 := Goto.kc HB.out hx150_9
          have HR150_2 := Goto.m0 hi150_2
          have HC150_2 := Goto.m0 hl150_2
          clear hi150_2 hl150_2
          have HR150_3 := Goto.m0 hi150_3
          have HC150_3 := Goto.m0 hl150_3
          clear hi150_3 hl150_3; replace p150 := eq_true p150; replace q150 := eq_true q150
          go_wp2_with (first | ((with_reducible refine gate_callee (f := 42) rfl ?_); refine goesL_ (some 37) rfl rfl Try.func42 (by kernel_rfl) rfl #[.agg #[.int .i64 ((rd_T44 l0_3 x4_2).f0.f0), .int .u64 ((rd_T44 l0_3 x4_2).f0.f1)]] rfl (by (try simp only [List.map_toArray, List.map_cons, List.map_nil]); first | done | rfl | (simp only [List.length_drop, List.length_take]; rfl)) ?_; (with_reducible refine (tontineref1_IsLabel.calls ((rd_T44 l0_3 x4_2).f0.f0) ((rd_T44 l0_3 x4_2).f0.f1) false _ A17.out).mono ?_); rintro e w22 ⟨rfl, hb⟩; refine ⟨_, rfl, ?_⟩; replace BK146 := Goto.bb BK146 hb; replace HB := Goto.hs HB hb; (try clear hb); (try clear hb2); (try clear hk); (try clear hi)))
          go_ret
          exact ⟨by first | rfl | (simp [errW_none, errW_some] <;> rfl) | (simp [*, errW_none, errW_some] <;> rfl), by repeat (first | (with_reducible first | exact HB.out | apply below_alloc | apply pw_below_drewN | apply below_drew1 | refine below_set ?_ GE146.out) | exact HB.out)⟩
        ·
         rw [if_neg c16] at H
         exact absurd H (by simp)
       ·
        rw [if_neg c15] at H
        exact absurd H (by simp)
      ·
       rw [if_neg c14] at H
       have c14b0 : decide (x4_2 < (l0_3.length : Int)) = false := decide_eq_false c14
       clear c14
       replace H := Option.bind_eq_some_iff.mp H
       obtain ⟨t152, A230, H⟩ := H
       have A23 := Goto.m0 A230
       clear A230
       by_cases c24 : t152 = true
       ·
        subst c24
        rw [if_pos rfl] at H
        have H' := Goto.m0 H
        clear H; have hcz25_0 := Goto.bc0 BK146; have hcz25_1 := Goto.bc1 BK146; have hcz25_2 := Goto.bc2 BK146; have hcz25_3 := Goto.bc3 BK146; have hfz25_0 := blk_frozen BK146.out 0; have hfz25_1 := blk_frozen BK146.out 1; have hfz25_2 := blk_frozen BK146.out 2; have hfz25_3 := blk_frozen BK146.out 3
        go_wp2_with (first | ((with_reducible refine gate_callee (f := 43) rfl ?_); refine goesL_ (some 40) rfl rfl Try.func43 (by kernel_rfl) rfl #[.agg #[.int .i64 a0_0, .int .i64 a0_1, .slice A0_2 l0_2.length c0_2, .slice A0_3 l0_3.length c0_3]] rfl (by (try simp only [List.map_toArray, List.map_cons, List.map_nil]); first | done | rfl | (simp only [List.length_drop, List.length_take]; rfl)) ?_; (with_reducible refine (tontineref1_shares.calls k2 a0_0 a0_1 _ _ l0_2 _ _ l0_3 true _ ?side1 ?side2 ?side3 ?side4 A23.out).mono ?_); (case side1 => repeat (first | exact (Kd.C_below HR0_2.out HB.out) | (with_reducible refine Kd.C_alloc ?_ _) | (with_reducible refine Kd.C_drewN ?_ _) | (with_reducible refine Kd.C_drew ?_))); (case side2 => exact HC0_2.out); (case side3 => repeat (first | exact (Kd.C_below HR0_3.out HB.out) | (with_reducible refine Kd.C_alloc ?_ _) | (with_reducible refine Kd.C_drewN ?_ _) | (with_reducible refine Kd.C_drew ?_))); (case side4 => exact HC0_3.out); rintro e w26 ⟨rfl, hb⟩; refine ⟨_, rfl, ?_⟩; replace BK146 := Goto.bb BK146 hb; replace HB := Goto.hs HB hb; (try clear hb); (try clear hb2); (try clear hk); (try clear hi)))
        go_loopg [5] k2 (fun kq v5 w' => ∃ (x5_3 : Int), v5 = .int .i64 x5_3 ∧ Aside0 (tontineref1_IsConf.l1 kq (l0_3.length : Int) x5_3 a0_0 a0_1 l0_2 l0_3 = some r) ∧ Aside0 (kq ≤ k2) ∧ Aside0 (w'.heap[gb146]? = some (.cells #[.int .i64 a0_0, .int .i64 a0_1, (.slice A0_2 l0_2.length c0_2), (.slice A0_3 l0_3.length c0_3)] 25 (0, 0))) ∧ Aside0 (Below w.heap.size w w'))
        case atStart => exact ⟨(0), (by first | rfl | (simp; done) | (simp [*]; done)), H', ⟨Nat.le_refl _⟩, ⟨Goto.bx BK146⟩, ⟨Goto.hx HB⟩⟩
        case round =>
         clear H'
         try clear c1; try clear p1; try clear q1; try clear hx1; try clear c2; try clear p2; try clear c4; try clear c6; try clear p6; try clear c8; try clear c13; try clear c14; try clear c14b0; try clear c15; try clear c15b0; try clear p15; try clear q15; try clear hx15; try clear c16; try clear c16b0; try clear c18; try clear c24; try clear hcz10_0; try clear hcz10_1; try clear hcz10_2; try clear hcz10_3; try clear hcz11_0; try clear hcz11_1; try clear hcz11_2; try clear hcz11_3; try clear hcz12_0; try clear hcz12_1; try clear hcz12_2; try clear hcz12_3; try clear hcz19_0; try clear hcz19_1; try clear hcz19_2; try clear hcz19_3; try clear hcz21_0; try clear hcz21_1; try clear hcz21_2; try clear hcz21_3; try clear hcz25_0; try clear hcz25_1; try clear hcz25_2; try clear hcz25_3; try clear hcz4_0; try clear hcz4_1; try clear hcz4_2; try clear hcz4_3; try clear hfz10_0; try clear hfz10_1; try clear hfz10_2; try clear hfz10_3; try clear hfz11_0; try clear hfz11_1; try clear hfz11_2; try clear hfz11_3; try clear hfz12_0; try clear hfz12_1; try clear hfz12_2; try clear hfz12_3; try clear hfz19_0; try clear hfz19_1; try clear hfz19_2; try clear hfz19_3; try clear hfz21_0; try clear hfz21_1; try clear hfz21_2; try clear hfz21_3; try clear hfz25_0; try clear hfz25_1; try clear hfz25_2; try clear hfz25_3; try clear hfz4_0; try clear hfz4_1; try clear hfz4_2; try clear hfz4_3; try clear hx150_0; try clear hx150_1; try clear hx150_2; try clear hx150_3; try clear hx150_4; try clear hx150_5; try clear hx150_6; try clear hx150_7; try clear hx150_8; try clear hx150_9; try clear p150; try clear p2; try clear q150
         obtain ⟨x5_3, rfl, HA, HK3, BK146, HB⟩ := hrel
         cases gk with
         | zero => exact absurd HA.out (by simp [tontineref1_IsConf.l1])
         | succ k3 =>
          have H := HA.out; clear HA
          simp only [tontineref1_IsConf.l1] at H
          by_cases c27 : x5_3 < (l0_3.length : Int)
          ·
           rw [if_pos c27] at H
           have c27b0 : decide (x5_3 < (l0_3.length : Int)) = true := decide_eq_true c27
           clear c27
           by_cases c28 : 0 ≤ x5_3
           ·
            rw [if_pos c28] at H
            have c28b0 : decide (0 ≤ x5_3) = true := decide_eq_true c28
            clear c28
            by_cases c29 : x5_3 < (l0_3.length : Int)
            ·
             rw [if_pos c29] at H
             have c29b0 : decide (x5_3 < (l0_3.length : Int)) = true := decide_eq_true c29
             clear c29
             have HC30 := Goto.m0 H
             clear H; have hcz31_0 := Goto.bc0 BK146; have hcz31_1 := Goto.bc1 BK146; have hcz31_2 := Goto.bc2 BK146; have hcz31_3 := Goto.bc3 BK146; have hfz31_0 := blk_frozen BK146.out 0; have hfz31_1 := blk_frozen BK146.out 1; have hfz31_2 := blk_frozen BK146.out 2; have hfz31_3 := blk_frozen BK146.out 3
             have p153 : 0 ≤ (x5_3 : Int) := of_decide_eq_true (by first | (with_reducible assumption) | assumption)
             have q153 : x5_3 < (l0_3.length : Int) := of_decide_eq_true (by first | (with_reducible assumption) | assumption)
             obtain ⟨ad153, A153_2, c153_2, A153_3, c153_3, e153, hx153_0, hx153_1, hx153_2, hx153_3, hx153_4, hx153_5, hx153_6, hx153_7, hx153_8, hx153_9, hl153_2, hi153_2, hl153_3, hi153_3⟩ := at_T44 HR0_3.out x5_3 p153 q153
             cases e153
             replace hx153_0 := Goto.kc HB.out hx153_0
             replace hx153_1 := Goto.kc HB.out hx153_1
             replace hx153_2 := Goto.kc HB.out hx153_2
             replace hx153_3 := Goto.kc HB.out hx153_3
             replace hx153_4 := Goto.kc HB.out hx153_4
             replace hx153_5 := Goto.kc HB.out hx153_5
             replace hx153_6 := Goto.kc HB.out hx153_6
             replace hx153_7 := Goto.kc HB.out hx153_7
             replace hx153_8 := Goto.kc HB.out hx153_8
             replace hx153_9 := Goto.kc HB.out hx153_9
             have HR153_2 := Goto.m0 hi153_2
             have HC153_2 := Goto.m0 hl153_2
             clear hi153_2 hl153_2
             have HR153_3 := Goto.m0 hi153_3
             have HC153_3 := Goto.m0 hl153_3
             clear hi153_3 hl153_3; replace p153 := eq_true p153; replace q153 := eq_true q153
             go_upto_region 15 with (first | ((with_reducible refine gate_dst (N := 6) rfl ?_); refine box_event ?hg (N := 6) ?hd (cs := #[.int .i64 0, .int .u64 0, .slice none 0 0, .slice none 0 0, .int .i64 0, .int .i64 0, .int .i64 0, .int .i64 0, .int .i64 0, .int .i64 0]) (t := 44) ?hr ?_; (case hd => rfl); (case hg => rfl); (case hr => first | (go_simp; done) | (go_simp; rfl)); intro gb154 hg w32 hbox hb; have BK154 := Goto.m0 (hbox); have GW154 := Goto.gs HB hg; have GE154 := Goto.gs HB hg; have NB146_154 := Goto.nl BK146 hg; have NB154_146 := Goto.nr BK146 hg; replace BK146 := Goto.bb BK146 hb; replace HB := Goto.hs HB hb; clear hb hbox hg; have hnb33 := NB154_146.out; have hnc33 := NB146_154.out; have hcz34_0 := Goto.bc0 BK154; have hcz34_1 := Goto.bc1 BK154; have hcz34_2 := Goto.bc2 BK154; have hcz34_3 := Goto.bc3 BK154; have hcz34_4 := Goto.bc4 BK154; have hcz34_5 := Goto.bc5 BK154; have hcz34_6 := Goto.bc6 BK154; have hcz34_7 := Goto.bc7 BK154; have hcz34_8 := Goto.bc8 BK154; have hcz34_9 := Goto.bc9 BK154; have hfz34_0 := blk_frozen BK154.out 0; have hfz34_1 := blk_frozen BK154.out 1; have hfz34_2 := blk_frozen BK154.out 2; have hfz34_3 := blk_frozen BK154.out 3; have hfz34_4 := blk_frozen BK154.out 4; have hfz34_5 := blk_frozen BK154.out 5; have hfz34_6 := blk_frozen BK154.out 6; have hfz34_7 := blk_frozen BK154.out 7; have hfz34_8 := blk_frozen BK154.out 8; have hfz34_9 := blk_frozen BK154.out 9))
             (try simp only [Act.put, List.setIfInBounds_toArray, List.set_cons_zero, List.set_cons_succ])
             go_cut [79] (fun v79 wc => ∃ (kq : Nat) (x79_29 : Bool), v79 = .bool x79_29 ∧ Aside0 (tontineref1_IsConf.j3 kq (l0_3.length : Int) x5_3 x79_29 a0_0 a0_1 l0_2 l0_3 = some r) ∧ Aside0 (kq ≤ k3) ∧ Aside0 (wc.heap[gb146]? = some (.cells #[.int .i64 a0_0, .int .i64 a0_1, (.slice A0_2 l0_2.length c0_2), (.slice (some ad153) l0_3.length c0_3)] 25 (0, 0))) ∧ Aside0 (wc.heap[gb154]? = some (.cells #[.int .i64 ((rd_T44 l0_3 x5_3).f0.f0), .int .u64 ((rd_T44 l0_3 x5_3).f0.f1), (.slice A153_2 ((rd_T44 l0_3 x5_3).f1).length c153_2), (.slice A153_3 ((rd_T44 l0_3 x5_3).f2).length c153_3), .int .i64 ((rd_T44 l0_3 x5_3).f3), .int .i64 ((rd_T44 l0_3 x5_3).f4), .int .i64 ((rd_T44 l0_3 x5_3).f5), .int .i64 ((rd_T44 l0_3 x5_3).f6), .int .i64 ((rd_T44 l0_3 x5_3).f7), .int .i64 ((rd_T44 l0_3 x5_3).f8)] 44 (0, 0))) ∧ Aside0 (Below w.heap.size w wc))
             case first =>
              have H := HC30.out; clear HC30
              replace H := Option.bind_eq_some_iff.mp H
              obtain ⟨t155, A350, H⟩ := H
              have A35 := Goto.m0 A350
              clear A350
              by_cases c36 : t155 = true
              ·
               subst c36
               rw [if_pos rfl] at H
               replace H := Option.bind_eq_some_iff.mp H
               obtain ⟨t156, A370, H⟩ := H
               have A37 := Goto.m0 A370
               clear A370
               by_cases c38 : t156 = true
               ·
                subst c38
                rw [if_pos rfl] at H
                replace H := Option.bind_eq_some_iff.mp H
                obtain ⟨t157, A390, H⟩ := H
                have A39 := Goto.m0 A390
                clear A390
                by_cases c40 : t157 = true
                ·
                 subst c40
                 rw [if_pos rfl] at H
                 replace H := Option.bind_eq_some_iff.mp H
                 obtain ⟨t158, A410, H⟩ := H
                 have A41 := Goto.m0 A410
                 clear A410
                 by_cases c42 : t158 = true
                 ·
                  subst c42
                  rw [if_pos rfl] at H
                  replace H := Option.bind_eq_some_iff.mp H
                  obtain ⟨t159, A430, H⟩ := H
                  have A43 := Goto.m0 A430
                  clear A430
                  have H' := Goto.m0 H
                  clear H; have hnb44 := NB154_146.out; have hnc44 := NB146_154.out; have hcz45_0 := Goto.bc0 BK154; have hcz45_1 := Goto.bc1 BK154; have hcz45_2 := Goto.bc2 BK154; have hcz45_3 := Goto.bc3 BK154; have hcz45_4 := Goto.bc4 BK154; have hcz45_5 := Goto.bc5 BK154; have hcz45_6 := Goto.bc6 BK154; have hcz45_7 := Goto.bc7 BK154; have hcz45_8 := Goto.bc8 BK154; have hcz45_9 := Goto.bc9 BK154; have hfz45_0 := blk_frozen BK154.out 0; have hfz45_1 := blk_frozen BK154.out 1; have hfz45_2 := blk_frozen BK154.out 2; have hfz45_3 := blk_frozen BK154.out 3; have hfz45_4 := blk_frozen BK154.out 4; have hfz45_5 := blk_frozen BK154.out 5; have hfz45_6 := blk_frozen BK154.out 6; have hfz45_7 := blk_frozen BK154.out 7; have hfz45_8 := blk_frozen BK154.out 8; have hfz45_9 := blk_frozen BK154.out 9
                  go_wp2_with (first | ((with_reducible refine gate_callee (f := 41) rfl ?_); refine goesL_ (some 54) rfl rfl Try.func41 (by kernel_rfl) rfl #[.int .i64 ((rd_T44 l0_3 x5_3).f4), .int .i64 1, .int .i64 8] rfl (by (try simp only [List.map_toArray, List.map_cons, List.map_nil]); first | done | rfl | (simp only [List.length_drop, List.length_take]; rfl)) ?_; (with_reducible refine (tontineref1_within.calls ((rd_T44 l0_3 x5_3).f4) 1 8 true _ A35.out).mono ?_); rintro e w' ⟨rfl, ⟨nd, rfl⟩⟩; refine ⟨_, rfl, ?_⟩) | (go_at_call 41; (with_reducible refine (tontineref1_within.calls ((rd_T44 l0_3 x5_3).f5) 0 4 true _ A37.out).mono ?_); rintro e w' ⟨rfl, ⟨nd, rfl⟩⟩) | (go_at_call 41; (with_reducible refine (tontineref1_within.calls ((rd_T44 l0_3 x5_3).f6) 1 16 true _ A39.out).mono ?_); rintro e w' ⟨rfl, ⟨nd, rfl⟩⟩) | (go_at_call 41; (with_reducible refine (tontineref1_within.calls ((rd_T44 l0_3 x5_3).f7) 0 8 true _ A41.out).mono ?_); rintro e w' ⟨rfl, ⟨nd, rfl⟩⟩) | (go_at_call 41; (with_reducible refine (tontineref1_within.calls ((rd_T44 l0_3 x5_3).f8) 1 8 t159 _ A43.out).mono ?_); rintro e w' ⟨rfl, ⟨nd, rfl⟩⟩))
                  go_meet
                  case rel => exact ⟨_, (!t159), (by first | rfl | (simp; done) | (simp [*]; done)), H', ⟨by have := HJ1.out; have := HK2.out; have := HK3.out; first | omega | exact Nat.le_refl _⟩, ⟨Goto.bx BK146⟩, ⟨Goto.bx BK154⟩, ⟨Goto.hx HB⟩⟩
                 ·
                  replace c42 := Bool.eq_false_iff.mpr c42
                  subst c42
                  rw [if_neg (show ¬ (false = true) by decide)] at H
                  have H' := Goto.m0 H
                  clear H; have hnb46 := NB154_146.out; have hnc46 := NB146_154.out; have hcz47_0 := Goto.bc0 BK154; have hcz47_1 := Goto.bc1 BK154; have hcz47_2 := Goto.bc2 BK154; have hcz47_3 := Goto.bc3 BK154; have hcz47_4 := Goto.bc4 BK154; have hcz47_5 := Goto.bc5 BK154; have hcz47_6 := Goto.bc6 BK154; have hcz47_7 := Goto.bc7 BK154; have hcz47_8 := Goto.bc8 BK154; have hcz47_9 := Goto.bc9 BK154; have hfz47_0 := blk_frozen BK154.out 0; have hfz47_1 := blk_frozen BK154.out 1; have hfz47_2 := blk_frozen BK154.out 2; have hfz47_3 := blk_frozen BK154.out 3; have hfz47_4 := blk_frozen BK154.out 4; have hfz47_5 := blk_frozen BK154.out 5; have hfz47_6 := blk_frozen BK154.out 6; have hfz47_7 := blk_frozen BK154.out 7; have hfz47_8 := blk_frozen BK154.out 8; have hfz47_9 := blk_frozen BK154.out 9
                  go_wp2_with (first | ((with_reducible refine gate_callee (f := 41) rfl ?_); refine goesL_ (some 54) rfl rfl Try.func41 (by kernel_rfl) rfl #[.int .i64 ((rd_T44 l0_3 x5_3).f4), .int .i64 1, .int .i64 8] rfl (by (try simp only [List.map_toArray, List.map_cons, List.map_nil]); first | done | rfl | (simp only [List.length_drop, List.length_take]; rfl)) ?_; (with_reducible refine (tontineref1_within.calls ((rd_T44 l0_3 x5_3).f4) 1 8 true _ A35.out).mono ?_); rintro e w' ⟨rfl, ⟨nd, rfl⟩⟩; refine ⟨_, rfl, ?_⟩) | (go_at_call 41; (with_reducible refine (tontineref1_within.calls ((rd_T44 l0_3 x5_3).f5) 0 4 true _ A37.out).mono ?_); rintro e w' ⟨rfl, ⟨nd, rfl⟩⟩) | (go_at_call 41; (with_reducible refine (tontineref1_within.calls ((rd_T44 l0_3 x5_3).f6) 1 16 true _ A39.out).mono ?_); rintro e w' ⟨rfl, ⟨nd, rfl⟩⟩) | (go_at_call 41; (with_reducible refine (tontineref1_within.calls ((rd_T44 l0_3 x5_3).f7) 0 8 false _ A41.out).mono ?_); rintro e w' ⟨rfl, ⟨nd, rfl⟩⟩))
                  go_meet
                  case rel => exact ⟨_, (true), (by first | rfl | (simp; done) | (simp [*]; done)), H', ⟨by have := HJ1.out; have := HK2.out; have := HK3.out; first | omega | exact Nat.le_refl _⟩, ⟨Goto.bx BK146⟩, ⟨Goto.bx BK154⟩, ⟨Goto.hx HB⟩⟩
                ·
                 replace c40 := Bool.eq_false_iff.mpr c40
                 subst c40
                 rw [if_neg (show ¬ (false = true) by decide)] at H
                 have H' := Goto.m0 H
                 clear H; have hnb48 := NB154_146.out; have hnc48 := NB146_154.out; have hcz49_0 := Goto.bc0 BK154; have hcz49_1 := Goto.bc1 BK154; have hcz49_2 := Goto.bc2 BK154; have hcz49_3 := Goto.bc3 BK154; have hcz49_4 := Goto.bc4 BK154; have hcz49_5 := Goto.bc5 BK154; have hcz49_6 := Goto.bc6 BK154; have hcz49_7 := Goto.bc7 BK154; have hcz49_8 := Goto.bc8 BK154; have hcz49_9 := Goto.bc9 BK154; have hfz49_0 := blk_frozen BK154.out 0; have hfz49_1 := blk_frozen BK154.out 1; have hfz49_2 := blk_frozen BK154.out 2; have hfz49_3 := blk_frozen BK154.out 3; have hfz49_4 := blk_frozen BK154.out 4; have hfz49_5 := blk_frozen BK154.out 5; have hfz49_6 := blk_frozen BK154.out 6; have hfz49_7 := blk_frozen BK154.out 7; have hfz49_8 := blk_frozen BK154.out 8; have hfz49_9 := blk_frozen BK154.out 9
                 go_wp2_with (first | ((with_reducible refine gate_callee (f := 41) rfl ?_); refine goesL_ (some 54) rfl rfl Try.func41 (by kernel_rfl) rfl #[.int .i64 ((rd_T44 l0_3 x5_3).f4), .int .i64 1, .int .i64 8] rfl (by (try simp only [List.map_toArray, List.map_cons, List.map_nil]); first | done | rfl | (simp only [List.length_drop, List.length_take]; rfl)) ?_; (with_reducible refine (tontineref1_within.calls ((rd_T44 l0_3 x5_3).f4) 1 8 true _ A35.out).mono ?_); rintro e w' ⟨rfl, ⟨nd, rfl⟩⟩; refine ⟨_, rfl, ?_⟩) | (go_at_call 41; (with_reducible refine (tontineref1_within.calls ((rd_T44 l0_3 x5_3).f5) 0 4 true _ A37.out).mono ?_); rintro e w' ⟨rfl, ⟨nd, rfl⟩⟩) | (go_at_call 41; (with_reducible refine (tontineref1_within.calls ((rd_T44 l0_3 x5_3).f6) 1 16 false _ A39.out).mono ?_); rintro e w' ⟨rfl, ⟨nd, rfl⟩⟩))
                 go_meet
                 case rel => exact ⟨_, (true), (by first | rfl | (simp; done) | (simp [*]; done)), H', ⟨by have := HJ1.out; have := HK2.out; have := HK3.out; first | omega | exact Nat.le_refl _⟩, ⟨Goto.bx BK146⟩, ⟨Goto.bx BK154⟩, ⟨Goto.hx HB⟩⟩
               ·
                replace c38 := Bool.eq_false_iff.mpr c38
                subst c38
                rw [if_neg (show ¬ (false = true) by decide)] at H
                have H' := Goto.m0 H
                clear H; have hnb50 := NB154_146.out; have hnc50 := NB146_154.out; have hcz51_0 := Goto.bc0 BK154; have hcz51_1 := Goto.bc1 BK154; have hcz51_2 := Goto.bc2 BK154; have hcz51_3 := Goto.bc3 BK154; have hcz51_4 := Goto.bc4 BK154; have hcz51_5 := Goto.bc5 BK154; have hcz51_6 := Goto.bc6 BK154; have hcz51_7 := Goto.bc7 BK154; have hcz51_8 := Goto.bc8 BK154; have hcz51_9 := Goto.bc9 BK154; have hfz51_0 := blk_frozen BK154.out 0; have hfz51_1 := blk_frozen BK154.out 1; have hfz51_2 := blk_frozen BK154.out 2; have hfz51_3 := blk_frozen BK154.out 3; have hfz51_4 := blk_frozen BK154.out 4; have hfz51_5 := blk_frozen BK154.out 5; have hfz51_6 := blk_frozen BK154.out 6; have hfz51_7 := blk_frozen BK154.out 7; have hfz51_8 := blk_frozen BK154.out 8; have hfz51_9 := blk_frozen BK154.out 9
                go_wp2_with (first | ((with_reducible refine gate_callee (f := 41) rfl ?_); refine goesL_ (some 54) rfl rfl Try.func41 (by kernel_rfl) rfl #[.int .i64 ((rd_T44 l0_3 x5_3).f4), .int .i64 1, .int .i64 8] rfl (by (try simp only [List.map_toArray, List.map_cons, List.map_nil]); first | done | rfl | (simp only [List.length_drop, List.length_take]; rfl)) ?_; (with_reducible refine (tontineref1_within.calls ((rd_T44 l0_3 x5_3).f4) 1 8 true _ A35.out).mono ?_); rintro e w' ⟨rfl, ⟨nd, rfl⟩⟩; refine ⟨_, rfl, ?_⟩) | (go_at_call 41; (with_reducible refine (tontineref1_within.calls ((rd_T44 l0_3 x5_3).f5) 0 4 false _ A37.out).mono ?_); rintro e w' ⟨rfl, ⟨nd, rfl⟩⟩))
                go_meet
                case rel => exact ⟨_, (true), (by first | rfl | (simp; done) | (simp [*]; done)), H', ⟨by have := HJ1.out; have := HK2.out; have := HK3.out; first | omega | exact Nat.le_refl _⟩, ⟨Goto.bx BK146⟩, ⟨Goto.bx BK154⟩, ⟨Goto.hx HB⟩⟩
              ·
               replace c36 := Bool.eq_false_iff.mpr c36
               subst c36
               rw [if_neg (show ¬ (false = true) by decide)] at H
               have H' := Goto.m0 H
               clear H; have hnb52 := NB154_146.out; have hnc52 := NB146_154.out; have hcz53_0 := Goto.bc0 BK154; have hcz53_1 := Goto.bc1 BK154; have hcz53_2 := Goto.bc2 BK154; have hcz53_3 := Goto.bc3 BK154; have hcz53_4 := Goto.bc4 BK154; have hcz53_5 := Goto.bc5 BK154; have hcz53_6 := Goto.bc6 BK154; have hcz53_7 := Goto.bc7 BK154; have hcz53_8 := Goto.bc8 BK154; have hcz53_9 := Goto.bc9 BK154; have hfz53_0 := blk_frozen BK154.out 0; have hfz53_1 := blk_frozen BK154.out 1; have hfz53_2 := blk_frozen BK154.out 2; have hfz53_3 := blk_frozen BK154.out 3; have hfz53_4 := blk_frozen BK154.out 4; have hfz53_5 := blk_frozen BK154.out 5; have hfz53_6 := blk_frozen BK154.out 6; have hfz53_7 := blk_frozen BK154.out 7; have hfz53_8 := blk_frozen BK154.out 8; have hfz53_9 := blk_frozen BK154.out 9
               go_wp2_with (first | ((with_reducible refine gate_callee (f := 41) rfl ?_); refine goesL_ (some 54) rfl rfl Try.func41 (by kernel_rfl) rfl #[.int .i64 ((rd_T44 l0_3 x5_3).f4), .int .i64 1, .int .i64 8] rfl (by (try simp only [List.map_toArray, List.map_cons, List.map_nil]); first | done | rfl | (simp only [List.length_drop, List.length_take]; rfl)) ?_; (with_reducible refine (tontineref1_within.calls ((rd_T44 l0_3 x5_3).f4) 1 8 false _ A35.out).mono ?_); rintro e w' ⟨rfl, ⟨nd, rfl⟩⟩; refine ⟨_, rfl, ?_⟩))
               go_meet
               case rel => exact ⟨_, (true), (by first | rfl | (simp; done) | (simp [*]; done)), H', ⟨by have := HJ1.out; have := HK2.out; have := HK3.out; first | omega | exact Nat.le_refl _⟩, ⟨Goto.bx BK146⟩, ⟨Goto.bx BK154⟩, ⟨Goto.hx HB⟩⟩
             case rest =>
              clear HC30; try clear c1; try clear p1; try clear q1; try clear hx1; try clear c2; try clear p2; try clear c3; try clear c4; try clear c5; try clear c6; try clear p6; try clear c8; try clear c13; try clear c14; try clear c14b0; try clear c15; try clear c15b0; try clear p15; try clear q15; try clear hx15; try clear c16; try clear c16b0; try clear c18; try clear c24; try clear c27; try clear c27b0; try clear c28; try clear c28b0; try clear c29; try clear c29b0; try clear c33; try clear c36; try clear c38; try clear c40; try clear c41; try clear c42; try clear c43; try clear c44; try clear c46; try clear c48; try clear c50; try clear c52; try clear hcz10_0; try clear hcz10_1; try clear hcz10_2; try clear hcz10_3; try clear hcz11_0; try clear hcz11_1; try clear hcz11_2; try clear hcz11_3; try clear hcz12_0; try clear hcz12_1; try clear hcz12_2; try clear hcz12_3; try clear hcz19_0; try clear hcz19_1; try clear hcz19_2; try clear hcz19_3; try clear hcz21_0; try clear hcz21_1; try clear hcz21_2; try clear hcz21_3; try clear hcz25_0; try clear hcz25_1; try clear hcz25_2; try clear hcz25_3; try clear hcz31_0; try clear hcz31_1; try clear hcz31_2; try clear hcz31_3; try clear hcz34_0; try clear hcz34_1; try clear hcz34_2; try clear hcz34_3; try clear hcz34_4; try clear hcz34_5; try clear hcz34_6; try clear hcz34_7; try clear hcz34_8; try clear hcz34_9; try clear hcz45_0; try clear hcz45_1; try clear hcz45_2; try clear hcz45_3; try clear hcz45_4; try clear hcz45_5; try clear hcz45_6; try clear hcz45_7; try clear hcz45_8; try clear hcz45_9; try clear hcz47_0; try clear hcz47_1; try clear hcz47_2; try clear hcz47_3; try clear hcz47_4; try clear hcz47_5; try clear hcz47_6; try clear hcz47_7; try clear hcz47_8; try clear hcz47_9; try clear hcz49_0; try clear hcz49_1; try clear hcz49_2; try clear hcz49_3; try clear hcz49_4; try clear hcz49_5; try clear hcz49_6; try clear hcz49_7; try clear hcz49_8; try clear hcz49_9; try clear hcz4_0; try clear hcz4_1; try clear hcz4_2; try clear hcz4_3; try clear hcz51_0; try clear hcz51_1; try clear hcz51_2; try clear hcz51_3; try clear hcz51_4; try clear hcz51_5; try clear hcz51_6; try clear hcz51_7; try clear hcz51_8; try clear hcz51_9; try clear hcz53_0; try clear hcz53_1; try clear hcz53_2; try clear hcz53_3; try clear hcz53_4; try clear hcz53_5; try clear hcz53_6; try clear hcz53_7; try clear hcz53_8; try clear hcz53_9; try clear hfz10_0; try clear hfz10_1; try clear hfz10_2; try clear hfz10_3; try clear hfz11_0; try clear hfz11_1; try clear hfz11_2; try clear hfz11_3; try clear hfz12_0; try clear hfz12_1; try clear hfz12_2; try clear hfz12_3; try clear hfz19_0; try clear hfz19_1; try clear hfz19_2; try clear hfz19_3; try clear hfz21_0; try clear hfz21_1; try clear hfz21_2; try clear hfz21_3; try clear hfz25_0; try clear hfz25_1; try clear hfz25_2; try clear hfz25_3; try clear hfz31_0; try clear hfz31_1; try clear hfz31_2; try clear hfz31_3; try clear hfz34_0; try clear hfz34_1; try clear hfz34_2; try clear hfz34_3; try clear hfz34_4; try clear hfz34_5; try clear hfz34_6; try clear hfz34_7; try clear hfz34_8; try clear hfz34_9; try clear hfz45_0; try clear hfz45_1; try clear hfz45_2; try clear hfz45_3; try clear hfz45_4; try clear hfz45_5; try clear hfz45_6; try clear hfz45_7; try clear hfz45_8; try clear hfz45_9; try clear hfz47_0; try clear hfz47_1; try clear hfz47_2; try clear hfz47_3; try clear hfz47_4; try clear hfz47_5; try clear hfz47_6; try clear hfz47_7; try clear hfz47_8; try clear hfz47_9; try clear hfz49_0; try clear hfz49_1; try clear hfz49_2; try clear hfz49_3; try clear hfz49_4; try clear hfz49_5; try clear hfz49_6; try clear hfz49_7; try clear hfz49_8; try clear hfz49_9; try clear hfz4_0; try clear hfz4_1; try clear hfz4_2; try clear hfz4_3; try clear hfz51_0; try clear hfz51_1; try clear hfz51_2; try clear hfz51_3; try clear hfz51_4; try clear hfz51_5; try clear hfz51_6; try clear hfz51_7; try clear hfz51_8; try clear hfz51_9; try clear hfz53_0; try clear hfz53_1; try clear hfz53_2
              try clear hfz53_3; try clear hfz53_4; try clear hfz53_5; try clear hfz53_6; try clear hfz53_7; try clear hfz53_8; try clear hfz53_9; try clear hx150_0; try clear hx150_1; try clear hx150_2; try clear hx150_3; try clear hx150_4; try clear hx150_5; try clear hx150_6; try clear hx150_7; try clear hx150_8; try clear hx150_9; try clear hx153_0; try clear hx153_1; try clear hx153_2; try clear hx153_3; try clear hx153_4; try clear hx153_5; try clear hx153_6; try clear hx153_7; try clear hx153_8; try clear hx153_9; try clear p1; try clear p15; try clear p150; try clear p153; try clear p2; try clear p6; try clear q1; try clear q15; try clear q150; try clear q153
              obtain ⟨kq, x79_29, rfl, HA, HJ29, BK146, BK154, HB⟩ := hcut
              cases kq with
              | zero => exact absurd HA.out (by simp [tontineref1_IsConf.j3])
              | succ kj29 =>
               have H := HA.out; clear HA
               simp only [tontineref1_IsConf.j3] at H
               by_cases c54 : x79_29 = true
               ·
                subst c54
                rw [if_pos rfl] at H
                obtain rfl := Option.some.inj H
                go_wp2
                go_ret
                exact ⟨by first | rfl | (simp [errW_none, errW_some] <;> rfl) | (simp [*, errW_none, errW_some] <;> rfl), by repeat (first | (with_reducible first | exact HB.out | apply below_alloc | apply pw_below_drewN | apply below_drew1 | refine below_set ?_ GE146.out | refine below_set ?_ GE154.out) | exact HB.out)⟩
               ·
                replace c54 := Bool.eq_false_iff.mpr c54
                subst c54
                rw [if_neg (show ¬ (false = true) by decide)] at H
                have H' := Goto.m0 H
                clear H
                go_wp2
                go_roundg kj29
                case measure => have := HJ1.out; have := HK2.out; have := HK3.out; have := HJ29.out; omega
                case rel => exact ⟨(wrap64 (x5_3 + 1)), (by first | rfl | (simp; done) | (simp [*]; done)), H', ⟨by have := HJ1.out; have := HK2.out; have := HK3.out; have := HJ29.out; omega⟩, ⟨Goto.bx BK146⟩, ⟨Goto.hx HB⟩⟩
            ·
             rw [if_neg c29] at H
             exact absurd H (by simp)
           ·
            rw [if_neg c28] at H
            exact absurd H (by simp)
          ·
           rw [if_neg c27] at H
           have c27b0 : decide (x5_3 < (l0_3.length : Int)) = false := decide_eq_false c27
           clear c27
           have H' := Goto.m0 H
           clear H
           go_wp2
           go_loopg [7] k3 (fun kq v7 w' => ∃ (x7_4 : Int), v7 = .int .i64 x7_4 ∧ Aside0 (tontineref1_IsConf.l2 kq (l0_3.length : Int) x7_4 a0_0 a0_1 l0_2 l0_3 = some r) ∧ Aside0 (kq ≤ k3) ∧ Aside0 (w'.heap[gb146]? = some (.cells #[.int .i64 a0_0, .int .i64 a0_1, (.slice A0_2 l0_2.length c0_2), (.slice A0_3 l0_3.length c0_3)] 25 (0, 0))) ∧ Aside0 (Below w.heap.size w w'))
           case atStart => exact ⟨(0), (by first | rfl | (simp; done) | (simp [*]; done)), H', ⟨Nat.le_refl _⟩, ⟨Goto.bx BK146⟩, ⟨Goto.hx HB⟩⟩
           case round =>
            clear H'
            try clear c1; try clear p1; try clear q1; try clear hx1; try clear c2; try clear p2; try clear c3; try clear c4; try clear c5; try clear c6; try clear p6; try clear c8; try clear c13; try clear c14; try clear c14b0; try clear c15; try clear c15b0; try clear p15; try clear q15; try clear hx15; try clear c16; try clear c16b0; try clear c18; try clear c24; try clear c27; try clear c27b0; try clear c28; try clear c28b0; try clear c29; try clear c29b0; try clear c33; try clear c36; try clear c38; try clear c40; try clear c41; try clear c42; try clear c43; try clear c44; try clear c46; try clear c48; try clear c50; try clear c52; try clear c54; try clear hcz10_0; try clear hcz10_1; try clear hcz10_2; try clear hcz10_3; try clear hcz11_0; try clear hcz11_1; try clear hcz11_2; try clear hcz11_3; try clear hcz12_0; try clear hcz12_1; try clear hcz12_2; try clear hcz12_3; try clear hcz19_0; try clear hcz19_1; try clear hcz19_2; try clear hcz19_3; try clear hcz21_0; try clear hcz21_1; try clear hcz21_2; try clear hcz21_3; try clear hcz25_0; try clear hcz25_1; try clear hcz25_2; try clear hcz25_3; try clear hcz31_0; try clear hcz31_1; try clear hcz31_2; try clear hcz31_3; try clear hcz34_0; try clear hcz34_1; try clear hcz34_2; try clear hcz34_3; try clear hcz34_4; try clear hcz34_5; try clear hcz34_6; try clear hcz34_7; try clear hcz34_8; try clear hcz34_9; try clear hcz45_0; try clear hcz45_1; try clear hcz45_2; try clear hcz45_3; try clear hcz45_4; try clear hcz45_5; try clear hcz45_6; try clear hcz45_7; try clear hcz45_8; try clear hcz45_9; try clear hcz47_0; try clear hcz47_1; try clear hcz47_2; try clear hcz47_3; try clear hcz47_4; try clear hcz47_5; try clear hcz47_6; try clear hcz47_7; try clear hcz47_8; try clear hcz47_9; try clear hcz49_0; try clear hcz49_1; try clear hcz49_2; try clear hcz49_3; try clear hcz49_4; try clear hcz49_5; try clear hcz49_6; try clear hcz49_7; try clear hcz49_8; try clear hcz49_9; try clear hcz4_0; try clear hcz4_1; try clear hcz4_2; try clear hcz4_3; try clear hcz51_0; try clear hcz51_1; try clear hcz51_2; try clear hcz51_3; try clear hcz51_4; try clear hcz51_5; try clear hcz51_6; try clear hcz51_7; try clear hcz51_8; try clear hcz51_9; try clear hcz53_0; try clear hcz53_1; try clear hcz53_2; try clear hcz53_3; try clear hcz53_4; try clear hcz53_5; try clear hcz53_6; try clear hcz53_7; try clear hcz53_8; try clear hcz53_9; try clear hfz10_0; try clear hfz10_1; try clear hfz10_2; try clear hfz10_3; try clear hfz11_0; try clear hfz11_1; try clear hfz11_2; try clear hfz11_3; try clear hfz12_0; try clear hfz12_1; try clear hfz12_2; try clear hfz12_3; try clear hfz19_0; try clear hfz19_1; try clear hfz19_2; try clear hfz19_3; try clear hfz21_0; try clear hfz21_1; try clear hfz21_2; try clear hfz21_3; try clear hfz25_0; try clear hfz25_1; try clear hfz25_2; try clear hfz25_3; try clear hfz31_0; try clear hfz31_1; try clear hfz31_2; try clear hfz31_3; try clear hfz34_0; try clear hfz34_1; try clear hfz34_2; try clear hfz34_3; try clear hfz34_4; try clear hfz34_5; try clear hfz34_6; try clear hfz34_7; try clear hfz34_8; try clear hfz34_9; try clear hfz45_0; try clear hfz45_1; try clear hfz45_2; try clear hfz45_3; try clear hfz45_4; try clear hfz45_5; try clear hfz45_6; try clear hfz45_7; try clear hfz45_8; try clear hfz45_9; try clear hfz47_0; try clear hfz47_1; try clear hfz47_2; try clear hfz47_3; try clear hfz47_4; try clear hfz47_5; try clear hfz47_6; try clear hfz47_7; try clear hfz47_8; try clear hfz47_9; try clear hfz49_0; try clear hfz49_1; try clear hfz49_2; try clear hfz49_3; try clear hfz49_4; try clear hfz49_5; try clear hfz49_6; try clear hfz49_7; try clear hfz49_8; try clear hfz49_9; try clear hfz4_0; try clear hfz4_1; try clear hfz4_2; try clear hfz4_3; try clear hfz51_0; try clear hfz51_1; try clear hfz51_2; try clear hfz51_3; try clear hfz51_4; try clear hfz51_5; try clear hfz51_6; try clear hfz51_7; try clear hfz51_8; try clear hfz51_9; try clear hfz53_0; try clear hfz53_1; try clear hfz53_2; try clear hfz53_3; try clear hfz53_4; try clear hfz53_5; try clear hfz53_6; try clear hfz53_7; try clear hfz53_8; try clear hfz53_9; try clear hx150_0; try clear hx150_1; try clear hx150_2; try clear hx150_3; try clear hx150_4; try clear hx150_5; try clear hx150_6; try clear hx150_7; try clear hx150_8; try clear hx150_9; try clear hx153_0; try clear hx153_1; try clear hx153_2; try clear hx153_3; try clear hx153_4; try clear hx153_5; try clear hx153_6; try clear hx153_7; try clear hx153_8; try clear hx153_9; try clear p1; try clear p15; try clear p150; try clear p153; try clear p2; try clear p6; try clear q1; try clear q15; try clear q150; try clear q153
            obtain ⟨x7_4, rfl, HA, HK4, BK146, HB⟩ := hrel
            cases gk with
            | zero => exact absurd HA.out (by simp [tontineref1_IsConf.l2])
            | succ k4 =>
             have H := HA.out; clear HA
             simp only [tontineref1_IsConf.l2] at H
             by_cases c55 : x7_4 < (l0_3.length : Int)
             ·
              rw [if_pos c55] at H
              have c55b0 : decide (x7_4 < (l0_3.length : Int)) = true := decide_eq_true c55
              clear c55
              replace H := Option.bind_eq_some_iff.mp H
              obtain ⟨t160, A560, H⟩ := H
              have A56 := Goto.m0 A560
              clear A560
              by_cases c57 : t160 = true
              ·
               subst c57
               rw [if_pos rfl] at H
               have H' := Goto.m0 H
               clear H; have hcz58_0 := Goto.bc0 BK146; have hcz58_1 := Goto.bc1 BK146; have hcz58_2 := Goto.bc2 BK146; have hcz58_3 := Goto.bc3 BK146; have hfz58_0 := blk_frozen BK146.out 0; have hfz58_1 := blk_frozen BK146.out 1; have hfz58_2 := blk_frozen BK146.out 2; have hfz58_3 := blk_frozen BK146.out 3
               go_wp2_with (first | ((with_reducible refine gate_callee (f := 44) rfl ?_); refine goesL_ (some 87) rfl rfl Try.func44 (by kernel_rfl) rfl #[.agg #[.int .i64 a0_0, .int .i64 a0_1, .slice A0_2 l0_2.length c0_2, .slice A0_3 l0_3.length c0_3], .int .i64 x7_4] rfl (by (try simp only [List.map_toArray, List.map_cons, List.map_nil]); first | done | rfl | (simp only [List.length_drop, List.length_take]; rfl)) ?_; (with_reducible refine (tontineref1_routes.calls k4 a0_0 a0_1 _ _ l0_2 _ _ l0_3 x7_4 true _ ?side1 ?side2 ?side3 ?side4 A56.out).mono ?_); (case side1 => repeat (first | exact (Kd.C_below HR0_2.out HB.out) | (with_reducible refine Kd.C_alloc ?_ _) | (with_reducible refine Kd.C_drewN ?_ _) | (with_reducible refine Kd.C_drew ?_))); (case side2 => exact HC0_2.out); (case side3 => repeat (first | exact (Kd.C_below HR0_3.out HB.out) | (with_reducible refine Kd.C_alloc ?_ _) | (with_reducible refine Kd.C_drewN ?_ _) | (with_reducible refine Kd.C_drew ?_))); (case side4 => exact HC0_3.out); rintro e w59 ⟨rfl, hb⟩; refine ⟨_, rfl, ?_⟩; replace BK146 := Goto.bb BK146 hb; replace HB := Goto.hs HB hb; (try clear hb); (try clear hb2); (try clear hk); (try clear hi)))
               go_roundg k4
               case measure => have := HJ1.out; have := HK2.out; have := HK3.out; have := HK4.out; omega
               case rel => exact ⟨(wrap64 (x7_4 + 1)), (by first | rfl | (simp; done) | (simp [*]; done)), H', ⟨by have := HJ1.out; have := HK2.out; have := HK3.out; have := HK4.out; omega⟩, ⟨Goto.bx BK146⟩, ⟨Goto.hx HB⟩⟩
              ·
               replace c57 := Bool.eq_false_iff.mpr c57
               subst c57
               rw [if_neg (show ¬ (false = true) by decide)] at H
               obtain rfl := Option.some.inj H
               have hcz60_0 := Goto.bc0 BK146; have hcz60_1 := Goto.bc1 BK146; have hcz60_2 := Goto.bc2 BK146; have hcz60_3 := Goto.bc3 BK146; have hfz60_0 := blk_frozen BK146.out 0; have hfz60_1 := blk_frozen BK146.out 1; have hfz60_2 := blk_frozen BK146.out 2; have hfz60_3 := blk_frozen BK146.out 3
               go_wp2_with (first | ((with_reducible refine gate_callee (f := 44) rfl ?_); refine goesL_ (some 87) rfl rfl Try.func44 (by kernel_rfl) rfl #[.agg #[.int .i64 a0_0, .int .i64 a0_1, .slice A0_2 l0_2.length c0_2, .slice A0_3 l0_3.length c0_3], .int .i64 x7_4] rfl (by (try simp only [List.map_toArray, List.map_cons, List.map_nil]); first | done | rfl | (simp only [List.length_drop, List.length_take]; rfl)) ?_; (with_reducible refine (tontineref1_routes.calls k4 a0_0 a0_1 _ _ l0_2 _ _ l0_3 x7_4 false _ ?side1 ?side2 ?side3 ?side4 A56.out).mono ?_); (case side1 => repeat (first | exact (Kd.C_below HR0_2.out HB.out) | (with_reducible refine Kd.C_alloc ?_ _) | (with_reducible refine Kd.C_drewN ?_ _) | (with_reducible refine Kd.C_drew ?_))); (case side2 => exact HC0_2.out); (case side3 => repeat (first | exact (Kd.C_below HR0_3.out HB.out) | (with_reducible refine Kd.C_alloc ?_ _) | (with_reducible refine Kd.C_drewN ?_ _) | (with_reducible refine Kd.C_drew ?_))); (case side4 => exact HC0_3.out); rintro e w61 ⟨rfl, hb⟩; refine ⟨_, rfl, ?_⟩; replace BK146 := Goto.bb BK146 hb; replace HB := Goto.hs HB hb; (try clear hb); (try clear hb2); (try clear hk); (try clear hi)))
               go_ret
               exact ⟨by first | rfl | (simp [errW_none, errW_some] <;> rfl) | (simp [*, errW_none, errW_some] <;> rfl), by repeat (first | (with_reducible first | exact HB.out | apply below_alloc | apply pw_below_drewN | apply below_drew1 | refine below_set ?_ GE146.out) | exact HB.out)⟩
             ·
              rw [if_neg c55] at H
              have c55b0 : decide (x7_4 < (l0_3.length : Int)) = false := decide_eq_false c55
              clear c55
              obtain rfl := Option.some.inj H
              go_wp2
              go_ret
              exact ⟨by first | rfl | (simp [errW_none, errW_some] <;> rfl) | (simp [*, errW_none, errW_some] <;> rfl), by repeat (first | (with_reducible first | exact HB.out | apply below_alloc | apply pw_below_drewN | apply below_drew1 | refine below_set ?_ GE146.out) | exact HB.out)⟩
       ·
        replace c24 := Bool.eq_false_iff.mpr c24
        subst c24
        rw [if_neg (show ¬ (false = true) by decide)] at H
        obtain rfl := Option.some.inj H
        have hcz62_0 := Goto.bc0 BK146; have hcz62_1 := Goto.bc1 BK146; have hcz62_2 := Goto.bc2 BK146; have hcz62_3 := Goto.bc3 BK146; have hfz62_0 := blk_frozen BK146.out 0; have hfz62_1 := blk_frozen BK146.out 1; have hfz62_2 := blk_frozen BK146.out 2; have hfz62_3 := blk_frozen BK146.out 3
        go_wp2_with (first | ((with_reducible refine gate_callee (f := 43) rfl ?_); refine goesL_ (some 40) rfl rfl Try.func43 (by kernel_rfl) rfl #[.agg #[.int .i64 a0_0, .int .i64 a0_1, .slice A0_2 l0_2.length c0_2, .slice A0_3 l0_3.length c0_3]] rfl (by (try simp only [List.map_toArray, List.map_cons, List.map_nil]); first | done | rfl | (simp only [List.length_drop, List.length_take]; rfl)) ?_; (with_reducible refine (tontineref1_shares.calls k2 a0_0 a0_1 _ _ l0_2 _ _ l0_3 false _ ?side1 ?side2 ?side3 ?side4 A23.out).mono ?_); (case side1 => repeat (first | exact (Kd.C_below HR0_2.out HB.out) | (with_reducible refine Kd.C_alloc ?_ _) | (with_reducible refine Kd.C_drewN ?_ _) | (with_reducible refine Kd.C_drew ?_))); (case side2 => exact HC0_2.out); (case side3 => repeat (first | exact (Kd.C_below HR0_3.out HB.out) | (with_reducible refine Kd.C_alloc ?_ _) | (with_reducible refine Kd.C_drewN ?_ _) | (with_reducible refine Kd.C_drew ?_))); (case side4 => exact HC0_3.out); rintro e w63 ⟨rfl, hb⟩; refine ⟨_, rfl, ?_⟩; replace BK146 := Goto.bb BK146 hb; replace HB := Goto.hs HB hb; (try clear hb); (try clear hb2); (try clear hk); (try clear hi)))
        go_ret
        exact ⟨by first | rfl | (simp [errW_none, errW_some] <;> rfl) | (simp [*, errW_none, errW_some] <;> rfl), by repeat (first | (with_reducible first | exact HB.out | apply below_alloc | apply pw_below_drewN | apply below_drew1 | refine below_set ?_ GE146.out) | exact HB.out)⟩

end Go.Proofs.Ytbhfkhcedjgpdaa.P
