/- Printed by a program of this workplace (a turned copy of the kit's optional print), out of the translation; not trusted: Lean checks it. -/
import Derived.Test.YtbhfkhcedjgpdaaDoorPx0
import Derived.Test.YtbhfkhcedjgpdaaDoorPx8
import Derived.Test.YtbhfkhcedjgpdaaDoorPx9
import Derived.Test.YtbhfkhcedjgpdaaDoorPx12
namespace Go.Proofs.YtbhfkhcedjgpdaaDoor.P
open Go.RowKit Go.Proofs.YtbhfkhcedjgpdaaDoorW.PrintWords Go.Proofs.YtbhfkhcedjgpdaaDoorW.PrintLast Go.Proofs.YtbhfkhcedjgpdaaDoorW.PrintMore
attribute [local go_sem] max2_int min2_int max_two min_two max_three min_three max_four min_four   -- for this text's walks alone
set_option linter.unusedVariables false
set_option linter.unusedSimpArgs false

/-! ### tontineref1_IsConf: function 7 -/
mutual
def tontineref1_IsConf.j0 : Nat → Int → Bool → Int → Int → List (List Int) → List (S60) → Option (Int)
  | 0, _, _, _, _, _, _ => none
  | k + 1, x3, x25, x235000, x235001, x235002, x235003 => if x25 = true then (some 10) else (tontineref1_IsConf.l0 k x3 0 x235000 x235001 x235002 x235003)
def tontineref1_IsConf.l0 : Nat → Int → Int → Int → Int → List (List Int) → List (S60) → Option (Int)
  | 0, _, _, _, _, _, _ => none
  | k + 1, x3, x4, x235000, x235001, x235002, x235003 => if x4 < x3 then (if 0 ≤ x4 then (if x4 < (x235003.length : Int) then ((tontineref1_IsLabel.f ((rd_T60 x235003 x4).f0.f0) ((rd_T60 x235003 x4).f0.f1)).bind fun t239 => (if t239 = true then (tontineref1_IsConf.l0 k x3 (wrap64 (x4 + 1)) x235000 x235001 x235002 x235003) else (some 10))) else (none)) else (none)) else ((tontineref1_shares.f k x235000 x235001 x235002 x235003).bind fun t240 => (if t240 = true then (tontineref1_IsConf.l1 k x3 0 x235000 x235001 x235002 x235003) else (some 18)))
def tontineref1_IsConf.l1 : Nat → Int → Int → Int → Int → List (List Int) → List (S60) → Option (Int)
  | 0, _, _, _, _, _, _ => none
  | k + 1, x3, x5, x235000, x235001, x235002, x235003 => if x5 < x3 then (if 0 ≤ x5 then (if x5 < (x235003.length : Int) then ((tontineref1_within.f ((rd_T60 x235003 x5).f4) 1 8).bind fun t243 => (if t243 = true then ((tontineref1_within.f ((rd_T60 x235003 x5).f5) 0 4).bind fun t244 => (if t244 = true then ((tontineref1_within.f ((rd_T60 x235003 x5).f6) 1 16).bind fun t245 => (if t245 = true then ((tontineref1_within.f ((rd_T60 x235003 x5).f7) 0 8).bind fun t246 => (if t246 = true then ((tontineref1_within.f ((rd_T60 x235003 x5).f8) 1 8).bind fun t247 => (tontineref1_IsConf.j3 k x3 x5 (!t247) x235000 x235001 x235002 x235003)) else (tontineref1_IsConf.j3 k x3 x5 true x235000 x235001 x235002 x235003))) else (tontineref1_IsConf.j3 k x3 x5 true x235000 x235001 x235002 x235003))) else (tontineref1_IsConf.j3 k x3 x5 true x235000 x235001 x235002 x235003))) else (tontineref1_IsConf.j3 k x3 x5 true x235000 x235001 x235002 x235003))) else (none)) else (none)) else (tontineref1_IsConf.l2 k x3 0 x235000 x235001 x235002 x235003)
def tontineref1_IsConf.j3 : Nat → Int → Int → Bool → Int → Int → List (List Int) → List (S60) → Option (Int)
  | 0, _, _, _, _, _, _, _ => none
  | k + 1, x3, x5, x79, x235000, x235001, x235002, x235003 => if x79 = true then (some 19) else (tontineref1_IsConf.l1 k x3 (wrap64 (x5 + 1)) x235000 x235001 x235002 x235003)
def tontineref1_IsConf.l2 : Nat → Int → Int → Int → Int → List (List Int) → List (S60) → Option (Int)
  | 0, _, _, _, _, _, _ => none
  | k + 1, x3, x7, x235000, x235001, x235002, x235003 => if x7 < x3 then ((tontineref1_routes.f k x235000 x235001 x235002 x235003 x7).bind fun t248 => (if t248 = true then (tontineref1_IsConf.l2 k x3 (wrap64 (x7 + 1)) x235000 x235001 x235002 x235003) else (some 17))) else (some 0)
end
def tontineref1_IsConf.f (k : Nat) (a0_0 : Int) (a0_1 : Int) (l0_2 : List (List Int)) (l0_3 : List (S60)) : Option (Int) := (tontineref1_within.f a0_0 1 64).bind fun t235 => (if t235 = true then ((tontineref1_within.f a0_1 1 8).bind fun t236 => (if t236 = true then ((tontineref1_within.f (l0_3.length : Int) 1 6).bind fun t237 => (tontineref1_IsConf.j0 k (l0_3.length : Int) (!t237) a0_0 a0_1 l0_2 l0_3)) else (tontineref1_IsConf.j0 k (l0_3.length : Int) true a0_0 a0_1 l0_2 l0_3))) else (tontineref1_IsConf.j0 k (l0_3.length : Int) true a0_0 a0_1 l0_2 l0_3))
theorem tontineref1_IsConf.mono_l : ∀ k, (∀ y0 y1 y2 y3 y4 y5, LeO (tontineref1_IsConf.j0 k y0 y1 y2 y3 y4 y5) (tontineref1_IsConf.j0 (k + 1) y0 y1 y2 y3 y4 y5)) ∧ (∀ y0 y1 y2 y3 y4 y5, LeO (tontineref1_IsConf.l0 k y0 y1 y2 y3 y4 y5) (tontineref1_IsConf.l0 (k + 1) y0 y1 y2 y3 y4 y5)) ∧ (∀ y0 y1 y2 y3 y4 y5, LeO (tontineref1_IsConf.l1 k y0 y1 y2 y3 y4 y5) (tontineref1_IsConf.l1 (k + 1) y0 y1 y2 y3 y4 y5)) ∧ (∀ y0 y1 y2 y3 y4 y5 y6, LeO (tontineref1_IsConf.j3 k y0 y1 y2 y3 y4 y5 y6) (tontineref1_IsConf.j3 (k + 1) y0 y1 y2 y3 y4 y5 y6)) ∧ (∀ y0 y1 y2 y3 y4 y5, LeO (tontineref1_IsConf.l2 k y0 y1 y2 y3 y4 y5) (tontineref1_IsConf.l2 (k + 1) y0 y1 y2 y3 y4 y5))
  | 0 => ⟨fun _ _ _ _ _ _ r h => by simp [tontineref1_IsConf.j0] at h, fun _ _ _ _ _ _ r h => by simp [tontineref1_IsConf.l0] at h, fun _ _ _ _ _ _ r h => by simp [tontineref1_IsConf.l1] at h, fun _ _ _ _ _ _ _ r h => by simp [tontineref1_IsConf.j3] at h, fun _ _ _ _ _ _ r h => by simp [tontineref1_IsConf.l2] at h⟩
  | k + 1 => by
    obtain ⟨ih0, ih1, ih2, ih3, ih4⟩ := tontineref1_IsConf.mono_l k
    refine ⟨?_, ?_, ?_, ?_, ?_⟩
    · intro y0 y1 y2 y3 y4 y5
      unfold tontineref1_IsConf.j0
      repeat' first
      | (with_reducible exact ih0 _ _ _ _ _ _)
      | (with_reducible exact ih1 _ _ _ _ _ _)
      | (with_reducible exact ih2 _ _ _ _ _ _)
      | (with_reducible exact ih3 _ _ _ _ _ _ _)
      | (with_reducible exact ih4 _ _ _ _ _ _)
      | (with_reducible exact tontineref1_routes.mono _ _ _ _ _ _)
      | (with_reducible exact tontineref1_shares.mono _ _ _ _ _)
      | (with_reducible exact LeO.refl _)
      | (with_reducible exact LeO.none _)
      | (with_reducible refine LeO.ite ?_ ?_)
      | (with_reducible refine LeO.bind ?_ (fun _ => ?_))
      | exact ih0 _ _ _ _ _ _
      | exact ih1 _ _ _ _ _ _
      | exact ih2 _ _ _ _ _ _
      | exact ih3 _ _ _ _ _ _ _
      | exact ih4 _ _ _ _ _ _
      | exact tontineref1_routes.mono _ _ _ _ _ _
      | exact tontineref1_shares.mono _ _ _ _ _
      | exact LeO.none _
      | refine LeO.ite ?_ ?_
      | refine LeO.bind ?_ (fun _ => ?_)
    · intro y0 y1 y2 y3 y4 y5
      unfold tontineref1_IsConf.l0
      repeat' first
      | (with_reducible exact ih0 _ _ _ _ _ _)
      | (with_reducible exact ih1 _ _ _ _ _ _)
      | (with_reducible exact ih2 _ _ _ _ _ _)
      | (with_reducible exact ih3 _ _ _ _ _ _ _)
      | (with_reducible exact ih4 _ _ _ _ _ _)
      | (with_reducible exact tontineref1_routes.mono _ _ _ _ _ _)
      | (with_reducible exact tontineref1_shares.mono _ _ _ _ _)
      | (with_reducible exact LeO.refl _)
      | (with_reducible exact LeO.none _)
      | (with_reducible refine LeO.ite ?_ ?_)
      | (with_reducible refine LeO.bind ?_ (fun _ => ?_))
      | exact ih0 _ _ _ _ _ _
      | exact ih1 _ _ _ _ _ _
      | exact ih2 _ _ _ _ _ _
      | exact ih3 _ _ _ _ _ _ _
      | exact ih4 _ _ _ _ _ _
      | exact tontineref1_routes.mono _ _ _ _ _ _
      | exact tontineref1_shares.mono _ _ _ _ _
      | exact LeO.none _
      | refine LeO.ite ?_ ?_
      | refine LeO.bind ?_ (fun _ => ?_)
    · intro y0 y1 y2 y3 y4 y5
      unfold tontineref1_IsConf.l1
      repeat' first
      | (with_reducible exact ih0 _ _ _ _ _ _)
      | (with_reducible exact ih1 _ _ _ _ _ _)
      | (with_reducible exact ih2 _ _ _ _ _ _)
      | (with_reducible exact ih3 _ _ _ _ _ _ _)
      | (with_reducible exact ih4 _ _ _ _ _ _)
      | (with_reducible exact tontineref1_routes.mono _ _ _ _ _ _)
      | (with_reducible exact tontineref1_shares.mono _ _ _ _ _)
      | (with_reducible exact LeO.refl _)
      | (with_reducible exact LeO.none _)
      | (with_reducible refine LeO.ite ?_ ?_)
      | (with_reducible refine LeO.bind ?_ (fun _ => ?_))
      | exact ih0 _ _ _ _ _ _
      | exact ih1 _ _ _ _ _ _
      | exact ih2 _ _ _ _ _ _
      | exact ih3 _ _ _ _ _ _ _
      | exact ih4 _ _ _ _ _ _
      | exact tontineref1_routes.mono _ _ _ _ _ _
      | exact tontineref1_shares.mono _ _ _ _ _
      | exact LeO.none _
      | refine LeO.ite ?_ ?_
      | refine LeO.bind ?_ (fun _ => ?_)
    · intro y0 y1 y2 y3 y4 y5 y6
      unfold tontineref1_IsConf.j3
      repeat' first
      | (with_reducible exact ih0 _ _ _ _ _ _)
      | (with_reducible exact ih1 _ _ _ _ _ _)
      | (with_reducible exact ih2 _ _ _ _ _ _)
      | (with_reducible exact ih3 _ _ _ _ _ _ _)
      | (with_reducible exact ih4 _ _ _ _ _ _)
      | (with_reducible exact tontineref1_routes.mono _ _ _ _ _ _)
      | (with_reducible exact tontineref1_shares.mono _ _ _ _ _)
      | (with_reducible exact LeO.refl _)
      | (with_reducible exact LeO.none _)
      | (with_reducible refine LeO.ite ?_ ?_)
      | (with_reducible refine LeO.bind ?_ (fun _ => ?_))
      | exact ih0 _ _ _ _ _ _
      | exact ih1 _ _ _ _ _ _
      | exact ih2 _ _ _ _ _ _
      | exact ih3 _ _ _ _ _ _ _
      | exact ih4 _ _ _ _ _ _
      | exact tontineref1_routes.mono _ _ _ _ _ _
      | exact tontineref1_shares.mono _ _ _ _ _
      | exact LeO.none _
      | refine LeO.ite ?_ ?_
      | refine LeO.bind ?_ (fun _ => ?_)
    · intro y0 y1 y2 y3 y4 y5
      unfold tontineref1_IsConf.l2
      repeat' first
      | (with_reducible exact ih0 _ _ _ _ _ _)
      | (with_reducible exact ih1 _ _ _ _ _ _)
      | (with_reducible exact ih2 _ _ _ _ _ _)
      | (with_reducible exact ih3 _ _ _ _ _ _ _)
      | (with_reducible exact ih4 _ _ _ _ _ _)
      | (with_reducible exact tontineref1_routes.mono _ _ _ _ _ _)
      | (with_reducible exact tontineref1_shares.mono _ _ _ _ _)
      | (with_reducible exact LeO.refl _)
      | (with_reducible exact LeO.none _)
      | (with_reducible refine LeO.ite ?_ ?_)
      | (with_reducible refine LeO.bind ?_ (fun _ => ?_))
      | exact ih0 _ _ _ _ _ _
      | exact ih1 _ _ _ _ _ _
      | exact ih2 _ _ _ _ _ _
      | exact ih3 _ _ _ _ _ _ _
      | exact ih4 _ _ _ _ _ _
      | exact tontineref1_routes.mono _ _ _ _ _ _
      | exact tontineref1_shares.mono _ _ _ _ _
      | exact LeO.none _
      | refine LeO.ite ?_ ?_
      | refine LeO.bind ?_ (fun _ => ?_)
theorem tontineref1_IsConf.mono : ∀ a0 a1 a2 a3 k, LeO (tontineref1_IsConf.f k a0 a1 a2 a3) (tontineref1_IsConf.f (k + 1) a0 a1 a2 a3) := by
 intro a0 a1 a2 a3 k
 obtain ⟨ih0, ih1, ih2, ih3, ih4⟩ := tontineref1_IsConf.mono_l k
 unfold tontineref1_IsConf.f
 repeat' first
   | (with_reducible exact ih0 _ _ _ _ _ _)
   | (with_reducible exact ih1 _ _ _ _ _ _)
   | (with_reducible exact ih2 _ _ _ _ _ _)
   | (with_reducible exact ih3 _ _ _ _ _ _ _)
   | (with_reducible exact ih4 _ _ _ _ _ _)
   | (with_reducible exact tontineref1_routes.mono _ _ _ _ _ _)
   | (with_reducible exact tontineref1_shares.mono _ _ _ _ _)
   | (with_reducible exact LeO.refl _)
   | (with_reducible exact LeO.none _)
   | (with_reducible refine LeO.ite ?_ ?_)
   | (with_reducible refine LeO.bind ?_ (fun _ => ?_))
   | exact ih0 _ _ _ _ _ _
   | exact ih1 _ _ _ _ _ _
   | exact ih2 _ _ _ _ _ _
   | exact ih3 _ _ _ _ _ _ _
   | exact ih4 _ _ _ _ _ _
   | exact tontineref1_routes.mono _ _ _ _ _ _
   | exact tontineref1_shares.mono _ _ _ _ _
   | exact LeO.none _
   | refine LeO.ite ?_ ?_
   | refine LeO.bind ?_ (fun _ => ?_)
set_option maxHeartbeats 8000000 in
set_option maxRecDepth 100000 in
theorem tontineref1_IsConf.calls (k : Nat) (a0_0 : Int) (a0_1 : Int) (A0_2 : Option Addr) (c0_2 : Nat) (l0_2 : List (List Int)) (A0_3 : Option Addr) (c0_3 : Nat) (l0_3 : List (S60)) (r : Int) (w : World) (hr0_2 : Kd.C (Kd.slice 3 (Kd.int .i64)) w A0_2 l0_2.length l0_2) (hc0_2 : l0_2.length ≤ c0_2) (hr0_3 : Kd.C k60 w A0_3 l0_3.length l0_3) (hc0_3 : l0_3.length ≤ c0_3) (h : tontineref1_IsConf.f k a0_0 a0_1 l0_2 l0_3 = some r) :
    Calls Tryd.prog 7 #[.agg #[.int .i64 a0_0, .int .i64 a0_1, .slice A0_2 l0_2.length c0_2, .slice A0_3 l0_3.length c0_3]] w fun e w' => e = .returned (.int .i64 r) ∧ Below w.heap.size w w' := by
 have hu25 := Tryd.underlying25; have hu58 := Tryd.underlying58; have hu60 := Tryd.underlying60
 have HR0_2 := Goto.m0 hr0_2
 have HC0_2 := Goto.m0 hc0_2
 clear hr0_2 hc0_2
 have HR0_3 := Goto.m0 hr0_3
 have HC0_3 := Goto.m0 hc0_3
 clear hr0_3 hc0_3
 have HB := Goto.m0 (Below.refl w.heap.size w)
 have H : ((tontineref1_within.f a0_0 1 64).bind fun t235 => (if t235 = true then ((tontineref1_within.f a0_1 1 8).bind fun t236 => (if t236 = true then ((tontineref1_within.f (l0_3.length : Int) 1 6).bind fun t237 => (tontineref1_IsConf.j0 k (l0_3.length : Int) (!t237) a0_0 a0_1 l0_2 l0_3)) else (tontineref1_IsConf.j0 k (l0_3.length : Int) true a0_0 a0_1 l0_2 l0_3))) else (tontineref1_IsConf.j0 k (l0_3.length : Int) true a0_0 a0_1 l0_2 l0_3))) = some r := h
 clear h
 have HC2 := Goto.m0 H
 clear H
 go_enter Tryd.func7, Tryd.ntmps7
 go_upto_region 2 with (first | ((with_reducible refine gate_dst (N := 1) rfl ?_); refine box_event ?hg (N := 1) ?hd (cs := #[.int .i64 a0_0, .int .i64 a0_1, .slice A0_2 l0_2.length c0_2, .slice A0_3 l0_3.length c0_3]) (t := 25) ?hr ?_; (case hd => rfl); (case hg => rfl); (case hr => first | (go_simp; done) | (go_simp; rfl)); intro gb234 hg w3 hbox hb; have BK234 := Goto.m0 (hbox); have GW234 := Goto.gs HB hg; have GE234 := Goto.gs HB hg; replace HB := Goto.hs HB hb; clear hb hbox hg; have hcz4_0 := Goto.bc0 BK234; have hcz4_1 := Goto.bc1 BK234; have hcz4_2 := Goto.bc2 BK234; have hcz4_3 := Goto.bc3 BK234; have hfz4_0 := Goto.bf BK234 0; have hfz4_1 := Goto.bf BK234 1; have hfz4_2 := Goto.bf BK234 2; have hfz4_3 := Goto.bf BK234 3))
 (try simp only [Act.put, List.setIfInBounds_toArray, List.set_cons_zero, List.set_cons_succ])
 go_cut [25] (fun v25 wc => ∃ (kq : Nat) (x25_1 : Bool), v25 = .bool x25_1 ∧ Aside0 (tontineref1_IsConf.j0 kq (l0_3.length : Int) x25_1 a0_0 a0_1 l0_2 l0_3 = some r) ∧ Aside0 (kq ≤ k) ∧ Aside0 (wc.heap[gb234]? = some (.cells #[.int .i64 a0_0, .int .i64 a0_1, (.slice A0_2 l0_2.length c0_2), (.slice A0_3 l0_3.length c0_3)] 25 (0, 0))) ∧ Aside0 (Below w.heap.size w wc))
 case first =>
  have H := HC2.out; clear HC2
  replace H := Option.bind_eq_some_iff.mp H
  obtain ⟨t235, A50, H⟩ := H
  have A5 := Goto.m0 A50
  clear A50
  by_cases c6 : t235 = true
  ·
   subst c6
   rw [if_pos rfl] at H
   replace H := Option.bind_eq_some_iff.mp H
   obtain ⟨t236, A70, H⟩ := H
   have A7 := Goto.m0 A70
   clear A70
   by_cases c8 : t236 = true
   ·
    subst c8
    rw [if_pos rfl] at H
    replace H := Option.bind_eq_some_iff.mp H
    obtain ⟨t237, A90, H⟩ := H
    have A9 := Goto.m0 A90
    clear A90
    have H' := Goto.m0 H
    clear H; have hcz10_0 := Goto.bc0 BK234; have hcz10_1 := Goto.bc1 BK234; have hcz10_2 := Goto.bc2 BK234; have hcz10_3 := Goto.bc3 BK234; have hfz10_0 := Goto.bf BK234 0; have hfz10_1 := Goto.bf BK234 1; have hfz10_2 := Goto.bf BK234 2; have hfz10_3 := Goto.bf BK234 3
    go_wp2_with (first | ((with_reducible refine gate_callee (f := 32) rfl ?_); refine goesL_ (some 13) rfl rfl Tryd.func32 (by kernel_rfl) rfl #[.int .i64 a0_0, .int .i64 1, .int .i64 64] rfl (by (try simp only [List.map_toArray, List.map_cons, List.map_nil]); first | done | rfl | (simp only [List.length_drop, List.length_take]; rfl)) ?_; (with_reducible refine (tontineref1_within.calls a0_0 1 64 true _ A5.out).mono ?_); rintro e w' ⟨rfl, ⟨nd, rfl⟩⟩; refine ⟨_, rfl, ?_⟩) | (go_at_call 32; (with_reducible refine (tontineref1_within.calls a0_1 1 8 true _ A7.out).mono ?_); rintro e w' ⟨rfl, ⟨nd, rfl⟩⟩) | (go_at_call 32; (with_reducible refine (tontineref1_within.calls (l0_3.length : Int) 1 6 t237 _ A9.out).mono ?_); rintro e w' ⟨rfl, ⟨nd, rfl⟩⟩))
    go_meet
    case rel => exact ⟨_, (!t237), (by first | rfl | (simp; done) | (simp [*]; done)), H', ⟨by first | omega | exact Nat.le_refl _⟩, ⟨Goto.bx BK234⟩, ⟨Goto.hx HB⟩⟩
   ·
    replace c8 := Bool.eq_false_iff.mpr c8
    subst c8
    rw [if_neg (show ¬ (false = true) by decide)] at H
    have H' := Goto.m0 H
    clear H; have hcz11_0 := Goto.bc0 BK234; have hcz11_1 := Goto.bc1 BK234; have hcz11_2 := Goto.bc2 BK234; have hcz11_3 := Goto.bc3 BK234; have hfz11_0 := Goto.bf BK234 0; have hfz11_1 := Goto.bf BK234 1; have hfz11_2 := Goto.bf BK234 2; have hfz11_3 := Goto.bf BK234 3
    go_wp2_with (first | ((with_reducible refine gate_callee (f := 32) rfl ?_); refine goesL_ (some 13) rfl rfl Tryd.func32 (by kernel_rfl) rfl #[.int .i64 a0_0, .int .i64 1, .int .i64 64] rfl (by (try simp only [List.map_toArray, List.map_cons, List.map_nil]); first | done | rfl | (simp only [List.length_drop, List.length_take]; rfl)) ?_; (with_reducible refine (tontineref1_within.calls a0_0 1 64 true _ A5.out).mono ?_); rintro e w' ⟨rfl, ⟨nd, rfl⟩⟩; refine ⟨_, rfl, ?_⟩) | (go_at_call 32; (with_reducible refine (tontineref1_within.calls a0_1 1 8 false _ A7.out).mono ?_); rintro e w' ⟨rfl, ⟨nd, rfl⟩⟩))
    go_meet
    case rel => exact ⟨_, (true), (by first | rfl | (simp; done) | (simp [*]; done)), H', ⟨by first | omega | exact Nat.le_refl _⟩, ⟨Goto.bx BK234⟩, ⟨Goto.hx HB⟩⟩
  ·
   replace c6 := Bool.eq_false_iff.mpr c6
   subst c6
   rw [if_neg (show ¬ (false = true) by decide)] at H
   have H' := Goto.m0 H
   clear H; have hcz12_0 := Goto.bc0 BK234; have hcz12_1 := Goto.bc1 BK234; have hcz12_2 := Goto.bc2 BK234; have hcz12_3 := Goto.bc3 BK234; have hfz12_0 := Goto.bf BK234 0; have hfz12_1 := Goto.bf BK234 1; have hfz12_2 := Goto.bf BK234 2; have hfz12_3 := Goto.bf BK234 3
   go_wp2_with (first | ((with_reducible refine gate_callee (f := 32) rfl ?_); refine goesL_ (some 13) rfl rfl Tryd.func32 (by kernel_rfl) rfl #[.int .i64 a0_0, .int .i64 1, .int .i64 64] rfl (by (try simp only [List.map_toArray, List.map_cons, List.map_nil]); first | done | rfl | (simp only [List.length_drop, List.length_take]; rfl)) ?_; (with_reducible refine (tontineref1_within.calls a0_0 1 64 false _ A5.out).mono ?_); rintro e w' ⟨rfl, ⟨nd, rfl⟩⟩; refine ⟨_, rfl, ?_⟩))
   go_meet
   case rel => exact ⟨_, (true), (by first | rfl | (simp; done) | (simp [*]; done)), H', ⟨by first | omega | exact Nat.le_refl _⟩, ⟨Goto.bx BK234⟩, ⟨Goto.hx HB⟩⟩
 case rest =>
  clear HC2; try clear p2; try clear c3; try clear c6; try clear c7; try clear c8; try clear hcz10_0; try clear hcz10_1; try clear hcz10_2; try clear hcz10_3; try clear hcz11_0; try clear hcz11_1; try clear hcz11_2; try clear hcz11_3; try clear hcz12_0; try clear hcz12_1; try clear hcz12_2; try clear hcz12_3; try clear hcz4_0; try clear hcz4_1; try clear hcz4_2; try clear hcz4_3; try clear hfz10_0; try clear hfz10_1; try clear hfz10_2; try clear hfz10_3; try clear hfz11_0; try clear hfz11_1; try clear hfz11_2; try clear hfz11_3; try clear hfz12_0; try clear hfz12_1; try clear hfz12_2; try clear hfz12_3; try clear hfz4_0; try clear hfz4_1; try clear hfz4_2; try clear hfz4_3
  obtain ⟨kq, x25_1, rfl, HA, HJ1, BK234, HB⟩ := hcut
  cases kq with
  | zero => exact absurd HA.out (by simp [tontineref1_IsConf.j0])
  | succ kj1 =>
   have H := HA.out; clear HA
   simp only [tontineref1_IsConf.j0] at H
   by_cases c13 : x25_1 = true
   ·
    subst c13
    rw [if_pos rfl] at H
    obtain rfl := Option.some.inj H
    go_wp2
    go_ret
    exact ⟨Goto.er, by repeat (first | (with_reducible first | exact HB.out | apply below_alloc | apply pw_below_drewN | apply below_drew1 | refine below_set ?_ GE234.out) | exact HB.out)⟩
   ·
    replace c13 := Bool.eq_false_iff.mpr c13
    subst c13
    rw [if_neg (show ¬ (false = true) by decide)] at H
    have H' := Goto.m0 H
    clear H
    go_wp2
    go_loopg [4] kj1 (fun kq v4 w' => ∃ (x4_2 : Int), v4 = .int .i64 x4_2 ∧ Aside0 (tontineref1_IsConf.l0 kq (l0_3.length : Int) x4_2 a0_0 a0_1 l0_2 l0_3 = some r) ∧ Aside0 (kq ≤ kj1) ∧ Aside0 (w'.heap[gb234]? = some (.cells #[.int .i64 a0_0, .int .i64 a0_1, (.slice A0_2 l0_2.length c0_2), (.slice A0_3 l0_3.length c0_3)] 25 (0, 0))) ∧ Aside0 (Below w.heap.size w w'))
    case atStart => exact ⟨(0), (by first | rfl | (simp; done) | (simp [*]; done)), H', ⟨Nat.le_refl _⟩, ⟨Goto.bx BK234⟩, ⟨Goto.hx HB⟩⟩
    case round =>
     clear H'
     try clear c1; try clear p2; try clear c3; try clear c6; try clear c7; try clear c8; try clear c13; try clear hcz10_0; try clear hcz10_1; try clear hcz10_2; try clear hcz10_3; try clear hcz11_0; try clear hcz11_1; try clear hcz11_2; try clear hcz11_3; try clear hcz12_0; try clear hcz12_1; try clear hcz12_2; try clear hcz12_3; try clear hcz4_0; try clear hcz4_1; try clear hcz4_2; try clear hcz4_3; try clear hfz10_0; try clear hfz10_1; try clear hfz10_2; try clear hfz10_3; try clear hfz11_0; try clear hfz11_1; try clear hfz11_2; try clear hfz11_3; try clear hfz12_0; try clear hfz12_1; try clear hfz12_2; try clear hfz12_3; try clear hfz4_0; try clear hfz4_1; try clear hfz4_2; try clear hfz4_3; try clear p2
     obtain ⟨x4_2, rfl, HA, HK2, BK234, HB⟩ := hrel
     cases gk with
     | zero => exact absurd HA.out (by simp [tontineref1_IsConf.l0])
     | succ k2 =>
      have H := HA.out; clear HA
      simp only [tontineref1_IsConf.l0] at H
      by_cases c14 : x4_2 < (l0_3.length : Int)
      ·
       rw [if_pos c14] at H
       have c14b0 : decide (x4_2 < (l0_3.length : Int)) = true := decide_eq_true c14
       clear c14
       by_cases c15 : 0 ≤ x4_2
       ·
        rw [if_pos c15] at H
        have c15b0 : decide (0 ≤ x4_2) = true := decide_eq_true c15
        clear c15
        by_cases c16 : x4_2 < (l0_3.length : Int)
        ·
         rw [if_pos c16] at H
         have c16b0 : decide (x4_2 < (l0_3.length : Int)) = true := decide_eq_true c16
         clear c16
         replace H := Option.bind_eq_some_iff.mp H
         obtain ⟨t239, A170, H⟩ := H
         have A17 := Goto.m0 A170
         clear A170
         by_cases c18 : t239 = true
         ·
          subst c18
          rw [if_pos rfl] at H
          have H' := Goto.m0 H
          clear H; have hcz19_0 := Goto.bc0 BK234; have hcz19_1 := Goto.bc1 BK234; have hcz19_2 := Goto.bc2 BK234; have hcz19_3 := Goto.bc3 BK234; have hfz19_0 := Goto.bf BK234 0; have hfz19_1 := Goto.bf BK234 1; have hfz19_2 := Goto.bf BK234 2; have hfz19_3 := Goto.bf BK234 3
          have p238 : 0 ≤ (x4_2 : Int) := Goto.od
          have q238 : x4_2 < (l0_3.length : Int) := Goto.od
          obtain ⟨ad238, A238_2, c238_2, A238_3, c238_3, e238, hx238_0, hx238_1, hx238_2, hx238_3, hx238_4, hx238_5, hx238_6, hx238_7, hx238_8, hx238_9, hl238_2, hi238_2, hl238_3, hi238_3⟩ := at_T60 HR0_3.out x4_2 p238 q238
          cases e238
          replace hx238_0 := Goto.kc HB.out hx238_0
          replace hx238_1 := Goto.kc HB.out hx238_1
          replace hx238_2 := Goto.kc HB.out hx238_2
          replace hx238_3 := Goto.kc HB.out hx238_3
          replace hx238_4 := Goto.kc HB.out hx238_4
          replace hx238_5 := Goto.kc HB.out hx238_5
          replace hx238_6 := Goto.kc HB.out hx238_6
          replace hx238_7 := Goto.kc HB.out hx238_7
          replace hx238_8 := Goto.kc HB.out hx238_8
          replace hx238_9 := Goto.kc HB.out hx238_9
          have HR238_2 := Goto.m0 hi238_2
          have HC238_2 := Goto.m0 hl238_2
          clear hi238_2 hl238_2
          have HR238_3 := Goto.m0 hi238_3
          have HC238_3 := Goto.m0 hl238_3
          clear hi238_3 hl238_3; replace p238 := eq_true p238; replace q238 := eq_true q238
          go_wp2_with (first | ((with_reducible refine gate_callee (f := 33) rfl ?_); refine goesL_ (some 37) rfl rfl Tryd.func33 (by kernel_rfl) rfl #[.agg #[.int .i64 ((rd_T60 l0_3 x4_2).f0.f0), .int .u64 ((rd_T60 l0_3 x4_2).f0.f1)]] rfl (by (try simp only [List.map_toArray, List.map_cons, List.map_nil]); first | done | rfl | (simp only [List.length_drop, List.length_take]; rfl)) ?_; (with_reducible refine (tontineref1_IsLabel.calls ((rd_T60 l0_3 x4_2).f0.f0) ((rd_T60 l0_3 x4_2).f0.f1) true _ A17.out).mono ?_); rintro e w20 ⟨rfl, hb⟩; refine ⟨_, rfl, ?_⟩; replace BK234 := Goto.bb BK234 hb; replace HB := Goto.hs HB hb; (try clear hb); (try clear hb2); (try clear hk); (try clear hi)))
          go_roundg k2
          case measure => have := HJ1.out; have := HK2.out; omega
          case rel => exact ⟨(wrap64 (x4_2 + 1)), (by first | rfl | (simp; done) | (simp [*]; done)), H', ⟨by have := HJ1.out; have := HK2.out; omega⟩, ⟨Goto.bx BK234⟩, ⟨Goto.hx HB⟩⟩
         ·
          replace c18 := Bool.eq_false_iff.mpr c18
          subst c18
          rw [if_neg (show ¬ (false = true) by decide)] at H
          obtain rfl := Option.some.inj H
          have hcz21_0 := Goto.bc0 BK234; have hcz21_1 := Goto.bc1 BK234; have hcz21_2 := Goto.bc2 BK234; have hcz21_3 := Goto.bc3 BK234; have hfz21_0 := Goto.bf BK234 0; have hfz21_1 := Goto.bf BK234 1; have hfz21_2 := Goto.bf BK234 2; have hfz21_3 := Goto.bf BK234 3
          have p238 : 0 ≤ (x4_2 : Int) := Goto.od
          have q238 : x4_2 < (l0_3.length : Int) := Goto.od
          obtain ⟨ad238, A238_2, c238_2, A238_3, c238_3, e238, hx238_0, hx238_1, hx238_2, hx238_3, hx238_4, hx238_5, hx238_6, hx238_7, hx238_8, hx238_9, hl238_2, hi238_2, hl238_3, hi238_3⟩ := at_T60 HR0_3.out x4_2 p238 q238
          cases e238
          replace hx238_0 := Goto.kc HB.out hx238_0
          replace hx238_1 := Goto.kc HB.out hx238_1
          replace hx238_2 := Goto.kc HB.out hx238_2
          replace hx238_3 := Goto.kc HB.out hx238_3
          replace hx238_4 := Goto.kc HB.out hx238_4
          replace hx238_5 := Goto.kc HB.out hx238_5
          replace hx238_6 := Goto.kc HB.out hx238_6
          replace hx238_7 := Goto.kc HB.out hx238_7
          replace hx238_8 := Goto.kc HB.out hx238_8
          replace hx238_9 := Goto.kc HB.out hx238_9
          have HR238_2 := Goto.m0 hi238_2
          have HC238_2 := Goto.m0 hl238_2
          clear hi238_2 hl238_2
          have HR238_3 := Goto.m0 hi238_3
          have HC238_3 := Goto.m0 hl238_3
          clear hi238_3 hl238_3; replace p238 := eq_true p238; replace q238 := eq_true q238
          go_wp2_with (first | ((with_reducible refine gate_callee (f := 33) rfl ?_); refine goesL_ (some 37) rfl rfl Tryd.func33 (by kernel_rfl) rfl #[.agg #[.int .i64 ((rd_T60 l0_3 x4_2).f0.f0), .int .u64 ((rd_T60 l0_3 x4_2).f0.f1)]] rfl (by (try simp only [List.map_toArray, List.map_cons, List.map_nil]); first | done | rfl | (simp only [List.length_drop, List.length_take]; rfl)) ?_; (with_reducible refine (tontineref1_IsLabel.calls ((rd_T60 l0_3 x4_2).f0.f0) ((rd_T60 l0_3 x4_2).f0.f1) false _ A17.out).mono ?_); rintro e w22 ⟨rfl, hb⟩; refine ⟨_, rfl, ?_⟩; replace BK234 := Goto.bb BK234 hb; replace HB := Goto.hs HB hb; (try clear hb); (try clear hb2); (try clear hk); (try clear hi)))
          go_ret
          exact ⟨Goto.er, by repeat (first | (with_reducible first | exact HB.out | apply below_alloc | apply pw_below_drewN | apply below_drew1 | refine below_set ?_ GE234.out) | exact HB.out)⟩
        ·
         rw [if_neg c16] at H
         exact absurd H (by simp)
       ·
        rw [if_neg c15] at H
        exact absurd H (by simp)
      ·
       rw [if_neg c14] at H
       have c14b0 : decide (x4_2 < (l0_3.length : Int)) = false := decide_eq_false c14
       clear c14
       replace H := Option.bind_eq_some_iff.mp H
       obtain ⟨t240, A230, H⟩ := H
       have A23 := Goto.m0 A230
       clear A230
       by_cases c24 : t240 = true
       ·
        subst c24
        rw [if_pos rfl] at H
        have H' := Goto.m0 H
        clear H; have hcz25_0 := Goto.bc0 BK234; have hcz25_1 := Goto.bc1 BK234; have hcz25_2 := Goto.bc2 BK234; have hcz25_3 := Goto.bc3 BK234; have hfz25_0 := Goto.bf BK234 0; have hfz25_1 := Goto.bf BK234 1; have hfz25_2 := Goto.bf BK234 2; have hfz25_3 := Goto.bf BK234 3
        go_wp2_with (first | ((with_reducible refine gate_callee (f := 34) rfl ?_); refine goesL_ (some 40) rfl rfl Tryd.func34 (by kernel_rfl) rfl #[.agg #[.int .i64 a0_0, .int .i64 a0_1, .slice A0_2 l0_2.length c0_2, .slice A0_3 l0_3.length c0_3]] rfl (by (try simp only [List.map_toArray, List.map_cons, List.map_nil]); first | done | rfl | (simp only [List.length_drop, List.length_take]; rfl)) ?_; (with_reducible refine (tontineref1_shares.calls k2 a0_0 a0_1 _ _ l0_2 _ _ l0_3 true _ ?side1 ?side2 ?side3 ?side4 A23.out).mono ?_); (case side1 => repeat (first | exact (Kd.C_below HR0_2.out HB.out) | (with_reducible refine Kd.C_alloc ?_ _) | (with_reducible refine Kd.C_drewN ?_ _) | (with_reducible refine Kd.C_drew ?_))); (case side2 => exact HC0_2.out); (case side3 => repeat (first | exact (Kd.C_below HR0_3.out HB.out) | (with_reducible refine Kd.C_alloc ?_ _) | (with_reducible refine Kd.C_drewN ?_ _) | (with_reducible refine Kd.C_drew ?_))); (case side4 => exact HC0_3.out); rintro e w26 ⟨rfl, hb⟩; refine ⟨_, rfl, ?_⟩; replace BK234 := Goto.bb BK234 hb; replace HB := Goto.hs HB hb; (try clear hb); (try clear hb2); (try clear hk); (try clear hi)))
        go_loopg [5] k2 (fun kq v5 w' => ∃ (x5_3 : Int), v5 = .int .i64 x5_3 ∧ Aside0 (tontineref1_IsConf.l1 kq (l0_3.length : Int) x5_3 a0_0 a0_1 l0_2 l0_3 = some r) ∧ Aside0 (kq ≤ k2) ∧ Aside0 (w'.heap[gb234]? = some (.cells #[.int .i64 a0_0, .int .i64 a0_1, (.slice A0_2 l0_2.length c0_2), (.slice A0_3 l0_3.length c0_3)] 25 (0, 0))) ∧ Aside0 (Below w.heap.size w w'))
        case atStart => exact ⟨(0), (by first | rfl | (simp; done) | (simp [*]; done)), H', ⟨Nat.le_refl _⟩, ⟨Goto.bx BK234⟩, ⟨Goto.hx HB⟩⟩
        case round =>
         clear H'
         try clear c1; try clear c2; try clear p2; try clear q2; try clear hx2; try clear c3; try clear c6; try clear p6; try clear c7; try clear c8; try clear c13; try clear c14; try clear c14b0; try clear c15; try clear c15b0; try clear c16; try clear c16b0; try clear c18; try clear c23; try clear p23; try clear q23; try clear hx23; try clear c24; try clear hcz10_0; try clear hcz10_1; try clear hcz10_2; try clear hcz10_3; try clear hcz11_0; try clear hcz11_1; try clear hcz11_2; try clear hcz11_3; try clear hcz12_0; try clear hcz12_1; try clear hcz12_2; try clear hcz12_3; try clear hcz19_0; try clear hcz19_1; try clear hcz19_2; try clear hcz19_3; try clear hcz21_0; try clear hcz21_1; try clear hcz21_2; try clear hcz21_3; try clear hcz25_0; try clear hcz25_1; try clear hcz25_2; try clear hcz25_3; try clear hcz4_0; try clear hcz4_1; try clear hcz4_2; try clear hcz4_3; try clear hfz10_0; try clear hfz10_1; try clear hfz10_2; try clear hfz10_3; try clear hfz11_0; try clear hfz11_1; try clear hfz11_2; try clear hfz11_3; try clear hfz12_0; try clear hfz12_1; try clear hfz12_2; try clear hfz12_3; try clear hfz19_0; try clear hfz19_1; try clear hfz19_2; try clear hfz19_3; try clear hfz21_0; try clear hfz21_1; try clear hfz21_2; try clear hfz21_3; try clear hfz25_0; try clear hfz25_1; try clear hfz25_2; try clear hfz25_3; try clear hfz4_0; try clear hfz4_1; try clear hfz4_2; try clear hfz4_3; try clear hx238_0; try clear hx238_1; try clear hx238_2; try clear hx238_3; try clear hx238_4; try clear hx238_5; try clear hx238_6; try clear hx238_7; try clear hx238_8; try clear hx238_9; try clear p2; try clear p238; try clear q238
         obtain ⟨x5_3, rfl, HA, HK3, BK234, HB⟩ := hrel
         cases gk with
         | zero => exact absurd HA.out (by simp [tontineref1_IsConf.l1])
         | succ k3 =>
          have H := HA.out; clear HA
          simp only [tontineref1_IsConf.l1] at H
          by_cases c27 : x5_3 < (l0_3.length : Int)
          ·
           rw [if_pos c27] at H
           have c27b0 : decide (x5_3 < (l0_3.length : Int)) = true := decide_eq_true c27
           clear c27
           by_cases c28 : 0 ≤ x5_3
           ·
            rw [if_pos c28] at H
            have c28b0 : decide (0 ≤ x5_3) = true := decide_eq_true c28
            clear c28
            by_cases c29 : x5_3 < (l0_3.length : Int)
            ·
             rw [if_pos c29] at H
             have c29b0 : decide (x5_3 < (l0_3.length : Int)) = true := decide_eq_true c29
             clear c29
             have HC30 := Goto.m0 H
             clear H; have hcz31_0 := Goto.bc0 BK234; have hcz31_1 := Goto.bc1 BK234; have hcz31_2 := Goto.bc2 BK234; have hcz31_3 := Goto.bc3 BK234; have hfz31_0 := Goto.bf BK234 0; have hfz31_1 := Goto.bf BK234 1; have hfz31_2 := Goto.bf BK234 2; have hfz31_3 := Goto.bf BK234 3
             have p241 : 0 ≤ (x5_3 : Int) := Goto.od
             have q241 : x5_3 < (l0_3.length : Int) := Goto.od
             obtain ⟨ad241, A241_2, c241_2, A241_3, c241_3, e241, hx241_0, hx241_1, hx241_2, hx241_3, hx241_4, hx241_5, hx241_6, hx241_7, hx241_8, hx241_9, hl241_2, hi241_2, hl241_3, hi241_3⟩ := at_T60 HR0_3.out x5_3 p241 q241
             cases e241
             replace hx241_0 := Goto.kc HB.out hx241_0
             replace hx241_1 := Goto.kc HB.out hx241_1
             replace hx241_2 := Goto.kc HB.out hx241_2
             replace hx241_3 := Goto.kc HB.out hx241_3
             replace hx241_4 := Goto.kc HB.out hx241_4
             replace hx241_5 := Goto.kc HB.out hx241_5
             replace hx241_6 := Goto.kc HB.out hx241_6
             replace hx241_7 := Goto.kc HB.out hx241_7
             replace hx241_8 := Goto.kc HB.out hx241_8
             replace hx241_9 := Goto.kc HB.out hx241_9
             have HR241_2 := Goto.m0 hi241_2
             have HC241_2 := Goto.m0 hl241_2
             clear hi241_2 hl241_2
             have HR241_3 := Goto.m0 hi241_3
             have HC241_3 := Goto.m0 hl241_3
             clear hi241_3 hl241_3; replace p241 := eq_true p241; replace q241 := eq_true q241
             go_upto_region 15 with (first | ((with_reducible refine gate_dst (N := 6) rfl ?_); refine box_event ?hg (N := 6) ?hd (cs := #[.int .i64 0, .int .u64 0, .slice none 0 0, .slice none 0 0, .int .i64 0, .int .i64 0, .int .i64 0, .int .i64 0, .int .i64 0, .int .i64 0]) (t := 60) ?hr ?_; (case hd => rfl); (case hg => rfl); (case hr => first | (go_simp; done) | (go_simp; rfl)); intro gb242 hg w32 hbox hb; have BK242 := Goto.m0 (hbox); have GW242 := Goto.gs HB hg; have GE242 := Goto.gs HB hg; have NB234_242 := Goto.nl BK234 hg; have NB242_234 := Goto.nr BK234 hg; replace BK234 := Goto.bb BK234 hb; replace HB := Goto.hs HB hb; clear hb hbox hg; have hnb33 := NB242_234.out; have hnc33 := NB234_242.out; have hcz34_0 := Goto.bc0 BK242; have hcz34_1 := Goto.bc1 BK242; have hcz34_2 := Goto.bc2 BK242; have hcz34_3 := Goto.bc3 BK242; have hcz34_4 := Goto.bc4 BK242; have hcz34_5 := Goto.bc5 BK242; have hcz34_6 := Goto.bc6 BK242; have hcz34_7 := Goto.bc7 BK242; have hcz34_8 := Goto.bc8 BK242; have hcz34_9 := Goto.bc9 BK242; have hfz34_0 := Goto.bf BK242 0; have hfz34_1 := Goto.bf BK242 1; have hfz34_2 := Goto.bf BK242 2; have hfz34_3 := Goto.bf BK242 3; have hfz34_4 := Goto.bf BK242 4; have hfz34_5 := Goto.bf BK242 5; have hfz34_6 := Goto.bf BK242 6; have hfz34_7 := Goto.bf BK242 7; have hfz34_8 := Goto.bf BK242 8; have hfz34_9 := Goto.bf BK242 9))
             (try simp only [Act.put, List.setIfInBounds_toArray, List.set_cons_zero, List.set_cons_succ])
             go_cut [79] (fun v79 wc => ∃ (kq : Nat) (x79_29 : Bool), v79 = .bool x79_29 ∧ Aside0 (tontineref1_IsConf.j3 kq (l0_3.length : Int) x5_3 x79_29 a0_0 a0_1 l0_2 l0_3 = some r) ∧ Aside0 (kq ≤ k3) ∧ Aside0 (wc.heap[gb234]? = some (.cells #[.int .i64 a0_0, .int .i64 a0_1, (.slice A0_2 l0_2.length c0_2), (.slice (some ad241) l0_3.length c0_3)] 25 (0, 0))) ∧ Aside0 (wc.heap[gb242]? = some (.cells #[.int .i64 ((rd_T60 l0_3 x5_3).f0.f0), .int .u64 ((rd_T60 l0_3 x5_3).f0.f1), (.slice A241_2 ((rd_T60 l0_3 x5_3).f1).length c241_2), (.slice A241_3 ((rd_T60 l0_3 x5_3).f2).length c241_3), .int .i64 ((rd_T60 l0_3 x5_3).f3), .int .i64 ((rd_T60 l0_3 x5_3).f4), .int .i64 ((rd_T60 l0_3 x5_3).f5), .int .i64 ((rd_T60 l0_3 x5_3).f6), .int .i64 ((rd_T60 l0_3 x5_3).f7), .int .i64 ((rd_T60 l0_3 x5_3).f8)] 60 (0, 0))) ∧ Aside0 (Below w.heap.size w wc))
             case first =>
              have H := HC30.out; clear HC30
              replace H := Option.bind_eq_some_iff.mp H
              obtain ⟨t243, A350, H⟩ := H
              have A35 := Goto.m0 A350
              clear A350
              by_cases c36 : t243 = true
              ·
               subst c36
               rw [if_pos rfl] at H
               replace H := Option.bind_eq_some_iff.mp H
               obtain ⟨t244, A370, H⟩ := H
               have A37 := Goto.m0 A370
               clear A370
               by_cases c38 : t244 = true
               ·
                subst c38
                rw [if_pos rfl] at H
                replace H := Option.bind_eq_some_iff.mp H
                obtain ⟨t245, A390, H⟩ := H
                have A39 := Goto.m0 A390
                clear A390
                by_cases c40 : t245 = true
                ·
                 subst c40
                 rw [if_pos rfl] at H
                 replace H := Option.bind_eq_some_iff.mp H
                 obtain ⟨t246, A410, H⟩ := H
                 have A41 := Goto.m0 A410
                 clear A410
                 by_cases c42 : t246 = true
                 ·
                  subst c42
                  rw [if_pos rfl] at H
                  replace H := Option.bind_eq_some_iff.mp H
                  obtain ⟨t247, A430, H⟩ := H
                  have A43 := Goto.m0 A430
                  clear A430
                  have H' := Goto.m0 H
                  clear H; have hnb44 := NB242_234.out; have hnc44 := NB234_242.out; have hcz45_0 := Goto.bc0 BK242; have hcz45_1 := Goto.bc1 BK242; have hcz45_2 := Goto.bc2 BK242; have hcz45_3 := Goto.bc3 BK242; have hcz45_4 := Goto.bc4 BK242; have hcz45_5 := Goto.bc5 BK242; have hcz45_6 := Goto.bc6 BK242; have hcz45_7 := Goto.bc7 BK242; have hcz45_8 := Goto.bc8 BK242; have hcz45_9 := Goto.bc9 BK242; have hfz45_0 := Goto.bf BK242 0; have hfz45_1 := Goto.bf BK242 1; have hfz45_2 := Goto.bf BK242 2; have hfz45_3 := Goto.bf BK242 3; have hfz45_4 := Goto.bf BK242 4; have hfz45_5 := Goto.bf BK242 5; have hfz45_6 := Goto.bf BK242 6; have hfz45_7 := Goto.bf BK242 7; have hfz45_8 := Goto.bf BK242 8; have hfz45_9 := Goto.bf BK242 9
                  go_wp2_with (first | ((with_reducible refine gate_callee (f := 32) rfl ?_); refine goesL_ (some 54) rfl rfl Tryd.func32 (by kernel_rfl) rfl #[.int .i64 ((rd_T60 l0_3 x5_3).f4), .int .i64 1, .int .i64 8] rfl (by (try simp only [List.map_toArray, List.map_cons, List.map_nil]); first | done | rfl | (simp only [List.length_drop, List.length_take]; rfl)) ?_; (with_reducible refine (tontineref1_within.calls ((rd_T60 l0_3 x5_3).f4) 1 8 true _ A35.out).mono ?_); rintro e w' ⟨rfl, ⟨nd, rfl⟩⟩; refine ⟨_, rfl, ?_⟩) | (go_at_call 32; (with_reducible refine (tontineref1_within.calls ((rd_T60 l0_3 x5_3).f5) 0 4 true _ A37.out).mono ?_); rintro e w' ⟨rfl, ⟨nd, rfl⟩⟩) | (go_at_call 32; (with_reducible refine (tontineref1_within.calls ((rd_T60 l0_3 x5_3).f6) 1 16 true _ A39.out).mono ?_); rintro e w' ⟨rfl, ⟨nd, rfl⟩⟩) | (go_at_call 32; (with_reducible refine (tontineref1_within.calls ((rd_T60 l0_3 x5_3).f7) 0 8 true _ A41.out).mono ?_); rintro e w' ⟨rfl, ⟨nd, rfl⟩⟩) | (go_at_call 32; (with_reducible refine (tontineref1_within.calls ((rd_T60 l0_3 x5_3).f8) 1 8 t247 _ A43.out).mono ?_); rintro e w' ⟨rfl, ⟨nd, rfl⟩⟩))
                  go_meet
                  case rel => exact ⟨_, (!t247), (by first | rfl | (simp; done) | (simp [*]; done)), H', ⟨by have := HJ1.out; have := HK2.out; have := HK3.out; first | omega | exact Nat.le_refl _⟩, ⟨Goto.bx BK234⟩, ⟨Goto.bx BK242⟩, ⟨Goto.hx HB⟩⟩
                 ·
                  replace c42 := Bool.eq_false_iff.mpr c42
                  subst c42
                  rw [if_neg (show ¬ (false = true) by decide)] at H
                  have H' := Goto.m0 H
                  clear H; have hnb46 := NB242_234.out; have hnc46 := NB234_242.out; have hcz47_0 := Goto.bc0 BK242; have hcz47_1 := Goto.bc1 BK242; have hcz47_2 := Goto.bc2 BK242; have hcz47_3 := Goto.bc3 BK242; have hcz47_4 := Goto.bc4 BK242; have hcz47_5 := Goto.bc5 BK242; have hcz47_6 := Goto.bc6 BK242; have hcz47_7 := Goto.bc7 BK242; have hcz47_8 := Goto.bc8 BK242; have hcz47_9 := Goto.bc9 BK242; have hfz47_0 := Goto.bf BK242 0; have hfz47_1 := Goto.bf BK242 1; have hfz47_2 := Goto.bf BK242 2; have hfz47_3 := Goto.bf BK242 3; have hfz47_4 := Goto.bf BK242 4; have hfz47_5 := Goto.bf BK242 5; have hfz47_6 := Goto.bf BK242 6; have hfz47_7 := Goto.bf BK242 7; have hfz47_8 := Goto.bf BK242 8; have hfz47_9 := Goto.bf BK242 9
                  go_wp2_with (first | ((with_reducible refine gate_callee (f := 32) rfl ?_); refine goesL_ (some 54) rfl rfl Tryd.func32 (by kernel_rfl) rfl #[.int .i64 ((rd_T60 l0_3 x5_3).f4), .int .i64 1, .int .i64 8] rfl (by (try simp only [List.map_toArray, List.map_cons, List.map_nil]); first | done | rfl | (simp only [List.length_drop, List.length_take]; rfl)) ?_; (with_reducible refine (tontineref1_within.calls ((rd_T60 l0_3 x5_3).f4) 1 8 true _ A35.out).mono ?_); rintro e w' ⟨rfl, ⟨nd, rfl⟩⟩; refine ⟨_, rfl, ?_⟩) | (go_at_call 32; (with_reducible refine (tontineref1_within.calls ((rd_T60 l0_3 x5_3).f5) 0 4 true _ A37.out).mono ?_); rintro e w' ⟨rfl, ⟨nd, rfl⟩⟩) | (go_at_call 32; (with_reducible refine (tontineref1_within.calls ((rd_T60 l0_3 x5_3).f6) 1 16 true _ A39.out).mono ?_); rintro e w' ⟨rfl, ⟨nd, rfl⟩⟩) | (go_at_call 32; (with_reducible refine (tontineref1_within.calls ((rd_T60 l0_3 x5_3).f7) 0 8 false _ A41.out).mono ?_); rintro e w' ⟨rfl, ⟨nd, rfl⟩⟩))
                  go_meet
                  case rel => exact ⟨_, (true), (by first | rfl | (simp; done) | (simp [*]; done)), H', ⟨by have := HJ1.out; have := HK2.out; have := HK3.out; first | omega | exact Nat.le_refl _⟩, ⟨Goto.bx BK234⟩, ⟨Goto.bx BK242⟩, ⟨Goto.hx HB⟩⟩
                ·
                 replace c40 := Bool.eq_false_iff.mpr c40
                 subst c40
                 rw [if_neg (show ¬ (false = true) by decide)] at H
                 have H' := Goto.m0 H
                 clear H; have hnb48 := NB242_234.out; have hnc48 := NB234_242.out; have hcz49_0 := Goto.bc0 BK242; have hcz49_1 := Goto.bc1 BK242; have hcz49_2 := Goto.bc2 BK242; have hcz49_3 := Goto.bc3 BK242; have hcz49_4 := Goto.bc4 BK242; have hcz49_5 := Goto.bc5 BK242; have hcz49_6 := Goto.bc6 BK242; have hcz49_7 := Goto.bc7 BK242; have hcz49_8 := Goto.bc8 BK242; have hcz49_9 := Goto.bc9 BK242; have hfz49_0 := Goto.bf BK242 0; have hfz49_1 := Goto.bf BK242 1; have hfz49_2 := Goto.bf BK242 2; have hfz49_3 := Goto.bf BK242 3; have hfz49_4 := Goto.bf BK242 4; have hfz49_5 := Goto.bf BK242 5; have hfz49_6 := Goto.bf BK242 6; have hfz49_7 := Goto.bf BK242 7; have hfz49_8 := Goto.bf BK242 8; have hfz49_9 := Goto.bf BK242 9
                 go_wp2_with (first | ((with_reducible refine gate_callee (f := 32) rfl ?_); refine goesL_ (some 54) rfl rfl Tryd.func32 (by kernel_rfl) rfl #[.int .i64 ((rd_T60 l0_3 x5_3).f4), .int .i64 1, .int .i64 8] rfl (by (try simp only [List.map_toArray, List.map_cons, List.map_nil]); first | done | rfl | (simp only [List.length_drop, List.length_take]; rfl)) ?_; (with_reducible refine (tontineref1_within.calls ((rd_T60 l0_3 x5_3).f4) 1 8 true _ A35.out).mono ?_); rintro e w' ⟨rfl, ⟨nd, rfl⟩⟩; refine ⟨_, rfl, ?_⟩) | (go_at_call 32; (with_reducible refine (tontineref1_within.calls ((rd_T60 l0_3 x5_3).f5) 0 4 true _ A37.out).mono ?_); rintro e w' ⟨rfl, ⟨nd, rfl⟩⟩) | (go_at_call 32; (with_reducible refine (tontineref1_within.calls ((rd_T60 l0_3 x5_3).f6) 1 16 false _ A39.out).mono ?_); rintro e w' ⟨rfl, ⟨nd, rfl⟩⟩))
                 go_meet
                 case rel => exact ⟨_, (true), (by first | rfl | (simp; done) | (simp [*]; done)), H', ⟨by have := HJ1.out; have := HK2.out; have := HK3.out; first | omega | exact Nat.le_refl _⟩, ⟨Goto.bx BK234⟩, ⟨Goto.bx BK242⟩, ⟨Goto.hx HB⟩⟩
               ·
                replace c38 := Bool.eq_false_iff.mpr c38
                subst c38
                rw [if_neg (show ¬ (false = true) by decide)] at H
                have H' := Goto.m0 H
                clear H; have hnb50 := NB242_234.out; have hnc50 := NB234_242.out; have hcz51_0 := Goto.bc0 BK242; have hcz51_1 := Goto.bc1 BK242; have hcz51_2 := Goto.bc2 BK242; have hcz51_3 := Goto.bc3 BK242; have hcz51_4 := Goto.bc4 BK242; have hcz51_5 := Goto.bc5 BK242; have hcz51_6 := Goto.bc6 BK242; have hcz51_7 := Goto.bc7 BK242; have hcz51_8 := Goto.bc8 BK242; have hcz51_9 := Goto.bc9 BK242; have hfz51_0 := Goto.bf BK242 0; have hfz51_1 := Goto.bf BK242 1; have hfz51_2 := Goto.bf BK242 2; have hfz51_3 := Goto.bf BK242 3; have hfz51_4 := Goto.bf BK242 4; have hfz51_5 := Goto.bf BK242 5; have hfz51_6 := Goto.bf BK242 6; have hfz51_7 := Goto.bf BK242 7; have hfz51_8 := Goto.bf BK242 8; have hfz51_9 := Goto.bf BK242 9
                go_wp2_with (first | ((with_reducible refine gate_callee (f := 32) rfl ?_); refine goesL_ (some 54) rfl rfl Tryd.func32 (by kernel_rfl) rfl #[.int .i64 ((rd_T60 l0_3 x5_3).f4), .int .i64 1, .int .i64 8] rfl (by (try simp only [List.map_toArray, List.map_cons, List.map_nil]); first | done | rfl | (simp only [List.length_drop, List.length_take]; rfl)) ?_; (with_reducible refine (tontineref1_within.calls ((rd_T60 l0_3 x5_3).f4) 1 8 true _ A35.out).mono ?_); rintro e w' ⟨rfl, ⟨nd, rfl⟩⟩; refine ⟨_, rfl, ?_⟩) | (go_at_call 32; (with_reducible refine (tontineref1_within.calls ((rd_T60 l0_3 x5_3).f5) 0 4 false _ A37.out).mono ?_); rintro e w' ⟨rfl, ⟨nd, rfl⟩⟩))
                go_meet
                case rel => exact ⟨_, (true), (by first | rfl | (simp; done) | (simp [*]; done)), H', ⟨by have := HJ1.out; have := HK2.out; have := HK3.out; first | omega | exact Nat.le_refl _⟩, ⟨Goto.bx BK234⟩, ⟨Goto.bx BK242⟩, ⟨Goto.hx HB⟩⟩
              ·
               replace c36 := Bool.eq_false_iff.mpr c36
               subst c36
               rw [if_neg (show ¬ (false = true) by decide)] at H
               have H' := Goto.m0 H
               clear H; have hnb52 := NB242_234.out; have hnc52 := NB234_242.out; have hcz53_0 := Goto.bc0 BK242; have hcz53_1 := Goto.bc1 BK242; have hcz53_2 := Goto.bc2 BK242; have hcz53_3 := Goto.bc3 BK242; have hcz53_4 := Goto.bc4 BK242; have hcz53_5 := Goto.bc5 BK242; have hcz53_6 := Goto.bc6 BK242; have hcz53_7 := Goto.bc7 BK242; have hcz53_8 := Goto.bc8 BK242; have hcz53_9 := Goto.bc9 BK242; have hfz53_0 := Goto.bf BK242 0; have hfz53_1 := Goto.bf BK242 1; have hfz53_2 := Goto.bf BK242 2; have hfz53_3 := Goto.bf BK242 3; have hfz53_4 := Goto.bf BK242 4; have hfz53_5 := Goto.bf BK242 5; have hfz53_6 := Goto.bf BK242 6; have hfz53_7 := Goto.bf BK242 7; have hfz53_8 := Goto.bf BK242 8; have hfz53_9 := Goto.bf BK242 9
               go_wp2_with (first | ((with_reducible refine gate_callee (f := 32) rfl ?_); refine goesL_ (some 54) rfl rfl Tryd.func32 (by kernel_rfl) rfl #[.int .i64 ((rd_T60 l0_3 x5_3).f4), .int .i64 1, .int .i64 8] rfl (by (try simp only [List.map_toArray, List.map_cons, List.map_nil]); first | done | rfl | (simp only [List.length_drop, List.length_take]; rfl)) ?_; (with_reducible refine (tontineref1_within.calls ((rd_T60 l0_3 x5_3).f4) 1 8 false _ A35.out).mono ?_); rintro e w' ⟨rfl, ⟨nd, rfl⟩⟩; refine ⟨_, rfl, ?_⟩))
               go_meet
               case rel => exact ⟨_, (true), (by first | rfl | (simp; done) | (simp [*]; done)), H', ⟨by have := HJ1.out; have := HK2.out; have := HK3.out; first | omega | exact Nat.le_refl _⟩, ⟨Goto.bx BK234⟩, ⟨Goto.bx BK242⟩, ⟨Goto.hx HB⟩⟩
             case rest =>
              clear HC30; try clear c1; try clear c2; try clear p2; try clear q2; try clear hx2; try clear c3; try clear c4; try clear c5; try clear c6; try clear p6; try clear c7; try clear c8; try clear c13; try clear c14; try clear c14b0; try clear c15; try clear c15b0; try clear c16; try clear c16b0; try clear c18; try clear c23; try clear p23; try clear q23; try clear hx23; try clear c24; try clear p24; try clear q24; try clear hx24; try clear c27; try clear c27b0; try clear c28; try clear c28b0; try clear c29; try clear c29b0; try clear c32; try clear c33; try clear c34; try clear c36; try clear c38; try clear c40; try clear c42; try clear c44; try clear c46; try clear c48; try clear c50; try clear c52; try clear hcz10_0; try clear hcz10_1; try clear hcz10_2; try clear hcz10_3; try clear hcz11_0; try clear hcz11_1; try clear hcz11_2; try clear hcz11_3; try clear hcz12_0; try clear hcz12_1; try clear hcz12_2; try clear hcz12_3; try clear hcz19_0; try clear hcz19_1; try clear hcz19_2; try clear hcz19_3; try clear hcz21_0; try clear hcz21_1; try clear hcz21_2; try clear hcz21_3; try clear hcz25_0; try clear hcz25_1; try clear hcz25_2; try clear hcz25_3; try clear hcz31_0; try clear hcz31_1; try clear hcz31_2; try clear hcz31_3; try clear hcz34_0; try clear hcz34_1; try clear hcz34_2; try clear hcz34_3; try clear hcz34_4; try clear hcz34_5; try clear hcz34_6; try clear hcz34_7; try clear hcz34_8; try clear hcz34_9; try clear hcz45_0; try clear hcz45_1; try clear hcz45_2; try clear hcz45_3; try clear hcz45_4; try clear hcz45_5; try clear hcz45_6; try clear hcz45_7; try clear hcz45_8; try clear hcz45_9; try clear hcz47_0; try clear hcz47_1; try clear hcz47_2; try clear hcz47_3; try clear hcz47_4; try clear hcz47_5; try clear hcz47_6; try clear hcz47_7; try clear hcz47_8; try clear hcz47_9; try clear hcz49_0; try clear hcz49_1; try clear hcz49_2; try clear hcz49_3; try clear hcz49_4; try clear hcz49_5; try clear hcz49_6; try clear hcz49_7; try clear hcz49_8; try clear hcz49_9; try clear hcz4_0; try clear hcz4_1; try clear hcz4_2; try clear hcz4_3; try clear hcz51_0; try clear hcz51_1; try clear hcz51_2; try clear hcz51_3; try clear hcz51_4; try clear hcz51_5; try clear hcz51_6; try clear hcz51_7; try clear hcz51_8; try clear hcz51_9; try clear hcz53_0; try clear hcz53_1; try clear hcz53_2; try clear hcz53_3; try clear hcz53_4; try clear hcz53_5; try clear hcz53_6; try clear hcz53_7; try clear hcz53_8; try clear hcz53_9; try clear hfz10_0; try clear hfz10_1; try clear hfz10_2; try clear hfz10_3; try clear hfz11_0; try clear hfz11_1; try clear hfz11_2; try clear hfz11_3; try clear hfz12_0; try clear hfz12_1; try clear hfz12_2; try clear hfz12_3; try clear hfz19_0; try clear hfz19_1; try clear hfz19_2; try clear hfz19_3; try clear hfz21_0; try clear hfz21_1; try clear hfz21_2; try clear hfz21_3; try clear hfz25_0; try clear hfz25_1; try clear hfz25_2; try clear hfz25_3; try clear hfz31_0; try clear hfz31_1; try clear hfz31_2; try clear hfz31_3; try clear hfz34_0; try clear hfz34_1; try clear hfz34_2; try clear hfz34_3; try clear hfz34_4; try clear hfz34_5; try clear hfz34_6; try clear hfz34_7; try clear hfz34_8; try clear hfz34_9; try clear hfz45_0; try clear hfz45_1; try clear hfz45_2; try clear hfz45_3; try clear hfz45_4; try clear hfz45_5; try clear hfz45_6; try clear hfz45_7; try clear hfz45_8; try clear hfz45_9; try clear hfz47_0; try clear hfz47_1; try clear hfz47_2; try clear hfz47_3; try clear hfz47_4; try clear hfz47_5; try clear hfz47_6; try clear hfz47_7; try clear hfz47_8; try clear hfz47_9; try clear hfz49_0; try clear hfz49_1; try clear hfz49_2; try clear hfz49_3; try clear hfz49_4; try clear hfz49_5; try clear hfz49_6; try clear hfz49_7; try clear hfz49_8; try clear hfz49_9; try clear hfz4_0; try clear hfz4_1; try clear hfz4_2; try clear hfz4_3; try clear hfz51_0; try clear hfz51_1; try clear hfz51_2; try clear hfz51_3; try clear hfz51_4; try clear hfz51_5; try clear hfz51_6; try clear hfz51_7; try clear hfz51_8; try clear hfz51_9
              try clear hfz53_0; try clear hfz53_1; try clear hfz53_2; try clear hfz53_3; try clear hfz53_4; try clear hfz53_5; try clear hfz53_6; try clear hfz53_7; try clear hfz53_8; try clear hfz53_9; try clear hx238_0; try clear hx238_1; try clear hx238_2; try clear hx238_3; try clear hx238_4; try clear hx238_5; try clear hx238_6; try clear hx238_7; try clear hx238_8; try clear hx238_9; try clear hx241_0; try clear hx241_1; try clear hx241_2; try clear hx241_3; try clear hx241_4; try clear hx241_5; try clear hx241_6; try clear hx241_7; try clear hx241_8; try clear hx241_9; try clear p2; try clear p23; try clear p238; try clear p241; try clear p6; try clear q2; try clear q23; try clear q238; try clear q241
              obtain ⟨kq, x79_29, rfl, HA, HJ29, BK234, BK242, HB⟩ := hcut
              cases kq with
              | zero => exact absurd HA.out (by simp [tontineref1_IsConf.j3])
              | succ kj29 =>
               have H := HA.out; clear HA
               simp only [tontineref1_IsConf.j3] at H
               by_cases c54 : x79_29 = true
               ·
                subst c54
                rw [if_pos rfl] at H
                obtain rfl := Option.some.inj H
                go_wp2
                go_ret
                exact ⟨Goto.er, by repeat (first | (with_reducible first | exact HB.out | apply below_alloc | apply pw_below_drewN | apply below_drew1 | refine below_set ?_ GE234.out | refine below_set ?_ GE242.out) | exact HB.out)⟩
               ·
                replace c54 := Bool.eq_false_iff.mpr c54
                subst c54
                rw [if_neg (show ¬ (false = true) by decide)] at H
                have H' := Goto.m0 H
                clear H
                go_wp2
                go_roundg kj29
                case measure => have := HJ1.out; have := HK2.out; have := HK3.out; have := HJ29.out; omega
                case rel => exact ⟨(wrap64 (x5_3 + 1)), (by first | rfl | (simp; done) | (simp [*]; done)), H', ⟨by have := HJ1.out; have := HK2.out; have := HK3.out; have := HJ29.out; omega⟩, ⟨Goto.bx BK234⟩, ⟨Goto.hx HB⟩⟩
            ·
             rw [if_neg c29] at H
             exact absurd H (by simp)
           ·
            rw [if_neg c28] at H
            exact absurd H (by simp)
          ·
           rw [if_neg c27] at H
           have c27b0 : decide (x5_3 < (l0_3.length : Int)) = false := decide_eq_false c27
           clear c27
           have H' := Goto.m0 H
           clear H
           go_wp2
           go_loopg [7] k3 (fun kq v7 w' => ∃ (x7_4 : Int), v7 = .int .i64 x7_4 ∧ Aside0 (tontineref1_IsConf.l2 kq (l0_3.length : Int) x7_4 a0_0 a0_1 l0_2 l0_3 = some r) ∧ Aside0 (kq ≤ k3) ∧ Aside0 (w'.heap[gb234]? = some (.cells #[.int .i64 a0_0, .int .i64 a0_1, (.slice A0_2 l0_2.length c0_2), (.slice A0_3 l0_3.length c0_3)] 25 (0, 0))) ∧ Aside0 (Below w.heap.size w w'))
           case atStart => exact ⟨(0), (by first | rfl | (simp; done) | (simp [*]; done)), H', ⟨Nat.le_refl _⟩, ⟨Goto.bx BK234⟩, ⟨Goto.hx HB⟩⟩
           case round =>
            clear H'
            try clear c1; try clear c2; try clear p2; try clear q2; try clear hx2; try clear c3; try clear c4; try clear c5; try clear c6; try clear p6; try clear c7; try clear c8; try clear c13; try clear c14; try clear c14b0; try clear c15; try clear c15b0; try clear c16; try clear c16b0; try clear c18; try clear c23; try clear p23; try clear q23; try clear hx23; try clear c24; try clear p24; try clear q24; try clear hx24; try clear c27; try clear c27b0; try clear c28; try clear c28b0; try clear c29; try clear c29b0; try clear c32; try clear c33; try clear c34; try clear c36; try clear c38; try clear c40; try clear c42; try clear c44; try clear c46; try clear c48; try clear c50; try clear c52; try clear c54; try clear hcz10_0; try clear hcz10_1; try clear hcz10_2; try clear hcz10_3; try clear hcz11_0; try clear hcz11_1; try clear hcz11_2; try clear hcz11_3; try clear hcz12_0; try clear hcz12_1; try clear hcz12_2; try clear hcz12_3; try clear hcz19_0; try clear hcz19_1; try clear hcz19_2; try clear hcz19_3; try clear hcz21_0; try clear hcz21_1; try clear hcz21_2; try clear hcz21_3; try clear hcz25_0; try clear hcz25_1; try clear hcz25_2; try clear hcz25_3; try clear hcz31_0; try clear hcz31_1; try clear hcz31_2; try clear hcz31_3; try clear hcz34_0; try clear hcz34_1; try clear hcz34_2; try clear hcz34_3; try clear hcz34_4; try clear hcz34_5; try clear hcz34_6; try clear hcz34_7; try clear hcz34_8; try clear hcz34_9; try clear hcz45_0; try clear hcz45_1; try clear hcz45_2; try clear hcz45_3; try clear hcz45_4; try clear hcz45_5; try clear hcz45_6; try clear hcz45_7; try clear hcz45_8; try clear hcz45_9; try clear hcz47_0; try clear hcz47_1; try clear hcz47_2; try clear hcz47_3; try clear hcz47_4; try clear hcz47_5; try clear hcz47_6; try clear hcz47_7; try clear hcz47_8; try clear hcz47_9; try clear hcz49_0; try clear hcz49_1; try clear hcz49_2; try clear hcz49_3; try clear hcz49_4; try clear hcz49_5; try clear hcz49_6; try clear hcz49_7; try clear hcz49_8; try clear hcz49_9; try clear hcz4_0; try clear hcz4_1; try clear hcz4_2; try clear hcz4_3; try clear hcz51_0; try clear hcz51_1; try clear hcz51_2; try clear hcz51_3; try clear hcz51_4; try clear hcz51_5; try clear hcz51_6; try clear hcz51_7; try clear hcz51_8; try clear hcz51_9; try clear hcz53_0; try clear hcz53_1; try clear hcz53_2; try clear hcz53_3; try clear hcz53_4; try clear hcz53_5; try clear hcz53_6; try clear hcz53_7; try clear hcz53_8; try clear hcz53_9; try clear hfz10_0; try clear hfz10_1; try clear hfz10_2; try clear hfz10_3; try clear hfz11_0; try clear hfz11_1; try clear hfz11_2; try clear hfz11_3; try clear hfz12_0; try clear hfz12_1; try clear hfz12_2; try clear hfz12_3; try clear hfz19_0; try clear hfz19_1; try clear hfz19_2; try clear hfz19_3; try clear hfz21_0; try clear hfz21_1; try clear hfz21_2; try clear hfz21_3; try clear hfz25_0; try clear hfz25_1; try clear hfz25_2; try clear hfz25_3; try clear hfz31_0; try clear hfz31_1; try clear hfz31_2; try clear hfz31_3; try clear hfz34_0; try clear hfz34_1; try clear hfz34_2; try clear hfz34_3; try clear hfz34_4; try clear hfz34_5; try clear hfz34_6; try clear hfz34_7; try clear hfz34_8; try clear hfz34_9; try clear hfz45_0; try clear hfz45_1; try clear hfz45_2; try clear hfz45_3; try clear hfz45_4; try clear hfz45_5; try clear hfz45_6; try clear hfz45_7; try clear hfz45_8; try clear hfz45_9; try clear hfz47_0; try clear hfz47_1; try clear hfz47_2; try clear hfz47_3; try clear hfz47_4; try clear hfz47_5; try clear hfz47_6; try clear hfz47_7; try clear hfz47_8; try clear hfz47_9; try clear hfz49_0; try clear hfz49_1; try clear hfz49_2; try clear hfz49_3; try clear hfz49_4; try clear hfz49_5; try clear hfz49_6; try clear hfz49_7; try clear hfz49_8; try clear hfz49_9; try clear hfz4_0; try clear hfz4_1; try clear hfz4_2; try clear hfz4_3; try clear hfz51_0; try clear hfz51_1; try clear hfz51_2; try clear hfz51_3; try clear hfz51_4; try clear hfz51_5; try clear hfz51_6; try clear hfz51_7; try clear hfz51_8; try clear hfz51_9
            try clear hfz53_0; try clear hfz53_1; try clear hfz53_2; try clear hfz53_3; try clear hfz53_4; try clear hfz53_5; try clear hfz53_6; try clear hfz53_7; try clear hfz53_8; try clear hfz53_9; try clear hx238_0; try clear hx238_1; try clear hx238_2; try clear hx238_3; try clear hx238_4; try clear hx238_5; try clear hx238_6; try clear hx238_7; try clear hx238_8; try clear hx238_9; try clear hx241_0; try clear hx241_1; try clear hx241_2; try clear hx241_3; try clear hx241_4; try clear hx241_5; try clear hx241_6; try clear hx241_7; try clear hx241_8; try clear hx241_9; try clear p2; try clear p23; try clear p238; try clear p24; try clear p241; try clear p6; try clear q2; try clear q23; try clear q238; try clear q24; try clear q241
            obtain ⟨x7_4, rfl, HA, HK4, BK234, HB⟩ := hrel
            cases gk with
            | zero => exact absurd HA.out (by simp [tontineref1_IsConf.l2])
            | succ k4 =>
             have H := HA.out; clear HA
             simp only [tontineref1_IsConf.l2] at H
             by_cases c55 : x7_4 < (l0_3.length : Int)
             ·
              rw [if_pos c55] at H
              have c55b0 : decide (x7_4 < (l0_3.length : Int)) = true := decide_eq_true c55
              clear c55
              replace H := Option.bind_eq_some_iff.mp H
              obtain ⟨t248, A560, H⟩ := H
              have A56 := Goto.m0 A560
              clear A560
              by_cases c57 : t248 = true
              ·
               subst c57
               rw [if_pos rfl] at H
               have H' := Goto.m0 H
               clear H; have hcz58_0 := Goto.bc0 BK234; have hcz58_1 := Goto.bc1 BK234; have hcz58_2 := Goto.bc2 BK234; have hcz58_3 := Goto.bc3 BK234; have hfz58_0 := Goto.bf BK234 0; have hfz58_1 := Goto.bf BK234 1; have hfz58_2 := Goto.bf BK234 2; have hfz58_3 := Goto.bf BK234 3
               go_wp2_with (first | ((with_reducible refine gate_callee (f := 35) rfl ?_); refine goesL_ (some 87) rfl rfl Tryd.func35 (by kernel_rfl) rfl #[.agg #[.int .i64 a0_0, .int .i64 a0_1, .slice A0_2 l0_2.length c0_2, .slice A0_3 l0_3.length c0_3], .int .i64 x7_4] rfl (by (try simp only [List.map_toArray, List.map_cons, List.map_nil]); first | done | rfl | (simp only [List.length_drop, List.length_take]; rfl)) ?_; (with_reducible refine (tontineref1_routes.calls k4 a0_0 a0_1 _ _ l0_2 _ _ l0_3 x7_4 true _ ?side1 ?side2 ?side3 ?side4 A56.out).mono ?_); (case side1 => repeat (first | exact (Kd.C_below HR0_2.out HB.out) | (with_reducible refine Kd.C_alloc ?_ _) | (with_reducible refine Kd.C_drewN ?_ _) | (with_reducible refine Kd.C_drew ?_))); (case side2 => exact HC0_2.out); (case side3 => repeat (first | exact (Kd.C_below HR0_3.out HB.out) | (with_reducible refine Kd.C_alloc ?_ _) | (with_reducible refine Kd.C_drewN ?_ _) | (with_reducible refine Kd.C_drew ?_))); (case side4 => exact HC0_3.out); rintro e w59 ⟨rfl, hb⟩; refine ⟨_, rfl, ?_⟩; replace BK234 := Goto.bb BK234 hb; replace HB := Goto.hs HB hb; (try clear hb); (try clear hb2); (try clear hk); (try clear hi)))
               go_roundg k4
               case measure => have := HJ1.out; have := HK2.out; have := HK3.out; have := HK4.out; omega
               case rel => exact ⟨(wrap64 (x7_4 + 1)), (by first | rfl | (simp; done) | (simp [*]; done)), H', ⟨by have := HJ1.out; have := HK2.out; have := HK3.out; have := HK4.out; omega⟩, ⟨Goto.bx BK234⟩, ⟨Goto.hx HB⟩⟩
              ·
               replace c57 := Bool.eq_false_iff.mpr c57
               subst c57
               rw [if_neg (show ¬ (false = true) by decide)] at H
               obtain rfl := Option.some.inj H
               have hcz60_0 := Goto.bc0 BK234; have hcz60_1 := Goto.bc1 BK234; have hcz60_2 := Goto.bc2 BK234; have hcz60_3 := Goto.bc3 BK234; have hfz60_0 := Goto.bf BK234 0; have hfz60_1 := Goto.bf BK234 1; have hfz60_2 := Goto.bf BK234 2; have hfz60_3 := Goto.bf BK234 3
               go_wp2_with (first | ((with_reducible refine gate_callee (f := 35) rfl ?_); refine goesL_ (some 87) rfl rfl Tryd.func35 (by kernel_rfl) rfl #[.agg #[.int .i64 a0_0, .int .i64 a0_1, .slice A0_2 l0_2.length c0_2, .slice A0_3 l0_3.length c0_3], .int .i64 x7_4] rfl (by (try simp only [List.map_toArray, List.map_cons, List.map_nil]); first | done | rfl | (simp only [List.length_drop, List.length_take]; rfl)) ?_; (with_reducible refine (tontineref1_routes.calls k4 a0_0 a0_1 _ _ l0_2 _ _ l0_3 x7_4 false _ ?side1 ?side2 ?side3 ?side4 A56.out).mono ?_); (case side1 => repeat (first | exact (Kd.C_below HR0_2.out HB.out) | (with_reducible refine Kd.C_alloc ?_ _) | (with_reducible refine Kd.C_drewN ?_ _) | (with_reducible refine Kd.C_drew ?_))); (case side2 => exact HC0_2.out); (case side3 => repeat (first | exact (Kd.C_below HR0_3.out HB.out) | (with_reducible refine Kd.C_alloc ?_ _) | (with_reducible refine Kd.C_drewN ?_ _) | (with_reducible refine Kd.C_drew ?_))); (case side4 => exact HC0_3.out); rintro e w61 ⟨rfl, hb⟩; refine ⟨_, rfl, ?_⟩; replace BK234 := Goto.bb BK234 hb; replace HB := Goto.hs HB hb; (try clear hb); (try clear hb2); (try clear hk); (try clear hi)))
               go_ret
               exact ⟨Goto.er, by repeat (first | (with_reducible first | exact HB.out | apply below_alloc | apply pw_below_drewN | apply below_drew1 | refine below_set ?_ GE234.out) | exact HB.out)⟩
             ·
              rw [if_neg c55] at H
              have c55b0 : decide (x7_4 < (l0_3.length : Int)) = false := decide_eq_false c55
              clear c55
              obtain rfl := Option.some.inj H
              go_wp2
              go_ret
              exact ⟨Goto.er, by repeat (first | (with_reducible first | exact HB.out | apply below_alloc | apply pw_below_drewN | apply below_drew1 | refine below_set ?_ GE234.out) | exact HB.out)⟩
       ·
        replace c24 := Bool.eq_false_iff.mpr c24
        subst c24
        rw [if_neg (show ¬ (false = true) by decide)] at H
        obtain rfl := Option.some.inj H
        have hcz62_0 := Goto.bc0 BK234; have hcz62_1 := Goto.bc1 BK234; have hcz62_2 := Goto.bc2 BK234; have hcz62_3 := Goto.bc3 BK234; have hfz62_0 := Goto.bf BK234 0; have hfz62_1 := Goto.bf BK234 1; have hfz62_2 := Goto.bf BK234 2; have hfz62_3 := Goto.bf BK234 3
        go_wp2_with (first | ((with_reducible refine gate_callee (f := 34) rfl ?_); refine goesL_ (some 40) rfl rfl Tryd.func34 (by kernel_rfl) rfl #[.agg #[.int .i64 a0_0, .int .i64 a0_1, .slice A0_2 l0_2.length c0_2, .slice A0_3 l0_3.length c0_3]] rfl (by (try simp only [List.map_toArray, List.map_cons, List.map_nil]); first | done | rfl | (simp only [List.length_drop, List.length_take]; rfl)) ?_; (with_reducible refine (tontineref1_shares.calls k2 a0_0 a0_1 _ _ l0_2 _ _ l0_3 false _ ?side1 ?side2 ?side3 ?side4 A23.out).mono ?_); (case side1 => repeat (first | exact (Kd.C_below HR0_2.out HB.out) | (with_reducible refine Kd.C_alloc ?_ _) | (with_reducible refine Kd.C_drewN ?_ _) | (with_reducible refine Kd.C_drew ?_))); (case side2 => exact HC0_2.out); (case side3 => repeat (first | exact (Kd.C_below HR0_3.out HB.out) | (with_reducible refine Kd.C_alloc ?_ _) | (with_reducible refine Kd.C_drewN ?_ _) | (with_reducible refine Kd.C_drew ?_))); (case side4 => exact HC0_3.out); rintro e w63 ⟨rfl, hb⟩; refine ⟨_, rfl, ?_⟩; replace BK234 := Goto.bb BK234 hb; replace HB := Goto.hs HB hb; (try clear hb); (try clear hb2); (try clear hk); (try clear hi)))
        go_ret
        exact ⟨Goto.er, by repeat (first | (with_reducible first | exact HB.out | apply below_alloc | apply pw_below_drewN | apply below_drew1 | refine below_set ?_ GE234.out) | exact HB.out)⟩

end Go.Proofs.YtbhfkhcedjgpdaaDoor.P
