/- Printed by a program of this workplace (a turned copy of the kit's optional print), out of the translation; not trusted: Lean checks it. -/
import Derived.Test.YtlmllmbbdlkknaaDoorPx0
import Derived.Test.YtlmllmbbdlkknaaDoorPx7
import Derived.Test.YtlmllmbbdlkknaaDoorSam
import Derived.Test.YtlmllmbbdlkknaaDoorTxt
namespace Go.Proofs.YtlmllmbbdlkknaaDoor.P
open Go.RowKit Go.Proofs.YtlmllmbbdlkknaaDoorW.PrintWords Go.Proofs.YtlmllmbbdlkknaaDoorW.PrintLast Go.Proofs.YtlmllmbbdlkknaaDoorW.PrintMore
attribute [local go_sem] max2_int min2_int max_two min_two max_three min_three max_four min_four   -- for this text's walks alone
set_option linter.unusedVariables false
set_option linter.unusedSimpArgs false

/-! ### tontinelaw24_seen: function 20 -/
def tontinelaw24_seen.f (a0_0 : Int) (a0_1 : Int) (a0_2 : Int) (a0_3 : Int) (a0_4 : Int) (a0_5 : Int) : Option (Bool) := if a0_1 = 2 then (some true) else (if a0_1 = 1 then (if a0_3 = 0 then (if a0_4 = 0 then (some (a0_5 == 0)) else (some false)) else (some false)) else (some false))
set_option maxHeartbeats 8000000 in
set_option maxRecDepth 100000 in
theorem tontinelaw24_seen.calls (a0_0 : Int) (a0_1 : Int) (a0_2 : Int) (a0_3 : Int) (a0_4 : Int) (a0_5 : Int) (r : Bool) (w : World) (h : tontinelaw24_seen.f a0_0 a0_1 a0_2 a0_3 a0_4 a0_5 = some r) :
    Calls Tryd.prog 20 #[.agg #[.int .i64 a0_0, .int .i64 a0_1, .int .i64 a0_2, .int .i64 a0_3, .int .i64 a0_4, .int .i64 a0_5]] w fun e w' => e = .returned (.bool r) ∧ Below w.heap.size w w' := by
 have hu35 := Tryd.underlying35
 have HB := Goto.m0 (Below.refl w.heap.size w)
 have H : (if a0_1 = 2 then (some true) else (if a0_1 = 1 then (if a0_3 = 0 then (if a0_4 = 0 then (some (a0_5 == 0)) else (some false)) else (some false)) else (some false))) = some r := h
 clear h
 by_cases c2 : a0_1 = 2
 ·
  rw [if_pos c2] at H
  have c2b0 : (a0_1 == 2) = true := beq_iff_eq.mpr c2
  have c2b1 : (a0_1 != 2) = false := bne_eq_false_iff_eq.mpr c2
  clear c2
  obtain rfl := Option.some.inj H
  go_enter Tryd.func20, Tryd.ntmps20
  go_wp2_with (first | ((with_reducible refine gate_dst (N := 1) rfl ?_); refine box_event ?hg (N := 1) ?hd (cs := #[.int .i64 a0_0, .int .i64 a0_1, .int .i64 a0_2, .int .i64 a0_3, .int .i64 a0_4, .int .i64 a0_5]) (t := 35) ?hr ?_; (case hd => rfl); (case hg => rfl); (case hr => first | (go_simp; done) | (go_simp; rfl)); intro gb346 hg w3 hbox hb; have BK346 := Goto.m0 (hbox); have GW346 := Goto.gs HB hg; have GE346 := Goto.gs HB hg; replace HB := Goto.hs HB hb; clear hb hbox hg; have hcz4_0 := Goto.bc0 BK346; have hcz4_1 := Goto.bc1 BK346; have hcz4_2 := Goto.bc2 BK346; have hcz4_3 := Goto.bc3 BK346; have hcz4_4 := Goto.bc4 BK346; have hcz4_5 := Goto.bc5 BK346; have hfz4_0 := Goto.bf BK346 0; have hfz4_1 := Goto.bf BK346 1; have hfz4_2 := Goto.bf BK346 2; have hfz4_3 := Goto.bf BK346 3; have hfz4_4 := Goto.bf BK346 4; have hfz4_5 := Goto.bf BK346 5))
  go_ret
  exact ⟨Goto.er, by repeat (first | (with_reducible first | exact HB.out | apply below_alloc | apply pw_below_drewN | apply below_drew1 | refine below_set ?_ GE346.out) | exact HB.out)⟩
 ·
  rw [if_neg c2] at H
  have c2b0 : (a0_1 == 2) = false := beq_eq_false_iff_ne.mpr c2
  have c2b1 : (a0_1 != 2) = true := bne_iff_ne.mpr c2
  by_cases c5 : a0_1 = 1
  ·
   rw [if_pos c5] at H
   have c5b0 : (a0_1 == 1) = true := beq_iff_eq.mpr c5
   have c5b1 : (a0_1 != 1) = false := bne_eq_false_iff_eq.mpr c5
   clear c5
   by_cases c6 : a0_3 = 0
   ·
    rw [if_pos c6] at H
    have c6b0 : (a0_3 == 0) = true := beq_iff_eq.mpr c6
    have c6b1 : (a0_3 != 0) = false := bne_eq_false_iff_eq.mpr c6
    clear c6
    by_cases c7 : a0_4 = 0
    ·
     rw [if_pos c7] at H
     have c7b0 : (a0_4 == 0) = true := beq_iff_eq.mpr c7
     have c7b1 : (a0_4 != 0) = false := bne_eq_false_iff_eq.mpr c7
     clear c7
     obtain rfl := Option.some.inj H
     go_enter Tryd.func20, Tryd.ntmps20
     go_wp2_with (first | ((with_reducible refine gate_dst (N := 1) rfl ?_); refine box_event ?hg (N := 1) ?hd (cs := #[.int .i64 a0_0, .int .i64 a0_1, .int .i64 a0_2, .int .i64 a0_3, .int .i64 a0_4, .int .i64 a0_5]) (t := 35) ?hr ?_; (case hd => rfl); (case hg => rfl); (case hr => first | (go_simp; done) | (go_simp; rfl)); intro gb346 hg w8 hbox hb; have BK346 := Goto.m0 (hbox); have GW346 := Goto.gs HB hg; have GE346 := Goto.gs HB hg; replace HB := Goto.hs HB hb; clear hb hbox hg; have hcz9_0 := Goto.bc0 BK346; have hcz9_1 := Goto.bc1 BK346; have hcz9_2 := Goto.bc2 BK346; have hcz9_3 := Goto.bc3 BK346; have hcz9_4 := Goto.bc4 BK346; have hcz9_5 := Goto.bc5 BK346; have hfz9_0 := Goto.bf BK346 0; have hfz9_1 := Goto.bf BK346 1; have hfz9_2 := Goto.bf BK346 2; have hfz9_3 := Goto.bf BK346 3; have hfz9_4 := Goto.bf BK346 4; have hfz9_5 := Goto.bf BK346 5))
     go_ret
     exact ⟨Goto.er, by repeat (first | (with_reducible first | exact HB.out | apply below_alloc | apply pw_below_drewN | apply below_drew1 | refine below_set ?_ GE346.out) | exact HB.out)⟩
    ·
     rw [if_neg c7] at H
     have c7b0 : (a0_4 == 0) = false := beq_eq_false_iff_ne.mpr c7
     have c7b1 : (a0_4 != 0) = true := bne_iff_ne.mpr c7
     obtain rfl := Option.some.inj H
     go_enter Tryd.func20, Tryd.ntmps20
     go_wp2_with (first | ((with_reducible refine gate_dst (N := 1) rfl ?_); refine box_event ?hg (N := 1) ?hd (cs := #[.int .i64 a0_0, .int .i64 a0_1, .int .i64 a0_2, .int .i64 a0_3, .int .i64 a0_4, .int .i64 a0_5]) (t := 35) ?hr ?_; (case hd => rfl); (case hg => rfl); (case hr => first | (go_simp; done) | (go_simp; rfl)); intro gb346 hg w10 hbox hb; have BK346 := Goto.m0 (hbox); have GW346 := Goto.gs HB hg; have GE346 := Goto.gs HB hg; replace HB := Goto.hs HB hb; clear hb hbox hg; have hcz11_0 := Goto.bc0 BK346; have hcz11_1 := Goto.bc1 BK346; have hcz11_2 := Goto.bc2 BK346; have hcz11_3 := Goto.bc3 BK346; have hcz11_4 := Goto.bc4 BK346; have hcz11_5 := Goto.bc5 BK346; have hfz11_0 := Goto.bf BK346 0; have hfz11_1 := Goto.bf BK346 1; have hfz11_2 := Goto.bf BK346 2; have hfz11_3 := Goto.bf BK346 3; have hfz11_4 := Goto.bf BK346 4; have hfz11_5 := Goto.bf BK346 5))
     go_ret
     exact ⟨Goto.er, by repeat (first | (with_reducible first | exact HB.out | apply below_alloc | apply pw_below_drewN | apply below_drew1 | refine below_set ?_ GE346.out) | exact HB.out)⟩
   ·
    rw [if_neg c6] at H
    have c6b0 : (a0_3 == 0) = false := beq_eq_false_iff_ne.mpr c6
    have c6b1 : (a0_3 != 0) = true := bne_iff_ne.mpr c6
    obtain rfl := Option.some.inj H
    go_enter Tryd.func20, Tryd.ntmps20
    go_wp2_with (first | ((with_reducible refine gate_dst (N := 1) rfl ?_); refine box_event ?hg (N := 1) ?hd (cs := #[.int .i64 a0_0, .int .i64 a0_1, .int .i64 a0_2, .int .i64 a0_3, .int .i64 a0_4, .int .i64 a0_5]) (t := 35) ?hr ?_; (case hd => rfl); (case hg => rfl); (case hr => first | (go_simp; done) | (go_simp; rfl)); intro gb346 hg w12 hbox hb; have BK346 := Goto.m0 (hbox); have GW346 := Goto.gs HB hg; have GE346 := Goto.gs HB hg; replace HB := Goto.hs HB hb; clear hb hbox hg; have hcz13_0 := Goto.bc0 BK346; have hcz13_1 := Goto.bc1 BK346; have hcz13_2 := Goto.bc2 BK346; have hcz13_3 := Goto.bc3 BK346; have hcz13_4 := Goto.bc4 BK346; have hcz13_5 := Goto.bc5 BK346; have hfz13_0 := Goto.bf BK346 0; have hfz13_1 := Goto.bf BK346 1; have hfz13_2 := Goto.bf BK346 2; have hfz13_3 := Goto.bf BK346 3; have hfz13_4 := Goto.bf BK346 4; have hfz13_5 := Goto.bf BK346 5))
    go_ret
    exact ⟨Goto.er, by repeat (first | (with_reducible first | exact HB.out | apply below_alloc | apply pw_below_drewN | apply below_drew1 | refine below_set ?_ GE346.out) | exact HB.out)⟩
  ·
   rw [if_neg c5] at H
   have c5b0 : (a0_1 == 1) = false := beq_eq_false_iff_ne.mpr c5
   have c5b1 : (a0_1 != 1) = true := bne_iff_ne.mpr c5
   obtain rfl := Option.some.inj H
   go_enter Tryd.func20, Tryd.ntmps20
   go_wp2_with (first | ((with_reducible refine gate_dst (N := 1) rfl ?_); refine box_event ?hg (N := 1) ?hd (cs := #[.int .i64 a0_0, .int .i64 a0_1, .int .i64 a0_2, .int .i64 a0_3, .int .i64 a0_4, .int .i64 a0_5]) (t := 35) ?hr ?_; (case hd => rfl); (case hg => rfl); (case hr => first | (go_simp; done) | (go_simp; rfl)); intro gb346 hg w14 hbox hb; have BK346 := Goto.m0 (hbox); have GW346 := Goto.gs HB hg; have GE346 := Goto.gs HB hg; replace HB := Goto.hs HB hb; clear hb hbox hg; have hcz15_0 := Goto.bc0 BK346; have hcz15_1 := Goto.bc1 BK346; have hcz15_2 := Goto.bc2 BK346; have hcz15_3 := Goto.bc3 BK346; have hcz15_4 := Goto.bc4 BK346; have hcz15_5 := Goto.bc5 BK346; have hfz15_0 := Goto.bf BK346 0; have hfz15_1 := Goto.bf BK346 1; have hfz15_2 := Goto.bf BK346 2; have hfz15_3 := Goto.bf BK346 3; have hfz15_4 := Goto.bf BK346 4; have hfz15_5 := Goto.bf BK346 5))
   go_ret
   exact ⟨Goto.er, by repeat (first | (with_reducible first | exact HB.out | apply below_alloc | apply pw_below_drewN | apply below_drew1 | refine below_set ?_ GE346.out) | exact HB.out)⟩

/-! ### tontinelaw24_TraceUnlike: function 4 -/
mutual
def tontinelaw24_TraceUnlike.j0 : Nat → List (S35) → List (S35) → Bool → Option (Bool)
  | 0, _, _, _ => none
  | k + 1, x0, x1, x16 => if x16 = true then (some true) else (tontinelaw24_TraceUnlike.l0 k x0 x1 0)
def tontinelaw24_TraceUnlike.l0 : Nat → List (S35) → List (S35) → Int → Option (Bool)
  | 0, _, _, _ => none
  | k + 1, x0, x1, x5 => if x5 < (x0.length : Int) then (if 0 ≤ x5 then ((tontinelaw24_seen.f ((rd_T35 x0 x5).f0) ((rd_T35 x0 x5).f1) ((rd_T35 x0 x5).f2) ((rd_T35 x0 x5).f3) ((rd_T35 x0 x5).f4) ((rd_T35 x0 x5).f5)).bind fun t349 => (if t349 = true then (tontinelaw24_TraceUnlike.l0 k x0 x1 (wrap64 (x5 + 1))) else (some true))) else (none)) else (tontinelaw24_TraceUnlike.l1 k x0 x1 0)
def tontinelaw24_TraceUnlike.l1 : Nat → List (S35) → List (S35) → Int → Option (Bool)
  | 0, _, _, _ => none
  | k + 1, x0, x1, x6 => if x6 < (x1.length : Int) then (if 0 ≤ x6 then ((tontinelaw24_seen.f ((rd_T35 x1 x6).f0) ((rd_T35 x1 x6).f1) ((rd_T35 x1 x6).f2) ((rd_T35 x1 x6).f3) ((rd_T35 x1 x6).f4) ((rd_T35 x1 x6).f5)).bind fun t351 => (if t351 = true then (tontinelaw24_TraceUnlike.l1 k x0 x1 (wrap64 (x6 + 1))) else (some true))) else (none)) else ((ext_13.f x0).bind fun t352 => ((ext_13.f x1).bind fun t353 => ((ext_11.f x0 x1).bind fun t354 => (some ((t352.toList == t353.toList) == t354)))))
end
def tontinelaw24_TraceUnlike.f (k : Nat) (l0 : List (S35)) (l1 : List (S35)) : Option (Bool) := (tontinelaw24_known.f k).bind fun t347 => (if t347 = true then (if (l0.length : Int) > 60 then (tontinelaw24_TraceUnlike.j0 k l0 l1 true) else (tontinelaw24_TraceUnlike.j0 k l0 l1 (decide ((l1.length : Int) > 60)))) else (some false))
theorem tontinelaw24_TraceUnlike.mono_l : ∀ k, (∀ y0 y1 y2, LeO (tontinelaw24_TraceUnlike.j0 k y0 y1 y2) (tontinelaw24_TraceUnlike.j0 (k + 1) y0 y1 y2)) ∧ (∀ y0 y1 y2, LeO (tontinelaw24_TraceUnlike.l0 k y0 y1 y2) (tontinelaw24_TraceUnlike.l0 (k + 1) y0 y1 y2)) ∧ (∀ y0 y1 y2, LeO (tontinelaw24_TraceUnlike.l1 k y0 y1 y2) (tontinelaw24_TraceUnlike.l1 (k + 1) y0 y1 y2))
  | 0 => ⟨fun _ _ _ r h => by simp [tontinelaw24_TraceUnlike.j0] at h, fun _ _ _ r h => by simp [tontinelaw24_TraceUnlike.l0] at h, fun _ _ _ r h => by simp [tontinelaw24_TraceUnlike.l1] at h⟩
  | k + 1 => by
    obtain ⟨ih0, ih1, ih2⟩ := tontinelaw24_TraceUnlike.mono_l k
    refine ⟨?_, ?_, ?_⟩
    · intro y0 y1 y2
      unfold tontinelaw24_TraceUnlike.j0
      repeat' first
      | (with_reducible exact ih0 _ _ _)
      | (with_reducible exact ih1 _ _ _)
      | (with_reducible exact ih2 _ _ _)
      | (with_reducible exact tontinelaw24_known.mono _)
      | (with_reducible exact LeO.refl _)
      | (with_reducible exact LeO.none _)
      | (with_reducible refine LeO.ite ?_ ?_)
      | (with_reducible refine LeO.bind ?_ (fun _ => ?_))
      | exact ih0 _ _ _
      | exact ih1 _ _ _
      | exact ih2 _ _ _
      | exact tontinelaw24_known.mono _
      | exact LeO.none _
      | refine LeO.ite ?_ ?_
      | refine LeO.bind ?_ (fun _ => ?_)
    · intro y0 y1 y2
      unfold tontinelaw24_TraceUnlike.l0
      repeat' first
      | (with_reducible exact ih0 _ _ _)
      | (with_reducible exact ih1 _ _ _)
      | (with_reducible exact ih2 _ _ _)
      | (with_reducible exact tontinelaw24_known.mono _)
      | (with_reducible exact LeO.refl _)
      | (with_reducible exact LeO.none _)
      | (with_reducible refine LeO.ite ?_ ?_)
      | (with_reducible refine LeO.bind ?_ (fun _ => ?_))
      | exact ih0 _ _ _
      | exact ih1 _ _ _
      | exact ih2 _ _ _
      | exact tontinelaw24_known.mono _
      | exact LeO.none _
      | refine LeO.ite ?_ ?_
      | refine LeO.bind ?_ (fun _ => ?_)
    · intro y0 y1 y2
      unfold tontinelaw24_TraceUnlike.l1
      repeat' first
      | (with_reducible exact ih0 _ _ _)
      | (with_reducible exact ih1 _ _ _)
      | (with_reducible exact ih2 _ _ _)
      | (with_reducible exact tontinelaw24_known.mono _)
      | (with_reducible exact LeO.refl _)
      | (with_reducible exact LeO.none _)
      | (with_reducible refine LeO.ite ?_ ?_)
      | (with_reducible refine LeO.bind ?_ (fun _ => ?_))
      | exact ih0 _ _ _
      | exact ih1 _ _ _
      | exact ih2 _ _ _
      | exact tontinelaw24_known.mono _
      | exact LeO.none _
      | refine LeO.ite ?_ ?_
      | refine LeO.bind ?_ (fun _ => ?_)
theorem tontinelaw24_TraceUnlike.mono : ∀ a0 a1 k, LeO (tontinelaw24_TraceUnlike.f k a0 a1) (tontinelaw24_TraceUnlike.f (k + 1) a0 a1) := by
 intro a0 a1 k
 obtain ⟨ih0, ih1, ih2⟩ := tontinelaw24_TraceUnlike.mono_l k
 unfold tontinelaw24_TraceUnlike.f
 repeat' first
   | (with_reducible exact ih0 _ _ _)
   | (with_reducible exact ih1 _ _ _)
   | (with_reducible exact ih2 _ _ _)
   | (with_reducible exact tontinelaw24_known.mono _)
   | (with_reducible exact LeO.refl _)
   | (with_reducible exact LeO.none _)
   | (with_reducible refine LeO.ite ?_ ?_)
   | (with_reducible refine LeO.bind ?_ (fun _ => ?_))
   | exact ih0 _ _ _
   | exact ih1 _ _ _
   | exact ih2 _ _ _
   | exact tontinelaw24_known.mono _
   | exact LeO.none _
   | refine LeO.ite ?_ ?_
   | refine LeO.bind ?_ (fun _ => ?_)
set_option maxHeartbeats 8000000 in
set_option maxRecDepth 100000 in
theorem tontinelaw24_TraceUnlike.calls (k : Nat) (A0 : Option Addr) (c0 : Nat) (l0 : List (S35)) (A1 : Option Addr) (c1 : Nat) (l1 : List (S35)) (r : Bool) (hrt : r = true) (w : World) (hld : Lib.TabIs Tryd.prog w "internal/strconv.uint64pow10" .u64 Lib.pow10Tab) (hr0 : Kd.C k35 w A0 l0.length l0) (hc0 : l0.length ≤ c0) (hr1 : Kd.C k35 w A1 l1.length l1) (hc1 : l1.length ≤ c1) (h : tontinelaw24_TraceUnlike.f k l0 l1 = some r) :
    Calls Tryd.prog 4 #[.slice A0 l0.length c0, .slice A1 l1.length c1] w fun e w' => e = .returned (.bool r) ∧ Below w.heap.size w w' := by
 have hu35 := Tryd.underlying35
 have HR0 := Goto.m0 hr0
 have HC0 := Goto.m0 hc0
 clear hr0 hc0
 have HR1 := Goto.m0 hr1
 have HC1 := Goto.m0 hc1
 clear hr1 hc1
 have HB := Goto.m0 (Below.refl w.heap.size w)
 have HRT := Goto.m0 hrt
 clear hrt
 have HLD := Goto.m0 hld
 clear hld
 have H : ((tontinelaw24_known.f k).bind fun t347 => (if t347 = true then (if (l0.length : Int) > 60 then (tontinelaw24_TraceUnlike.j0 k l0 l1 true) else (tontinelaw24_TraceUnlike.j0 k l0 l1 (decide ((l1.length : Int) > 60)))) else (some false))) = some r := h
 clear h
 replace H := Option.bind_eq_some_iff.mp H
 obtain ⟨t347, A30, H⟩ := H
 have A3 := Goto.m0 A30
 clear A30
 by_cases c4 : t347 = true
 ·
  subst c4
  rw [if_pos rfl] at H
  have HC5 := Goto.m0 H
  clear H
  go_enter Tryd.func4, Tryd.ntmps4
  go_upto_region 3 with (first | ((with_reducible refine gate_callee (f := 7) rfl ?_); refine goesL_ (some 7) rfl rfl Tryd.func7 (by kernel_rfl) rfl #[] rfl (by (try simp only [List.map_toArray, List.map_cons, List.map_nil]); first | done | rfl | (simp only [List.length_drop, List.length_take]; rfl)) ?_; (with_reducible refine (tontinelaw24_known.calls k  true (by first | rfl | assumption | (simp only [Bool.not_eq_true, Bool.not_eq_false] at *; assumption)) _ (Goto.kt (Goto.hx HB) HLD.out) A3.out).mono ?_); rintro e w6 ⟨rfl, hb⟩; refine ⟨_, rfl, ?_⟩; replace HB := Goto.hs HB hb; (try clear hb); (try clear hb2); (try clear hk); (try clear hi)))
  (try simp only [Act.put, List.setIfInBounds_toArray, List.set_cons_zero, List.set_cons_succ])
  go_cut [16] (fun v16 wc => ∃ (kq : Nat) (x16_4 : Bool), v16 = .bool x16_4 ∧ Aside0 (tontinelaw24_TraceUnlike.j0 kq l0 l1 x16_4 = some r) ∧ Aside0 (kq ≤ k) ∧ Aside0 (Below w.heap.size w wc))
  case first =>
   have H := HC5.out; clear HC5
   by_cases c7 : (l0.length : Int) > 60
   ·
    rw [if_pos c7] at H
    have c7b0 : decide (60 < (l0.length : Int)) = true := decide_eq_true c7
    have c7b1 : decide (60 < l0.length) = true := decide_eq_true (by omega)
    clear c7
    (first | rw [c7b0] | (simp only [i64_w, i32_w]; rw [c7b0]) | skip)
    have H' := Goto.m0 H
    clear H
    go_wp2
    go_meet
    case rel => exact ⟨_, (true), (by first | rfl | (simp; done) | (simp [*]; done)), H', ⟨by first | omega | exact Nat.le_refl _⟩, ⟨Goto.hx HB⟩⟩
   ·
    rw [if_neg c7] at H
    have c7b0 : decide (60 < (l0.length : Int)) = false := decide_eq_false c7
    have c7b1 : decide (60 < l0.length) = false := decide_eq_false (by omega)
    clear c7
    (first | rw [c7b0] | (simp only [i64_w, i32_w]; rw [c7b0]) | skip)
    have H' := Goto.m0 H
    clear H
    go_wp2
    go_meet
    case rel => exact ⟨_, (decide ((l1.length : Int) > 60)), (by first | rfl | (simp; done) | (simp [*]; done)), H', ⟨by first | omega | exact Nat.le_refl _⟩, ⟨Goto.hx HB⟩⟩
  case rest =>
   clear HC5; try clear c1; try clear p2; try clear c4; try clear c7; try clear c7b0; try clear c7b1
   obtain ⟨kq, x16_4, rfl, HA, HJ4, HB⟩ := hcut
   cases kq with
   | zero => exact absurd HA.out (by simp [tontinelaw24_TraceUnlike.j0])
   | succ kj4 =>
    have H := HA.out; clear HA
    simp only [tontinelaw24_TraceUnlike.j0] at H
    by_cases c8 : x16_4 = true
    ·
     subst c8
     rw [if_pos rfl] at H
     obtain rfl := Option.some.inj H
     go_wp2
     go_ret
     exact ⟨Goto.er, by repeat (first | (with_reducible first | exact HB.out | apply below_alloc | apply pw_below_drewN | apply below_drew1) | exact HB.out)⟩
    ·
     replace c8 := Bool.eq_false_iff.mpr c8
     subst c8
     rw [if_neg (show ¬ (false = true) by decide)] at H
     have H' := Goto.m0 H
     clear H
     go_wp2
     go_loopg [5] kj4 (fun kq v5 w' => ∃ (x5_2 : Int), v5 = .int .i64 x5_2 ∧ Aside0 (tontinelaw24_TraceUnlike.l0 kq l0 l1 x5_2 = some r) ∧ Aside0 (kq ≤ kj4) ∧ Aside0 (Below w.heap.size w w'))
     case atStart => exact ⟨(0), (by first | rfl | (simp; done) | (simp [*]; done)), H', ⟨Nat.le_refl _⟩, ⟨Goto.hx HB⟩⟩
     case round =>
      clear H'
      try clear c1; try clear p2; try clear c4; try clear c7; try clear c7b0; try clear c7b1; try clear c8; try clear p2
      obtain ⟨x5_2, rfl, HA, HK2, HB⟩ := hrel
      cases gk with
      | zero => exact absurd HA.out (by simp [tontinelaw24_TraceUnlike.l0])
      | succ k2 =>
       have H := HA.out; clear HA
       simp only [tontinelaw24_TraceUnlike.l0] at H
       by_cases c9 : x5_2 < (l0.length : Int)
       ·
        rw [if_pos c9] at H
        have c9b0 : decide (x5_2 < (l0.length : Int)) = true := decide_eq_true c9
        clear c9
        by_cases c10 : 0 ≤ x5_2
        ·
         rw [if_pos c10] at H
         have c10b0 : decide (0 ≤ x5_2) = true := decide_eq_true c10
         clear c10
         replace H := Option.bind_eq_some_iff.mp H
         obtain ⟨t349, A110, H⟩ := H
         have A11 := Goto.m0 A110
         clear A110
         by_cases c12 : t349 = true
         ·
          subst c12
          rw [if_pos rfl] at H
          have H' := Goto.m0 H
          clear H
          have p348 : 0 ≤ (x5_2 : Int) := Goto.od
          have q348 : x5_2 < (l0.length : Int) := Goto.od
          obtain ⟨ad348, e348, hx348_0, hx348_1, hx348_2, hx348_3, hx348_4, hx348_5⟩ := at_T35 HR0.out x5_2 p348 q348
          cases e348
          replace hx348_0 := Goto.kc HB.out hx348_0
          replace hx348_1 := Goto.kc HB.out hx348_1
          replace hx348_2 := Goto.kc HB.out hx348_2
          replace hx348_3 := Goto.kc HB.out hx348_3
          replace hx348_4 := Goto.kc HB.out hx348_4
          replace hx348_5 := Goto.kc HB.out hx348_5
          replace p348 := eq_true p348; replace q348 := eq_true q348
          go_wp2_with (first | ((with_reducible refine gate_callee (f := 20) rfl ?_); refine goesL_ (some 27) rfl rfl Tryd.func20 (by kernel_rfl) rfl #[.agg #[.int .i64 ((rd_T35 l0 x5_2).f0), .int .i64 ((rd_T35 l0 x5_2).f1), .int .i64 ((rd_T35 l0 x5_2).f2), .int .i64 ((rd_T35 l0 x5_2).f3), .int .i64 ((rd_T35 l0 x5_2).f4), .int .i64 ((rd_T35 l0 x5_2).f5)]] rfl (by (try simp only [List.map_toArray, List.map_cons, List.map_nil]); first | done | rfl | (simp only [List.length_drop, List.length_take]; rfl)) ?_; (with_reducible refine (tontinelaw24_seen.calls ((rd_T35 l0 x5_2).f0) ((rd_T35 l0 x5_2).f1) ((rd_T35 l0 x5_2).f2) ((rd_T35 l0 x5_2).f3) ((rd_T35 l0 x5_2).f4) ((rd_T35 l0 x5_2).f5) true _ A11.out).mono ?_); rintro e w13 ⟨rfl, hb⟩; refine ⟨_, rfl, ?_⟩; replace HB := Goto.hs HB hb; (try clear hb); (try clear hb2); (try clear hk); (try clear hi)))
          go_roundg k2
          case measure => have := HJ4.out; have := HK2.out; omega
          case rel => exact ⟨(wrap64 (x5_2 + 1)), (by first | rfl | (simp; done) | (simp [*]; done)), H', ⟨by have := HJ4.out; have := HK2.out; omega⟩, ⟨Goto.hx HB⟩⟩
         ·
          replace c12 := Bool.eq_false_iff.mpr c12
          subst c12
          rw [if_neg (show ¬ (false = true) by decide)] at H
          obtain rfl := Option.some.inj H
          have p348 : 0 ≤ (x5_2 : Int) := Goto.od
          have q348 : x5_2 < (l0.length : Int) := Goto.od
          obtain ⟨ad348, e348, hx348_0, hx348_1, hx348_2, hx348_3, hx348_4, hx348_5⟩ := at_T35 HR0.out x5_2 p348 q348
          cases e348
          replace hx348_0 := Goto.kc HB.out hx348_0
          replace hx348_1 := Goto.kc HB.out hx348_1
          replace hx348_2 := Goto.kc HB.out hx348_2
          replace hx348_3 := Goto.kc HB.out hx348_3
          replace hx348_4 := Goto.kc HB.out hx348_4
          replace hx348_5 := Goto.kc HB.out hx348_5
          replace p348 := eq_true p348; replace q348 := eq_true q348
          go_wp2_with (first | ((with_reducible refine gate_callee (f := 20) rfl ?_); refine goesL_ (some 27) rfl rfl Tryd.func20 (by kernel_rfl) rfl #[.agg #[.int .i64 ((rd_T35 l0 x5_2).f0), .int .i64 ((rd_T35 l0 x5_2).f1), .int .i64 ((rd_T35 l0 x5_2).f2), .int .i64 ((rd_T35 l0 x5_2).f3), .int .i64 ((rd_T35 l0 x5_2).f4), .int .i64 ((rd_T35 l0 x5_2).f5)]] rfl (by (try simp only [List.map_toArray, List.map_cons, List.map_nil]); first | done | rfl | (simp only [List.length_drop, List.length_take]; rfl)) ?_; (with_reducible refine (tontinelaw24_seen.calls ((rd_T35 l0 x5_2).f0) ((rd_T35 l0 x5_2).f1) ((rd_T35 l0 x5_2).f2) ((rd_T35 l0 x5_2).f3) ((rd_T35 l0 x5_2).f4) ((rd_T35 l0 x5_2).f5) false _ A11.out).mono ?_); rintro e w14 ⟨rfl, hb⟩; refine ⟨_, rfl, ?_⟩; replace HB := Goto.hs HB hb; (try clear hb); (try clear hb2); (try clear hk); (try clear hi)))
          go_ret
          exact ⟨Goto.er, by repeat (first | (with_reducible first | exact HB.out | apply below_alloc | apply pw_below_drewN | apply below_drew1) | exact HB.out)⟩
        ·
         rw [if_neg c10] at H
         exact absurd H (by simp)
       ·
        rw [if_neg c9] at H
        have c9b0 : decide (x5_2 < (l0.length : Int)) = false := decide_eq_false c9
        clear c9
        have H' := Goto.m0 H
        clear H
        go_wp2
        go_loopg [6] k2 (fun kq v6 w' => ∃ (x6_3 : Int), v6 = .int .i64 x6_3 ∧ Aside0 (tontinelaw24_TraceUnlike.l1 kq l0 l1 x6_3 = some r) ∧ Aside0 (kq ≤ k2) ∧ Aside0 (Below w.heap.size w w'))
        case atStart => exact ⟨(0), (by first | rfl | (simp; done) | (simp [*]; done)), H', ⟨Nat.le_refl _⟩, ⟨Goto.hx HB⟩⟩
        case round =>
         clear H'
         try clear c1; try clear c2; try clear p2; try clear p3; try clear q3; try clear hx3; try clear c4; try clear p6; try clear c7; try clear c7b0; try clear c7b1; try clear c8; try clear c9; try clear c9b0; try clear c10; try clear c10b0; try clear c12; try clear hx348_0; try clear hx348_1; try clear hx348_2; try clear hx348_3; try clear hx348_4; try clear hx348_5; try clear p2; try clear p348; try clear q348
         obtain ⟨x6_3, rfl, HA, HK3, HB⟩ := hrel
         cases gk with
         | zero => exact absurd HA.out (by simp [tontinelaw24_TraceUnlike.l1])
         | succ k3 =>
          have H := HA.out; clear HA
          simp only [tontinelaw24_TraceUnlike.l1] at H
          by_cases c15 : x6_3 < (l1.length : Int)
          ·
           rw [if_pos c15] at H
           have c15b0 : decide (x6_3 < (l1.length : Int)) = true := decide_eq_true c15
           clear c15
           by_cases c16 : 0 ≤ x6_3
           ·
            rw [if_pos c16] at H
            have c16b0 : decide (0 ≤ x6_3) = true := decide_eq_true c16
            clear c16
            replace H := Option.bind_eq_some_iff.mp H
            obtain ⟨t351, A170, H⟩ := H
            have A17 := Goto.m0 A170
            clear A170
            by_cases c18 : t351 = true
            ·
             subst c18
             rw [if_pos rfl] at H
             have H' := Goto.m0 H
             clear H
             have p350 : 0 ≤ (x6_3 : Int) := Goto.od
             have q350 : x6_3 < (l1.length : Int) := Goto.od
             obtain ⟨ad350, e350, hx350_0, hx350_1, hx350_2, hx350_3, hx350_4, hx350_5⟩ := at_T35 HR1.out x6_3 p350 q350
             cases e350
             replace hx350_0 := Goto.kc HB.out hx350_0
             replace hx350_1 := Goto.kc HB.out hx350_1
             replace hx350_2 := Goto.kc HB.out hx350_2
             replace hx350_3 := Goto.kc HB.out hx350_3
             replace hx350_4 := Goto.kc HB.out hx350_4
             replace hx350_5 := Goto.kc HB.out hx350_5
             replace p350 := eq_true p350; replace q350 := eq_true q350
             go_wp2_with (first | ((with_reducible refine gate_callee (f := 20) rfl ?_); refine goesL_ (some 39) rfl rfl Tryd.func20 (by kernel_rfl) rfl #[.agg #[.int .i64 ((rd_T35 l1 x6_3).f0), .int .i64 ((rd_T35 l1 x6_3).f1), .int .i64 ((rd_T35 l1 x6_3).f2), .int .i64 ((rd_T35 l1 x6_3).f3), .int .i64 ((rd_T35 l1 x6_3).f4), .int .i64 ((rd_T35 l1 x6_3).f5)]] rfl (by (try simp only [List.map_toArray, List.map_cons, List.map_nil]); first | done | rfl | (simp only [List.length_drop, List.length_take]; rfl)) ?_; (with_reducible refine (tontinelaw24_seen.calls ((rd_T35 l1 x6_3).f0) ((rd_T35 l1 x6_3).f1) ((rd_T35 l1 x6_3).f2) ((rd_T35 l1 x6_3).f3) ((rd_T35 l1 x6_3).f4) ((rd_T35 l1 x6_3).f5) true _ A17.out).mono ?_); rintro e w19 ⟨rfl, hb⟩; refine ⟨_, rfl, ?_⟩; replace HB := Goto.hs HB hb; (try clear hb); (try clear hb2); (try clear hk); (try clear hi)))
             go_roundg k3
             case measure => have := HJ4.out; have := HK2.out; have := HK3.out; omega
             case rel => exact ⟨(wrap64 (x6_3 + 1)), (by first | rfl | (simp; done) | (simp [*]; done)), H', ⟨by have := HJ4.out; have := HK2.out; have := HK3.out; omega⟩, ⟨Goto.hx HB⟩⟩
            ·
             replace c18 := Bool.eq_false_iff.mpr c18
             subst c18
             rw [if_neg (show ¬ (false = true) by decide)] at H
             obtain rfl := Option.some.inj H
             have p350 : 0 ≤ (x6_3 : Int) := Goto.od
             have q350 : x6_3 < (l1.length : Int) := Goto.od
             obtain ⟨ad350, e350, hx350_0, hx350_1, hx350_2, hx350_3, hx350_4, hx350_5⟩ := at_T35 HR1.out x6_3 p350 q350
             cases e350
             replace hx350_0 := Goto.kc HB.out hx350_0
             replace hx350_1 := Goto.kc HB.out hx350_1
             replace hx350_2 := Goto.kc HB.out hx350_2
             replace hx350_3 := Goto.kc HB.out hx350_3
             replace hx350_4 := Goto.kc HB.out hx350_4
             replace hx350_5 := Goto.kc HB.out hx350_5
             replace p350 := eq_true p350; replace q350 := eq_true q350
             go_wp2_with (first | ((with_reducible refine gate_callee (f := 20) rfl ?_); refine goesL_ (some 39) rfl rfl Tryd.func20 (by kernel_rfl) rfl #[.agg #[.int .i64 ((rd_T35 l1 x6_3).f0), .int .i64 ((rd_T35 l1 x6_3).f1), .int .i64 ((rd_T35 l1 x6_3).f2), .int .i64 ((rd_T35 l1 x6_3).f3), .int .i64 ((rd_T35 l1 x6_3).f4), .int .i64 ((rd_T35 l1 x6_3).f5)]] rfl (by (try simp only [List.map_toArray, List.map_cons, List.map_nil]); first | done | rfl | (simp only [List.length_drop, List.length_take]; rfl)) ?_; (with_reducible refine (tontinelaw24_seen.calls ((rd_T35 l1 x6_3).f0) ((rd_T35 l1 x6_3).f1) ((rd_T35 l1 x6_3).f2) ((rd_T35 l1 x6_3).f3) ((rd_T35 l1 x6_3).f4) ((rd_T35 l1 x6_3).f5) false _ A17.out).mono ?_); rintro e w20 ⟨rfl, hb⟩; refine ⟨_, rfl, ?_⟩; replace HB := Goto.hs HB hb; (try clear hb); (try clear hb2); (try clear hk); (try clear hi)))
             go_ret
             exact ⟨Goto.er, by repeat (first | (with_reducible first | exact HB.out | apply below_alloc | apply pw_below_drewN | apply below_drew1) | exact HB.out)⟩
           ·
            rw [if_neg c16] at H
            exact absurd H (by simp)
          ·
           rw [if_neg c15] at H
           have c15b0 : decide (x6_3 < (l1.length : Int)) = false := decide_eq_false c15
           clear c15
           replace H := Option.bind_eq_some_iff.mp H
           obtain ⟨t352, A210, H⟩ := H
           have A21 := Goto.m0 A210
           clear A210
           replace H := Option.bind_eq_some_iff.mp H
           obtain ⟨t353, A220, H⟩ := H
           have A22 := Goto.m0 A220
           clear A220
           replace H := Option.bind_eq_some_iff.mp H
           obtain ⟨t354, A230, H⟩ := H
           have A23 := Goto.m0 A230
           clear A230
           obtain rfl := Option.some.inj H
           go_wp2_with (first | ((with_reducible refine gate_callee (f := 13) rfl ?_); refine goesL_ (some 42) rfl rfl Tryd.func13 (by kernel_rfl) rfl #[.slice A0 l0.length c0] rfl (by (try simp only [List.map_toArray, List.map_cons, List.map_nil]); first | done | rfl | (simp only [List.length_drop, List.length_take]; rfl)) ?_; (with_reducible refine (ext_13.calls _ _ l0 t352 _ (Goto.kt (Goto.hx HB) HLD.out) ?side1 ?side2 A21.out).mono ?_); (case side1 => repeat (first | exact (Kd.C_below HR0.out HB.out) | (with_reducible refine Kd.C_alloc ?_ _) | (with_reducible refine Kd.C_drewN ?_ _) | (with_reducible refine Kd.C_drew ?_))); (case side2 => exact HC0.out); rintro e w24 ⟨rfl, hb⟩; refine ⟨_, rfl, ?_⟩; replace HB := Goto.hs HB hb; (try clear hb); (try clear hb2); (try clear hk); (try clear hi)) | ((with_reducible refine gate_callee (f := 13) rfl ?_); refine goesL_ (some 44) rfl rfl Tryd.func13 (by kernel_rfl) rfl #[.slice A1 l1.length c1] rfl (by (try simp only [List.map_toArray, List.map_cons, List.map_nil]); first | done | rfl | (simp only [List.length_drop, List.length_take]; rfl)) ?_; (with_reducible refine (ext_13.calls _ _ l1 t353 _ (Goto.kt (Goto.hx HB) HLD.out) ?side1 ?side2 A22.out).mono ?_); (case side1 => repeat (first | exact (Kd.C_below HR1.out HB.out) | (with_reducible refine Kd.C_alloc ?_ _) | (with_reducible refine Kd.C_drewN ?_ _) | (with_reducible refine Kd.C_drew ?_))); (case side2 => exact HC1.out); rintro e w25 ⟨rfl, hb⟩; refine ⟨_, rfl, ?_⟩; replace HB := Goto.hs HB hb; (try clear hb); (try clear hb2); (try clear hk); (try clear hi)) | ((with_reducible refine gate_callee (f := 11) rfl ?_); refine goesL_ (some 48) rfl rfl Tryd.func11 (by kernel_rfl) rfl #[.slice A0 l0.length c0, .slice A1 l1.length c1] rfl (by (try simp only [List.map_toArray, List.map_cons, List.map_nil]); first | done | rfl | (simp only [List.length_drop, List.length_take]; rfl)) ?_; (with_reducible refine (ext_11.calls _ _ l0 _ _ l1 t354 _ ?side1 ?side2 ?side3 ?side4 A23.out).mono ?_); (case side1 => repeat (first | exact (Kd.C_below HR0.out HB.out) | (with_reducible refine Kd.C_alloc ?_ _) | (with_reducible refine Kd.C_drewN ?_ _) | (with_reducible refine Kd.C_drew ?_))); (case side2 => exact HC0.out); (case side3 => repeat (first | exact (Kd.C_below HR1.out HB.out) | (with_reducible refine Kd.C_alloc ?_ _) | (with_reducible refine Kd.C_drewN ?_ _) | (with_reducible refine Kd.C_drew ?_))); (case side4 => exact HC1.out); rintro e w' ⟨rfl, ⟨nd, rfl⟩⟩; refine ⟨_, rfl, ?_⟩))
           go_ret
           exact ⟨Goto.er, by repeat (first | (with_reducible first | exact HB.out | apply below_alloc | apply pw_below_drewN | apply below_drew1) | exact HB.out)⟩
 ·
  replace c4 := Bool.eq_false_iff.mpr c4
  subst c4
  rw [if_neg (show ¬ (false = true) by decide)] at H
  exact absurd ((Option.some.inj H).trans HRT.out) (by decide)

end Go.Proofs.YtlmllmbbdlkknaaDoor.P
