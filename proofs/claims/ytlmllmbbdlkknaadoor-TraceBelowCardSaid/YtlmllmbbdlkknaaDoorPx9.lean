/- Printed by a program of this workplace (a turned copy of the kit's optional print), out of the translation; not trusted: Lean checks it. -/
import Derived.Test.YtlmllmbbdlkknaaDoorPx0
import Derived.Test.YtlmllmbbdlkknaaDoorPx5
import Derived.Test.YtlmllmbbdlkknaaDoorPx7
import Derived.Test.YtlmllmbbdlkknaaDoorPx8
import Derived.Test.YtlmllmbbdlkknaaDoorHas
namespace Go.Proofs.YtlmllmbbdlkknaaDoor.P
open Go.RowKit Go.Proofs.YtlmllmbbdlkknaaDoorW.PrintWords Go.Proofs.YtlmllmbbdlkknaaDoorW.PrintLast Go.Proofs.YtlmllmbbdlkknaaDoorW.PrintMore
attribute [local go_sem] max2_int min2_int max_two min_two max_three min_three max_four min_four   -- for this text's walks alone
set_option linter.unusedVariables false
set_option linter.unusedSimpArgs false

/-! ### tontinelaw24_TraceBelow: function 6 -/
mutual
def tontinelaw24_TraceBelow.l0 : Nat → List (List (S35)) → List Int → List Int → List Int → List Int → Int → Int → Int → List (List Int) → List (S46) → Int → Int → Option (Bool)
  | 0, _, _, _, _, _, _, _, _, _, _, _, _ => none
  | k + 1, x7, x8, x9, x10, x11, x12, x234000, x234001, x234002, x234003, x235000, x235001 => if x12 < (x234003.length : Int) then ((ext_24.f x8 x12).bind fun t260 => ((ext_24.f x9 x12).bind fun t261 => ((ext_24.f x11 x12).bind fun t262 => (if t260 = true then (if (t262 != t261) = true then (tontinelaw24_TraceBelow.j1 k x7 x8 x9 x10 x11 x12 true x234000 x234001 x234002 x234003 x235000 x235001) else ((ext_24.f x10 x12).bind fun t263 => (if t263 = true then (if 0 ≤ x12 then ((trace_Below.f k x234000 x234001 x234002 x234003 x7 ((rd_T46 x234003 x12).f0.f0) ((rd_T46 x234003 x12).f0.f1)).bind fun t265 => ((ext_24.f t265 x12).bind fun t268 => (tontinelaw24_TraceBelow.j1 k x7 x8 x9 x10 x11 x12 (!t268) x234000 x234001 x234002 x234003 x235000 x235001))) else (none)) else (tontinelaw24_TraceBelow.j1 k x7 x8 x9 x10 x11 x12 true x234000 x234001 x234002 x234003 x235000 x235001)))) else (if (t262 != false) = true then (tontinelaw24_TraceBelow.j1 k x7 x8 x9 x10 x11 x12 true x234000 x234001 x234002 x234003 x235000 x235001) else (if t261 = true then ((ext_24.f x10 x12).bind fun t269 => (if t269 = true then (if 0 ≤ x12 then ((trace_Below.f k x234000 x234001 x234002 x234003 x7 ((rd_T46 x234003 x12).f0.f0) ((rd_T46 x234003 x12).f0.f1)).bind fun t271 => ((ext_24.f t271 x12).bind fun t274 => (tontinelaw24_TraceBelow.j1 k x7 x8 x9 x10 x11 x12 (!t274) x234000 x234001 x234002 x234003 x235000 x235001))) else (none)) else (tontinelaw24_TraceBelow.j1 k x7 x8 x9 x10 x11 x12 true x234000 x234001 x234002 x234003 x235000 x235001))) else (if 0 ≤ x12 then ((trace_Below.f k x234000 x234001 x234002 x234003 x7 ((rd_T46 x234003 x12).f0.f0) ((rd_T46 x234003 x12).f0.f1)).bind fun t276 => ((ext_24.f t276 x12).bind fun t279 => (tontinelaw24_TraceBelow.j1 k x7 x8 x9 x10 x11 x12 (!t279) x234000 x234001 x234002 x234003 x235000 x235001))) else (none)))))))) else ((trace_Below.f k x234000 x234001 x234002 x234003 ([] : List (List (S35))) x235000 x235001).bind fun t257 => (some ((t257.length : Int) == 0)))
def tontinelaw24_TraceBelow.j1 : Nat → List (List (S35)) → List Int → List Int → List Int → List Int → Int → Bool → Int → Int → List (List Int) → List (S46) → Int → Int → Option (Bool)
  | 0, _, _, _, _, _, _, _, _, _, _, _, _, _ => none
  | k + 1, x7, x8, x9, x10, x11, x12, x89, x234000, x234001, x234002, x234003, x235000, x235001 => if x89 = true then (some false) else (tontinelaw24_TraceBelow.l0 k x7 x8 x9 x10 x11 (wrap64 (x12 + 1)) x234000 x234001 x234002 x234003 x235000 x235001)
end
def tontinelaw24_TraceBelow.f (k : Nat) (a0_0 : Int) (a0_1 : Int) (l0_2 : List (List Int)) (l0_3 : List (S46)) (a1_0 : Int) (a1_1 : Int) (a2_0 : Int) (a2_1 : Int) : Option (Bool) := (tontinelaw24_known.f k).bind fun t236 => (if t236 = true then ((tontinehelp_WideConf.f k a0_0 a0_1 l0_2 l0_3).bind fun t237 => (if t237 = true then (some true) else (if 0 ≤ (l0_3.length : Int) then (if ((l0_3.length : Int) : Int).toNat ≤ 11728124029610 then ((some (List.replicate ((l0_3.length : Int) : Int).toNat [] : List (List (S35)))).bind fun y238 => ((trace_Below.f k a0_0 a0_1 l0_2 l0_3 y238 a1_0 a1_1).bind fun t241 => ((trace_Below.f k a0_0 a0_1 l0_2 l0_3 y238 a2_0 a2_1).bind fun t244 => ((tontineref1_Join.f a1_0 a1_1 a2_0 a2_1).bind fun bt247 => ((trace_Below.f k a0_0 a0_1 l0_2 l0_3 y238 bt247.1 bt247.2).bind fun t249 => ((tontineref1_Meet.f a1_0 a1_1 a2_0 a2_1).bind fun bt252 => ((trace_Below.f k a0_0 a0_1 l0_2 l0_3 y238 bt252.1 bt252.2).bind fun t254 => (tontinelaw24_TraceBelow.l0 k y238 t241 t244 t249 t254 0 a0_0 a0_1 l0_2 l0_3 a1_0 a1_1)))))))) else (none)) else (none)))) else (some false))
theorem tontinelaw24_TraceBelow.mono_l : ∀ k, (∀ y0 y1 y2 y3 y4 y5 y6 y7 y8 y9 y10 y11, LeO (tontinelaw24_TraceBelow.l0 k y0 y1 y2 y3 y4 y5 y6 y7 y8 y9 y10 y11) (tontinelaw24_TraceBelow.l0 (k + 1) y0 y1 y2 y3 y4 y5 y6 y7 y8 y9 y10 y11)) ∧ (∀ y0 y1 y2 y3 y4 y5 y6 y7 y8 y9 y10 y11 y12, LeO (tontinelaw24_TraceBelow.j1 k y0 y1 y2 y3 y4 y5 y6 y7 y8 y9 y10 y11 y12) (tontinelaw24_TraceBelow.j1 (k + 1) y0 y1 y2 y3 y4 y5 y6 y7 y8 y9 y10 y11 y12))
  | 0 => ⟨fun _ _ _ _ _ _ _ _ _ _ _ _ r h => by simp [tontinelaw24_TraceBelow.l0] at h, fun _ _ _ _ _ _ _ _ _ _ _ _ _ r h => by simp [tontinelaw24_TraceBelow.j1] at h⟩
  | k + 1 => by
    obtain ⟨ih0, ih1⟩ := tontinelaw24_TraceBelow.mono_l k
    refine ⟨?_, ?_⟩
    · intro y0 y1 y2 y3 y4 y5 y6 y7 y8 y9 y10 y11
      unfold tontinelaw24_TraceBelow.l0
      repeat' first
      | (with_reducible exact ih0 _ _ _ _ _ _ _ _ _ _ _ _)
      | (with_reducible exact ih1 _ _ _ _ _ _ _ _ _ _ _ _ _)
      | (with_reducible exact tontinehelp_WideConf.mono _ _ _ _ _)
      | (with_reducible exact tontinelaw24_known.mono _)
      | (with_reducible exact trace_Below.mono _ _ _ _ _ _ _ _)
      | (with_reducible exact LeO.refl _)
      | (with_reducible exact LeO.none _)
      | (with_reducible refine LeO.ite ?_ ?_)
      | (with_reducible refine LeO.bind ?_ (fun _ => ?_))
      | exact ih0 _ _ _ _ _ _ _ _ _ _ _ _
      | exact ih1 _ _ _ _ _ _ _ _ _ _ _ _ _
      | exact tontinehelp_WideConf.mono _ _ _ _ _
      | exact tontinelaw24_known.mono _
      | exact trace_Below.mono _ _ _ _ _ _ _ _
      | exact LeO.none _
      | refine LeO.ite ?_ ?_
      | refine LeO.bind ?_ (fun _ => ?_)
    · intro y0 y1 y2 y3 y4 y5 y6 y7 y8 y9 y10 y11 y12
      unfold tontinelaw24_TraceBelow.j1
      repeat' first
      | (with_reducible exact ih0 _ _ _ _ _ _ _ _ _ _ _ _)
      | (with_reducible exact ih1 _ _ _ _ _ _ _ _ _ _ _ _ _)
      | (with_reducible exact tontinehelp_WideConf.mono _ _ _ _ _)
      | (with_reducible exact tontinelaw24_known.mono _)
      | (with_reducible exact trace_Below.mono _ _ _ _ _ _ _ _)
      | (with_reducible exact LeO.refl _)
      | (with_reducible exact LeO.none _)
      | (with_reducible refine LeO.ite ?_ ?_)
      | (with_reducible refine LeO.bind ?_ (fun _ => ?_))
      | exact ih0 _ _ _ _ _ _ _ _ _ _ _ _
      | exact ih1 _ _ _ _ _ _ _ _ _ _ _ _ _
      | exact tontinehelp_WideConf.mono _ _ _ _ _
      | exact tontinelaw24_known.mono _
      | exact trace_Below.mono _ _ _ _ _ _ _ _
      | exact LeO.none _
      | refine LeO.ite ?_ ?_
      | refine LeO.bind ?_ (fun _ => ?_)
theorem tontinelaw24_TraceBelow.mono : ∀ a0 a1 a2 a3 a4 a5 a6 a7 k, LeO (tontinelaw24_TraceBelow.f k a0 a1 a2 a3 a4 a5 a6 a7) (tontinelaw24_TraceBelow.f (k + 1) a0 a1 a2 a3 a4 a5 a6 a7) := by
 intro a0 a1 a2 a3 a4 a5 a6 a7 k
 obtain ⟨ih0, ih1⟩ := tontinelaw24_TraceBelow.mono_l k
 unfold tontinelaw24_TraceBelow.f
 repeat' first
   | (with_reducible exact ih0 _ _ _ _ _ _ _ _ _ _ _ _)
   | (with_reducible exact ih1 _ _ _ _ _ _ _ _ _ _ _ _ _)
   | (with_reducible exact tontinehelp_WideConf.mono _ _ _ _ _)
   | (with_reducible exact tontinelaw24_known.mono _)
   | (with_reducible exact trace_Below.mono _ _ _ _ _ _ _ _)
   | (with_reducible exact LeO.refl _)
   | (with_reducible exact LeO.none _)
   | (with_reducible refine LeO.ite ?_ ?_)
   | (with_reducible refine LeO.bind ?_ (fun _ => ?_))
   | exact ih0 _ _ _ _ _ _ _ _ _ _ _ _
   | exact ih1 _ _ _ _ _ _ _ _ _ _ _ _ _
   | exact tontinehelp_WideConf.mono _ _ _ _ _
   | exact tontinelaw24_known.mono _
   | exact trace_Below.mono _ _ _ _ _ _ _ _
   | exact LeO.none _
   | refine LeO.ite ?_ ?_
   | refine LeO.bind ?_ (fun _ => ?_)
def tontinelaw24_TraceBelow.T6 : Bool × List (List Nat × List Nat) := (true, [([], []), ([], []), ([], []), ([0, 1, 2], [0, 1, 2]), ([], []), ([], []), ([], []), ([4, 5, 6, 3], [4, 5, 6]), ([3, 7, 0, 1, 2, 3], [3]), ([7, 8, 0, 1, 2, 3, 4, 5, 6, 7, 8], [7])])
def tontinelaw24_TraceBelow.B6 : List Nat := [0, 0, 0, 7, 0, 0, 0, 127, 255, 511]
theorem tontinelaw24_TraceBelow.tab6 : rtab .any (opsOf Tryd.f6 6) = tontinelaw24_TraceBelow.T6 := by kernel_rfl
theorem tontinelaw24_TraceBelow.bits6 : waitsOk tontinelaw24_TraceBelow.T6.2 tontinelaw24_TraceBelow.B6 = true := by kernel_rfl
def tontinelaw24_TraceBelow.T7 : Bool × List (List Nat × List Nat) := (true, [([], []), ([], []), ([], []), ([], []), ([2, 3], [2, 3]), ([0, 1, 4, 4], [0, 1, 4]), ([], []), ([], []), ([], []), ([], []), ([8, 9, 5], [8, 9]), ([6, 7, 10, 10], [6, 7, 10]), ([5, 11, 0, 1, 2, 3, 4, 5], [5]), ([11, 12, 0, 1, 2, 3, 4, 5, 6, 7, 8, 9, 10, 11, 12], [11])])
def tontinelaw24_TraceBelow.B7 : List Nat := [0, 0, 0, 0, 12, 31, 0, 0, 0, 0, 831, 2047, 4095, 8191]
theorem tontinelaw24_TraceBelow.tab7 : rtab .any (opsOf Tryd.f6 7) = tontinelaw24_TraceBelow.T7 := by kernel_rfl
theorem tontinelaw24_TraceBelow.bits7 : waitsOk tontinelaw24_TraceBelow.T7.2 tontinelaw24_TraceBelow.B7 = true := by kernel_rfl
def tontinelaw24_TraceBelow.T12 : Bool × List (List Nat × List Nat) := (true, [([], []), ([], []), ([0, 1], [0, 1]), ([], []), ([3, 2], [3]), ([4], [4]), ([4, 5], [4, 5]), ([2, 6], [2, 6]), ([7, 4], [7]), ([8], [8]), ([9, 8, 8], [8, 9]), ([10], [10]), ([10, 11, 8], [8, 10, 11]), ([12, 10, 8], [8, 12]), ([13], [13]), ([13], [13]), ([14, 15, 13, 13], [13, 14, 15]), ([16, 13], [13, 16]), ([13, 17, 8], [8, 13, 17]), ([8, 18], [8, 18]), ([19, 16], [19]), ([20], [20]), ([20], [20]), ([20], [20]), ([23, 20], [20, 23]), ([20], [20]), ([24, 25, 20], [20, 24, 25]), ([26, 20], [20, 26]), ([27, 20], [20, 27]), ([21, 22, 28, 20, 20], [20, 21, 22, 28]), ([20], [20]), ([29, 30, 29, 20], [20, 29, 30]), ([31, 20], [20, 31]), ([20, 32], [20, 32])])
def tontinelaw24_TraceBelow.B12 : List Nat := [0, 0, 3, 0, 15, 31, 63, 127, 255, 511, 1023, 2047, 4095, 8191, 16383, 16383, 65535, 131071, 262143, 524287, 1048575, 2097151, 2097151, 2097151, 10485759, 2097151, 60817407, 127926271, 262143999, 536870911, 2097151, 2147483647, 4294967295, 8589934591]
theorem tontinelaw24_TraceBelow.tab12 : rtab .any (opsOf Tryd.f6 12) = tontinelaw24_TraceBelow.T12 := by kernel_rfl
theorem tontinelaw24_TraceBelow.bits12 : waitsOk tontinelaw24_TraceBelow.T12.2 tontinelaw24_TraceBelow.B12 = true := by kernel_rfl
set_option maxHeartbeats 8000000 in
set_option maxRecDepth 100000 in
theorem tontinelaw24_TraceBelow.calls (k : Nat) (a0_0 : Int) (a0_1 : Int) (A0_2 : Option Addr) (c0_2 : Nat) (l0_2 : List (List Int)) (A0_3 : Option Addr) (c0_3 : Nat) (l0_3 : List (S46)) (a1_0 : Int) (a1_1 : Int) (a2_0 : Int) (a2_1 : Int) (r : Bool) (hrt : r = true) (w : World) (hld : Lib.TabIs Tryd.prog w "internal/strconv.uint64pow10" .u64 Lib.pow10Tab) (hr0_2 : Kd.C (Kd.slice 3 (Kd.int .i64)) w A0_2 l0_2.length l0_2) (hc0_2 : l0_2.length ≤ c0_2) (hr0_3 : Kd.C k46 w A0_3 l0_3.length l0_3) (hc0_3 : l0_3.length ≤ c0_3) (h : tontinelaw24_TraceBelow.f k a0_0 a0_1 l0_2 l0_3 a1_0 a1_1 a2_0 a2_1 = some r) :
    Calls Tryd.prog 6 #[.agg #[.int .i64 a0_0, .int .i64 a0_1, .slice A0_2 l0_2.length c0_2, .slice A0_3 l0_3.length c0_3], .agg #[.int .i64 a1_0, .int .u64 a1_1], .agg #[.int .i64 a2_0, .int .u64 a2_1]] w fun e w' => e = .returned (.bool r) ∧ Below w.heap.size w w' := by
 have hu25 := Tryd.underlying25; have hu30 := Tryd.underlying30
 have HR0_2 := Goto.m0 hr0_2
 have HC0_2 := Goto.m0 hc0_2
 clear hr0_2 hc0_2
 have HR0_3 := Goto.m0 hr0_3
 have HC0_3 := Goto.m0 hc0_3
 clear hr0_3 hc0_3
 have HB := Goto.m0 (Below.refl w.heap.size w)
 have HRT := Goto.m0 hrt
 clear hrt
 have HLD := Goto.m0 hld
 clear hld
 have H : ((tontinelaw24_known.f k).bind fun t236 => (if t236 = true then ((tontinehelp_WideConf.f k a0_0 a0_1 l0_2 l0_3).bind fun t237 => (if t237 = true then (some true) else (if 0 ≤ (l0_3.length : Int) then (if ((l0_3.length : Int) : Int).toNat ≤ 11728124029610 then ((some (List.replicate ((l0_3.length : Int) : Int).toNat [] : List (List (S35)))).bind fun y238 => ((trace_Below.f k a0_0 a0_1 l0_2 l0_3 y238 a1_0 a1_1).bind fun t241 => ((trace_Below.f k a0_0 a0_1 l0_2 l0_3 y238 a2_0 a2_1).bind fun t244 => ((tontineref1_Join.f a1_0 a1_1 a2_0 a2_1).bind fun bt247 => ((trace_Below.f k a0_0 a0_1 l0_2 l0_3 y238 bt247.1 bt247.2).bind fun t249 => ((tontineref1_Meet.f a1_0 a1_1 a2_0 a2_1).bind fun bt252 => ((trace_Below.f k a0_0 a0_1 l0_2 l0_3 y238 bt252.1 bt252.2).bind fun t254 => (tontinelaw24_TraceBelow.l0 k y238 t241 t244 t249 t254 0 a0_0 a0_1 l0_2 l0_3 a1_0 a1_1)))))))) else (none)) else (none)))) else (some false))) = some r := h
 clear h
 replace H := Option.bind_eq_some_iff.mp H
 obtain ⟨t236, A40, H⟩ := H
 have A4 := Goto.m0 A40
 clear A40
 by_cases c5 : t236 = true
 ·
  subst c5
  rw [if_pos rfl] at H
  replace H := Option.bind_eq_some_iff.mp H
  obtain ⟨t237, A60, H⟩ := H
  have A6 := Goto.m0 A60
  clear A60
  by_cases c7 : t237 = true
  ·
   subst c7
   rw [if_pos rfl] at H
   obtain rfl := Option.some.inj H
   go_enter Tryd.func6, Tryd.ntmps6
   go_wp2_with (first | ((with_reducible refine gate_dst (N := 3) rfl ?_); refine box_event ?hg (N := 3) ?hd (cs := #[.int .i64 a0_0, .int .i64 a0_1, .slice A0_2 l0_2.length c0_2, .slice A0_3 l0_3.length c0_3]) (t := 25) ?hr ?_; (case hd => rfl); (case hg => rfl); (case hr => first | (go_simp; done) | (go_simp; rfl)); intro gb233 hg w8 hbox hb; have BK233 := Goto.m0 (hbox); have GW233 := Goto.gs HB hg; have GE233 := Goto.gs HB hg; replace HB := Goto.hs HB hb; clear hb hbox hg) | ((with_reducible refine gate_dst (N := 4) rfl ?_); refine box_event ?hg (N := 4) ?hd (cs := #[.int .i64 a1_0, .int .u64 a1_1]) (t := 30) ?hr ?_; (case hd => rfl); (case hg => rfl); (case hr => first | (go_simp; done) | (go_simp; rfl)); intro gb234 hg w9 hbox hb; have BK234 := Goto.m0 (hbox); have GW234 := Goto.gs HB hg; have GE234 := Goto.gs HB hg; have NB233_234 := Goto.nl BK233 hg; have NB234_233 := Goto.nr BK233 hg; replace BK233 := Goto.bb BK233 hb; replace HB := Goto.hs HB hb; clear hb hbox hg) | ((with_reducible refine gate_dst (N := 5) rfl ?_); refine box_event ?hg (N := 5) ?hd (cs := #[.int .i64 a2_0, .int .u64 a2_1]) (t := 30) ?hr ?_; (case hd => rfl); (case hg => rfl); (case hr => first | (go_simp; done) | (go_simp; rfl)); intro gb235 hg w10 hbox hb; have BK235 := Goto.m0 (hbox); have GW235 := Goto.gs HB hg; have GE235 := Goto.gs HB hg; have NB233_235 := Goto.nl BK233 hg; have NB235_233 := Goto.nr BK233 hg; have NB234_235 := Goto.nl BK234 hg; have NB235_234 := Goto.nr BK234 hg; replace BK233 := Goto.bb BK233 hb; replace BK234 := Goto.bb BK234 hb; replace HB := Goto.hs HB hb; clear hb hbox hg) | ((with_reducible refine gate_callee (f := 7) rfl ?_); refine goesL_ (some 15) rfl rfl Tryd.func7 (by kernel_rfl) rfl #[] rfl (by (try simp only [List.map_toArray, List.map_cons, List.map_nil]); first | done | rfl | (simp only [List.length_drop, List.length_take]; rfl)) ?_; (with_reducible refine (tontinelaw24_known.calls k  true (by first | rfl | assumption | (simp only [Bool.not_eq_true, Bool.not_eq_false] at *; assumption)) _ (Goto.kt (Goto.hx HB) HLD.out) A4.out).mono ?_); rintro e w11 ⟨rfl, hb⟩; refine ⟨_, rfl, ?_⟩; replace BK233 := Goto.bb BK233 hb; replace BK234 := Goto.bb BK234 hb; replace BK235 := Goto.bb BK235 hb; replace HB := Goto.hs HB hb; (try clear hb); (try clear hb2); (try clear hk); (try clear hi); have hnb12 := NB233_234.out; have hnc12 := NB234_233.out; have hnb13 := NB233_235.out; have hnc13 := NB235_233.out; have hcz14_0 := Goto.bc0 BK233; have hcz14_1 := Goto.bc1 BK233; have hcz14_2 := Goto.bc2 BK233; have hcz14_3 := Goto.bc3 BK233; have hfz14_0 := Goto.bf BK233 0; have hfz14_1 := Goto.bf BK233 1; have hfz14_2 := Goto.bf BK233 2; have hfz14_3 := Goto.bf BK233 3) | ((with_reducible refine gate_callee (f := 8) rfl ?_); refine goesL_ (some 18) rfl rfl Tryd.func8 (by kernel_rfl) rfl #[.agg #[.int .i64 a0_0, .int .i64 a0_1, .slice A0_2 l0_2.length c0_2, .slice A0_3 l0_3.length c0_3]] rfl (by (try simp only [List.map_toArray, List.map_cons, List.map_nil]); first | done | rfl | (simp only [List.length_drop, List.length_take]; rfl)) ?_; (with_reducible refine (tontinehelp_WideConf.calls k a0_0 a0_1 _ _ l0_2 _ _ l0_3 true _ ?side1 ?side2 ?side3 ?side4 A6.out).mono ?_); (case side1 => repeat (first | exact (Kd.C_below HR0_2.out HB.out) | (with_reducible refine Kd.C_alloc ?_ _) | (with_reducible refine Kd.C_drewN ?_ _) | (with_reducible refine Kd.C_drew ?_))); (case side2 => exact HC0_2.out); (case side3 => repeat (first | exact (Kd.C_below HR0_3.out HB.out) | (with_reducible refine Kd.C_alloc ?_ _) | (with_reducible refine Kd.C_drewN ?_ _) | (with_reducible refine Kd.C_drew ?_))); (case side4 => exact HC0_3.out); rintro e w15 ⟨rfl, hb⟩; refine ⟨_, rfl, ?_⟩; replace BK233 := Goto.bb BK233 hb; replace BK234 := Goto.bb BK234 hb; replace BK235 := Goto.bb BK235 hb; replace HB := Goto.hs HB hb; (try clear hb); (try clear hb2); (try clear hk); (try clear hi)))
   go_ret
   exact ⟨Goto.er, by repeat (first | (with_reducible first | exact HB.out | apply below_alloc | apply pw_below_drewN | apply below_drew1 | refine below_set ?_ GE233.out | refine below_set ?_ GE234.out | refine below_set ?_ GE235.out) | exact HB.out)⟩
  ·
   replace c7 := Bool.eq_false_iff.mpr c7
   subst c7
   rw [if_neg (show ¬ (false = true) by decide)] at H
   by_cases c16 : 0 ≤ (l0_3.length : Int)
   ·
    rw [if_pos c16] at H
    have c16b0 := eq_true c16
    have c16b1 : decide (0 ≤ (l0_3.length : Int)) = true := decide_eq_true c16
    clear c16
    by_cases c17 : ((l0_3.length : Int) : Int).toNat ≤ 11728124029610
    ·
     rw [if_pos c17] at H
     have c17b0 := eq_true c17
     have c17b1 : decide (((l0_3.length : Int) : Int).toNat ≤ 11728124029610) = true := decide_eq_true c17
     clear c17
     obtain ⟨y238, hy238⟩ : ∃ y_ : List (List (S35)), y_ = (List.replicate ((l0_3.length : Int) : Int).toNat []) := ⟨_, rfl⟩
     replace H : ((trace_Below.f k a0_0 a0_1 l0_2 l0_3 y238 a1_0 a1_1).bind fun t241 => ((trace_Below.f k a0_0 a0_1 l0_2 l0_3 y238 a2_0 a2_1).bind fun t244 => ((tontineref1_Join.f a1_0 a1_1 a2_0 a2_1).bind fun bt247 => ((trace_Below.f k a0_0 a0_1 l0_2 l0_3 y238 bt247.1 bt247.2).bind fun t249 => ((tontineref1_Meet.f a1_0 a1_1 a2_0 a2_1).bind fun bt252 => ((trace_Below.f k a0_0 a0_1 l0_2 l0_3 y238 bt252.1 bt252.2).bind fun t254 => (tontinelaw24_TraceBelow.l0 k y238 t241 t244 t249 t254 0 a0_0 a0_1 l0_2 l0_3 a1_0 a1_1))))))) = some r := by first | (rw [hy238]; with_reducible exact H) | (have H2_ := (Option.bind_some _ _).symm.trans H; rw [hy238]; with_reducible exact H2_) | (have H2_ := (Option.bind_some _ _).symm.trans H; with_reducible exact H2_) | with_reducible exact H | (rw [hy238]; exact H) | exact H
     have Ny238 := Goto.m0 hy238
     clear hy238
     replace H := Option.bind_eq_some_iff.mp H
     obtain ⟨t241, A180, H⟩ := H
     have A18 := Goto.m0 A180
     clear A180
     replace H := Option.bind_eq_some_iff.mp H
     obtain ⟨t244, A190, H⟩ := H
     have A19 := Goto.m0 A190
     clear A190
     replace H := Option.bind_eq_some_iff.mp H
     obtain ⟨⟨t247, t248⟩, A200, H⟩ := H
     replace H : ((trace_Below.f k a0_0 a0_1 l0_2 l0_3 y238 t247 t248).bind fun t249 => ((tontineref1_Meet.f a1_0 a1_1 a2_0 a2_1).bind fun bt252 => ((trace_Below.f k a0_0 a0_1 l0_2 l0_3 y238 bt252.1 bt252.2).bind fun t254 => (tontinelaw24_TraceBelow.l0 k y238 t241 t244 t249 t254 0 a0_0 a0_1 l0_2 l0_3 a1_0 a1_1)))) = some r := H
     have A20 := Goto.m0 A200
     clear A200
     replace H := Option.bind_eq_some_iff.mp H
     obtain ⟨t249, A210, H⟩ := H
     have A21 := Goto.m0 A210
     clear A210
     replace H := Option.bind_eq_some_iff.mp H
     obtain ⟨⟨t252, t253⟩, A220, H⟩ := H
     replace H : ((trace_Below.f k a0_0 a0_1 l0_2 l0_3 y238 t252 t253).bind fun t254 => (tontinelaw24_TraceBelow.l0 k y238 t241 t244 t249 t254 0 a0_0 a0_1 l0_2 l0_3 a1_0 a1_1)) = some r := H
     have A22 := Goto.m0 A220
     clear A220
     replace H := Option.bind_eq_some_iff.mp H
     obtain ⟨t254, A230, H⟩ := H
     have A23 := Goto.m0 A230
     clear A230
     have H' := Goto.m0 H
     clear H
     go_enter Tryd.func6, Tryd.ntmps6
     try go_wp2_with (first | ((with_reducible refine gate_dst (N := 3) rfl ?_); refine box_event ?hg (N := 3) ?hd (cs := #[.int .i64 a0_0, .int .i64 a0_1, .slice A0_2 l0_2.length c0_2, .slice A0_3 l0_3.length c0_3]) (t := 25) ?hr ?_; (case hd => rfl); (case hg => rfl); (case hr => first | (go_simp; done) | (go_simp; rfl)); intro gb233 hg w24 hbox hb; have BK233 := Goto.m0 (hbox); have GW233 := Goto.gs HB hg; have GE233 := Goto.gs HB hg; replace HB := Goto.hs HB hb; clear hb hbox hg) | ((with_reducible refine gate_dst (N := 4) rfl ?_); refine box_event ?hg (N := 4) ?hd (cs := #[.int .i64 a1_0, .int .u64 a1_1]) (t := 30) ?hr ?_; (case hd => rfl); (case hg => rfl); (case hr => first | (go_simp; done) | (go_simp; rfl)); intro gb234 hg w25 hbox hb; have BK234 := Goto.m0 (hbox); have GW234 := Goto.gs HB hg; have GE234 := Goto.gs HB hg; have NB233_234 := Goto.nl BK233 hg; have NB234_233 := Goto.nr BK233 hg; replace BK233 := Goto.bb BK233 hb; replace HB := Goto.hs HB hb; clear hb hbox hg) | ((with_reducible refine gate_dst (N := 5) rfl ?_); refine box_event ?hg (N := 5) ?hd (cs := #[.int .i64 a2_0, .int .u64 a2_1]) (t := 30) ?hr ?_; (case hd => rfl); (case hg => rfl); (case hr => first | (go_simp; done) | (go_simp; rfl)); intro gb235 hg w26 hbox hb; have BK235 := Goto.m0 (hbox); have GW235 := Goto.gs HB hg; have GE235 := Goto.gs HB hg; have NB233_235 := Goto.nl BK233 hg; have NB235_233 := Goto.nr BK233 hg; have NB234_235 := Goto.nl BK234 hg; have NB235_234 := Goto.nr BK234 hg; replace BK233 := Goto.bb BK233 hb; replace BK234 := Goto.bb BK234 hb; replace HB := Goto.hs HB hb; clear hb hbox hg) | ((with_reducible refine gate_callee (f := 7) rfl ?_); refine goesL_ (some 15) rfl rfl Tryd.func7 (by kernel_rfl) rfl #[] rfl (by (try simp only [List.map_toArray, List.map_cons, List.map_nil]); first | done | rfl | (simp only [List.length_drop, List.length_take]; rfl)) ?_; (with_reducible refine (tontinelaw24_known.calls k  true (by first | rfl | assumption | (simp only [Bool.not_eq_true, Bool.not_eq_false] at *; assumption)) _ (Goto.kt (Goto.hx HB) HLD.out) A4.out).mono ?_); rintro e w27 ⟨rfl, hb⟩; refine ⟨_, rfl, ?_⟩; replace BK233 := Goto.bb BK233 hb; replace BK234 := Goto.bb BK234 hb; replace BK235 := Goto.bb BK235 hb; replace HB := Goto.hs HB hb; (try clear hb); (try clear hb2); (try clear hk); (try clear hi); have hnb28 := NB233_234.out; have hnc28 := NB234_233.out; have hnb29 := NB233_235.out; have hnc29 := NB235_233.out; have hcz30_0 := Goto.bc0 BK233; have hcz30_1 := Goto.bc1 BK233; have hcz30_2 := Goto.bc2 BK233; have hcz30_3 := Goto.bc3 BK233; have hfz30_0 := Goto.bf BK233 0; have hfz30_1 := Goto.bf BK233 1; have hfz30_2 := Goto.bf BK233 2; have hfz30_3 := Goto.bf BK233 3) | ((with_reducible refine gate_callee (f := 8) rfl ?_); refine goesL_ (some 18) rfl rfl Tryd.func8 (by kernel_rfl) rfl #[.agg #[.int .i64 a0_0, .int .i64 a0_1, .slice A0_2 l0_2.length c0_2, .slice A0_3 l0_3.length c0_3]] rfl (by (try simp only [List.map_toArray, List.map_cons, List.map_nil]); first | done | rfl | (simp only [List.length_drop, List.length_take]; rfl)) ?_; (with_reducible refine (tontinehelp_WideConf.calls k a0_0 a0_1 _ _ l0_2 _ _ l0_3 false _ ?side1 ?side2 ?side3 ?side4 A6.out).mono ?_); (case side1 => repeat (first | exact (Kd.C_below HR0_2.out HB.out) | (with_reducible refine Kd.C_alloc ?_ _) | (with_reducible refine Kd.C_drewN ?_ _) | (with_reducible refine Kd.C_drew ?_))); (case side2 => exact HC0_2.out); (case side3 => repeat (first | exact (Kd.C_below HR0_3.out HB.out) | (with_reducible refine Kd.C_alloc ?_ _) | (with_reducible refine Kd.C_drewN ?_ _) | (with_reducible refine Kd.C_drew ?_))); (case side4 => exact HC0_3.out); rintro e w31 ⟨rfl, hb⟩; refine ⟨_, rfl, ?_⟩; replace BK233 := Goto.bb BK233 hb; replace BK234 := Goto.bb BK234 hb; replace BK235 := Goto.bb BK235 hb; replace HB := Goto.hs HB hb; (try clear hb); (try clear hb2); (try clear hk); (try clear hi); have hcz32_0 := Goto.bc0 BK233; have hcz32_1 := Goto.bc1 BK233; have hcz32_2 := Goto.bc2 BK233; have hcz32_3 := Goto.bc3 BK233; have hfz32_0 := Goto.bf BK233 0; have hfz32_1 := Goto.bf BK233 1; have hfz32_2 := Goto.bf BK233 2; have hfz32_3 := Goto.bf BK233 3) | ((with_reducible refine gate_dst (N := 22) rfl ?_); refine Kd.S_make (Kd.slice 35 k35) _ 26 rfl (N := 22) rfl 27 _ _ rfl (l0_3.length : Int) rfl rfl Tryd.underlying27 (.slice none 0 0) 24 info26 rfl (by decide) (by omega) [] (ok := fun _ => True) (okp := fun _ => True) ⟨_, rfl, Kd.R_nil _ _ _ _ _⟩ (fun _ hk => hk) trivial (of_decide_eq_true (by first | (with_reducible assumption) | assumption)) (Nat.le_trans (Nat.mul_le_mul_right _ (of_decide_eq_true (by first | (with_reducible assumption) | assumption) : (l0_3.length : Int).toNat ≤ 11728124029610)) (by omega)) (Below.refl _ _) (Nat.le_refl _) ?_; intro v239 w33 ho34 hb hg_ hnew_; clear hg_ hnew_; (first | rw [← Ny238.out] at ho34 | (simp only [Int.reduceToNat] at ho34; rw [← Ny238.out] at ho34)); have HO240 := Goto.m0 (Kd.S_lower ho34 (below_size (Goto.hx HB))); replace BK233 := Goto.bb BK233 hb; replace BK234 := Goto.bb BK234 hb; replace BK235 := Goto.bb BK235 hb; replace HB := Goto.hs HB hb; clear hb ho34))
     replace HO240 := Goto.m0 (Kd.S_drew HO240.out); replace BK233 := Goto.m0 (blk_drew BK233.out); replace BK234 := Goto.m0 (blk_drew BK234.out); replace BK235 := Goto.m0 (blk_drew BK235.out); replace HB := Goto.m0 (below_drew1 HB.out)
     obtain ⟨Ao36, co36, eo36⟩ := Kd.S_slice HO240.out
     (first | subst eo36 | (injection eo36 with f1_ f2_ f3_; have f4_ := f1_.symm; have f5_ := f3_.symm; clear f1_ f2_ f3_; subst f4_; subst f5_))
     refine start_ (n := 10) (S := fun w' => w'.cell? ⟨gb233, 0, none⟩ = some (.int .i64 a0_0) ∧ w'.cell? ⟨gb233, 1, none⟩ = some (.int .i64 a0_1) ∧ w'.cell? ⟨gb233, 2, none⟩ = some (.slice A0_2 l0_2.length c0_2) ∧ w'.cell? ⟨gb233, 3, none⟩ = some (.slice A0_3 l0_3.length c0_3) ∧ w'.cell? ⟨gb234, 0, none⟩ = some (.int .i64 a1_0) ∧ w'.cell? ⟨gb234, 1, none⟩ = some (.int .u64 a1_1) ∧ w'.cell? ⟨gb235, 0, none⟩ = some (.int .i64 a2_0) ∧ w'.cell? ⟨gb235, 1, none⟩ = some (.int .u64 a2_1)) (ds := []) (.replicate 10 false) (by kernel_rfl) rfl rfl ⟨(blk_cell BK233.out 0).trans rfl, (blk_cell BK233.out 1).trans rfl, (blk_cell BK233.out 2).trans rfl, (blk_cell BK233.out 3).trans rfl, (blk_cell BK234.out 0).trans rfl, (blk_cell BK234.out 1).trans rfl, (blk_cell BK235.out 0).trans rfl, (blk_cell BK235.out 1).trans rfl⟩ (fun hHeld => ?_); refine with_tabW tontinelaw24_TraceBelow.tab6 tontinelaw24_TraceBelow.bits6 (fun HT_ HW_ => ?_)
     generalize w33.drew = w35 at HO240 BK233 BK234 BK235 HB hHeld ⊢
     refine Goto.pu 1 24 10 2 ?_
     refine Goto.pu 5 28 10 34 ?_
     refine take_ (i := 0) (N := some 23) (v := ?_) (a' := ?_) (Goto.bs 10 35) rfl rfl (take_ofW HT_.out HW_.out (by kernel_rfl)) (fun _ _ _ h => h) (Or.inl ⟨by rfl, ?_⟩) hHeld ?_ ?_
     rotate_left
     ·
      rintro w' ⟨s0, s1, s2, s3, s4, s5, s6, s7⟩
      go_simp
      with_reducible rfl
     rotate_left
     ·
      exact Goto.ap
     refine take_ (i := 2) (N := some 25) (v := ?_) (a' := ?_) (Goto.bs 10 39) rfl rfl (take_ofW HT_.out HW_.out (by kernel_rfl)) (fun _ _ _ h => h) (Or.inl ⟨by rfl, ?_⟩) hHeld ?_ ?_
     rotate_left
     ·
      rintro w' ⟨s0, s1, s2, s3, s4, s5, s6, s7⟩
      go_simp
      with_reducible rfl
     rotate_left
     ·
      exact Goto.ap
     refine take_ (i := 4) (N := some 27) (v := ?_) (a' := ?_) (Goto.bs 10 55) rfl rfl (take_ofW HT_.out HW_.out (by kernel_rfl)) (fun _ _ _ h => h) (Or.inl ⟨by rfl, ?_⟩) hHeld ?_ ?_
     rotate_left
     ·
      rintro w' ⟨s0, s1, s2, s3, s4, s5, s6, s7⟩
      go_simp
      with_reducible rfl
     rotate_left
     ·
      exact Goto.ap
     refine take_ (i := 6) (N := some 29) (v := ?_) (a' := ?_) (Goto.bs 10 119) rfl rfl (take_ofW HT_.out HW_.out (by kernel_rfl)) (fun _ _ _ h => h) (Or.inl ⟨by rfl, ?_⟩) hHeld ?_ ?_
     rotate_left
     ·
      rintro w' ⟨s0, s1, s2, s3, s4, s5, s6, s7⟩
      go_simp
      with_reducible rfl
     rotate_left
     ·
      exact Goto.ap
     refine one_ (i := 3) (N := some 26) (Goto.bs 10 127) rfl rfl (one_of HT_.out (by kernel_rfl)) (by decide) (fun K hK => ?_)
     refine goes_ Tryd.func16 (by kernel_rfl) rfl #[.agg #[.int .i64 a0_0, .int .i64 a0_1, .slice A0_2 l0_2.length c0_2, .slice A0_3 l0_3.length c0_3], .slice Ao36 y238.length co36, .agg #[.int .i64 a1_0, .int .u64 a1_1]] (by rfl) rfl rfl (by (try simp only [List.map_toArray, List.map_cons, List.map_nil]); first | done | rfl | (simp only [List.length_drop, List.length_take]; rfl)) ?_
     with_reducible refine (trace_Below.calls k a0_0 a0_1 _ _ l0_2 _ _ l0_3 _ _ y238 a1_0 a1_1 t241 _ ?side1 ?side2 ?side3 ?side4 ?side5 ?side6 A18.out).mono ?_
     (case side1 => repeat (first | exact (Kd.C_below HR0_2.out HB.out) | (with_reducible refine Kd.C_alloc ?_ _) | (with_reducible refine Kd.C_drewN ?_ _) | (with_reducible refine Kd.C_drew ?_)))
     (case side2 => exact HC0_2.out)
     (case side3 => repeat (first | exact (Kd.C_below HR0_3.out HB.out) | (with_reducible refine Kd.C_alloc ?_ _) | (with_reducible refine Kd.C_drewN ?_ _) | (with_reducible refine Kd.C_drew ?_)))
     (case side4 => exact HC0_3.out)
     (case side5 => repeat (first | exact (Kd.S_reads' HO240.out).2.2 | (with_reducible refine Kd.C_alloc ?_ _) | (with_reducible refine Kd.C_drewN ?_ _) | (with_reducible refine Kd.C_drew ?_)))
     (case side6 => exact (Kd.S_reads' HO240.out).2.1)
     rintro e w37 ⟨v242, rfl, ho0, hb⟩
     refine ⟨_, rfl, ?_⟩
     have HO243 := Goto.m0 (Kd.R_lower ho0 (below_size (Goto.hx HB))); replace HO240 := Goto.m0 (Kd.S_below (by (with_reducible repeat (first | apply Kd.S_alloc | apply Kd.S_drewN | apply Kd.S_drew)); exact HO240.out) hb); replace BK233 := Goto.bb BK233 hb; replace BK234 := Goto.bb BK234 hb; replace BK235 := Goto.bb BK235 hb; replace HB := Goto.hs HB hb
     (try clear hb)
     (try clear hb2)
     (try clear hk)
     (try clear hi)
     (try clear ho0)
     refine hK.out _ _ ⟨(blk_cell BK233.out 0).trans rfl, (blk_cell BK233.out 1).trans rfl, (blk_cell BK233.out 2).trans rfl, (blk_cell BK233.out 3).trans rfl, (blk_cell BK234.out 0).trans rfl, (blk_cell BK234.out 1).trans rfl, (blk_cell BK235.out 0).trans rfl, (blk_cell BK235.out 1).trans rfl⟩ (fun hHeld => ?_)
     clear hK K
     refine norm_ (a' := ?_) ?_ ?_
     rotate_left
     ·
      show Act.put _ (some 26) _ = _
      exact Goto.ap
     refine one_ (i := 7) (N := some 30) (Goto.bs 10 255) rfl rfl (one_of HT_.out (by kernel_rfl)) (by decide) (fun K hK => ?_)
     refine goes_ Tryd.func16 (by kernel_rfl) rfl #[.agg #[.int .i64 a0_0, .int .i64 a0_1, .slice A0_2 l0_2.length c0_2, .slice A0_3 l0_3.length c0_3], .slice Ao36 y238.length co36, .agg #[.int .i64 a2_0, .int .u64 a2_1]] (by rfl) rfl rfl (by (try simp only [List.map_toArray, List.map_cons, List.map_nil]); first | done | rfl | (simp only [List.length_drop, List.length_take]; rfl)) ?_
     with_reducible refine (trace_Below.calls k a0_0 a0_1 _ _ l0_2 _ _ l0_3 _ _ y238 a2_0 a2_1 t244 _ ?side1 ?side2 ?side3 ?side4 ?side5 ?side6 A19.out).mono ?_
     (case side1 => repeat (first | exact (Kd.C_below HR0_2.out HB.out) | (with_reducible refine Kd.C_alloc ?_ _) | (with_reducible refine Kd.C_drewN ?_ _) | (with_reducible refine Kd.C_drew ?_)))
     (case side2 => exact HC0_2.out)
     (case side3 => repeat (first | exact (Kd.C_below HR0_3.out HB.out) | (with_reducible refine Kd.C_alloc ?_ _) | (with_reducible refine Kd.C_drewN ?_ _) | (with_reducible refine Kd.C_drew ?_)))
     (case side4 => exact HC0_3.out)
     (case side5 => repeat (first | exact (Kd.S_reads' HO240.out).2.2 | (with_reducible refine Kd.C_alloc ?_ _) | (with_reducible refine Kd.C_drewN ?_ _) | (with_reducible refine Kd.C_drew ?_)))
     (case side6 => exact (Kd.S_reads' HO240.out).2.1)
     rintro e w38 ⟨v245, rfl, ho0, hb⟩
     refine ⟨_, rfl, ?_⟩
     have HO246 := Goto.m0 (Kd.R_lower (Kd.R_new' ho0 (Kd.R_lt (Goto.rk HO243))) (below_size (Goto.hx HB))); replace HO240 := Goto.m0 (Kd.S_below (by (with_reducible repeat (first | apply Kd.S_alloc | apply Kd.S_drewN | apply Kd.S_drew)); exact HO240.out) hb); replace HO243 := Goto.m0 (Kd.R_elder' (Goto.rk HO243) (Kd.R_base ho0) hb); replace BK233 := Goto.bb BK233 hb; replace BK234 := Goto.bb BK234 hb; replace BK235 := Goto.bb BK235 hb; replace HB := Goto.hs HB hb
     (try clear hb)
     (try clear hb2)
     (try clear hk)
     (try clear hi)
     (try clear ho0)
     refine hK.out _ _ ⟨(blk_cell BK233.out 0).trans rfl, (blk_cell BK233.out 1).trans rfl, (blk_cell BK233.out 2).trans rfl, (blk_cell BK233.out 3).trans rfl, (blk_cell BK234.out 0).trans rfl, (blk_cell BK234.out 1).trans rfl, (blk_cell BK235.out 0).trans rfl, (blk_cell BK235.out 1).trans rfl⟩ (fun hHeld => ?_)
     clear hK K
     refine norm_ (a' := ?_) ?_ ?_
     rotate_left
     ·
      show Act.put _ (some 30) _ = _
      exact Goto.ap
     refine Goto.pu 8 8 10 511 ?_
     refine Goto.pu 9 9 10 1023 ?_
     refine done_ (done_of HT_.out (by kernel_rfl)) ?_
     try go_wp2
     replace HO240 := Goto.m0 (Kd.S_drew HO240.out); replace HO243 := Goto.m0 (Kd.R_drew HO243.out); replace HO246 := Goto.m0 (Kd.R_drew HO246.out); replace BK233 := Goto.m0 (blk_drew BK233.out); replace BK234 := Goto.m0 (blk_drew BK234.out); replace BK235 := Goto.m0 (blk_drew BK235.out); replace HB := Goto.m0 (below_drew1 HB.out)
     refine start_ (n := 14) (S := fun w' => w'.cell? ⟨gb233, 0, none⟩ = some (.int .i64 a0_0) ∧ w'.cell? ⟨gb233, 1, none⟩ = some (.int .i64 a0_1) ∧ w'.cell? ⟨gb233, 2, none⟩ = some (.slice A0_2 l0_2.length c0_2) ∧ w'.cell? ⟨gb233, 3, none⟩ = some (.slice A0_3 l0_3.length c0_3) ∧ w'.cell? ⟨gb234, 0, none⟩ = some (.int .i64 a1_0) ∧ w'.cell? ⟨gb234, 1, none⟩ = some (.int .u64 a1_1) ∧ w'.cell? ⟨gb235, 0, none⟩ = some (.int .i64 a2_0) ∧ w'.cell? ⟨gb235, 1, none⟩ = some (.int .u64 a2_1)) (ds := []) (.replicate 14 false) (by kernel_rfl) rfl rfl ⟨(blk_cell BK233.out 0).trans rfl, (blk_cell BK233.out 1).trans rfl, (blk_cell BK233.out 2).trans rfl, (blk_cell BK233.out 3).trans rfl, (blk_cell BK234.out 0).trans rfl, (blk_cell BK234.out 1).trans rfl, (blk_cell BK235.out 0).trans rfl, (blk_cell BK235.out 1).trans rfl⟩ (fun hHeld => ?_); refine with_tabW tontinelaw24_TraceBelow.tab7 tontinelaw24_TraceBelow.bits7 (fun HT_ HW_ => ?_)
     generalize w38.drew = w39 at HO240 HO243 HO246 BK233 BK234 BK235 HB hHeld ⊢
     refine Goto.pu 1 32 14 2 ?_
     refine Goto.pu 7 38 14 130 ?_
     refine take_ (i := 0) (N := some 31) (v := ?_) (a' := ?_) (Goto.bs 14 131) rfl rfl (take_ofW HT_.out HW_.out (by kernel_rfl)) (fun _ _ _ h => h) (Or.inl ⟨by rfl, ?_⟩) hHeld ?_ ?_
     rotate_left
     ·
      rintro w' ⟨s0, s1, s2, s3, s4, s5, s6, s7⟩
      go_simp
      with_reducible rfl
     rotate_left
     ·
      exact Goto.ap
     refine take_ (i := 2) (N := some 33) (v := ?_) (a' := ?_) (Goto.bs 14 135) rfl rfl (take_ofW HT_.out HW_.out (by kernel_rfl)) (fun _ _ _ h => h) (Or.inl ⟨by rfl, ?_⟩) hHeld ?_ ?_
     rotate_left
     ·
      rintro w' ⟨s0, s1, s2, s3, s4, s5, s6, s7⟩
      go_simp
      with_reducible rfl
     rotate_left
     ·
      exact Goto.ap
     refine take_ (i := 3) (N := some 34) (v := ?_) (a' := ?_) (Goto.bs 14 143) rfl rfl (take_ofW HT_.out HW_.out (by kernel_rfl)) (fun _ _ _ h => h) (Or.inl ⟨by rfl, ?_⟩) hHeld ?_ ?_
     rotate_left
     ·
      rintro w' ⟨s0, s1, s2, s3, s4, s5, s6, s7⟩
      go_simp
      with_reducible rfl
     rotate_left
     ·
      exact Goto.ap
     refine take_ (i := 6) (N := some 37) (v := ?_) (a' := ?_) (Goto.bs 14 207) rfl rfl (take_ofW HT_.out HW_.out (by kernel_rfl)) (fun _ _ _ h => h) (Or.inl ⟨by rfl, ?_⟩) hHeld ?_ ?_
     rotate_left
     ·
      rintro w' ⟨s0, s1, s2, s3, s4, s5, s6, s7⟩
      go_simp
      with_reducible rfl
     rotate_left
     ·
      exact Goto.ap
     refine take_ (i := 8) (N := some 39) (v := ?_) (a' := ?_) (Goto.bs 14 463) rfl rfl (take_ofW HT_.out HW_.out (by kernel_rfl)) (fun _ _ _ h => h) (Or.inl ⟨by rfl, ?_⟩) hHeld ?_ ?_
     rotate_left
     ·
      rintro w' ⟨s0, s1, s2, s3, s4, s5, s6, s7⟩
      go_simp
      with_reducible rfl
     rotate_left
     ·
      exact Goto.ap
     refine take_ (i := 9) (N := some 40) (v := ?_) (a' := ?_) (Goto.bs 14 975) rfl rfl (take_ofW HT_.out HW_.out (by kernel_rfl)) (fun _ _ _ h => h) (Or.inl ⟨by rfl, ?_⟩) hHeld ?_ ?_
     rotate_left
     ·
      rintro w' ⟨s0, s1, s2, s3, s4, s5, s6, s7⟩
      go_simp
      with_reducible rfl
     rotate_left
     ·
      exact Goto.ap
     refine one_ (i := 4) (N := some 35) (Goto.bs 14 991) rfl rfl (one_of HT_.out (by kernel_rfl)) (by decide) (fun K hK => ?_)
     refine goes_ Tryd.func22 (by kernel_rfl) rfl #[.agg #[.int .i64 a1_0, .int .u64 a1_1], .agg #[.int .i64 a2_0, .int .u64 a2_1]] (by rfl) rfl rfl (by (try simp only [List.map_toArray, List.map_cons, List.map_nil]); first | done | rfl | (simp only [List.length_drop, List.length_take]; rfl)) ?_
     with_reducible refine (tontineref1_Join.calls a1_0 a1_1 a2_0 a2_1 t247 t248 _ A20.out).mono ?_
     rintro e w40 ⟨rfl, hb⟩
     refine ⟨_, rfl, ?_⟩
     replace HO240 := Goto.m0 (Kd.S_below (by (with_reducible repeat (first | apply Kd.S_alloc | apply Kd.S_drewN | apply Kd.S_drew)); exact HO240.out) hb); replace HO243 := Goto.m0 (Kd.R_below (Goto.rk HO243) hb); replace HO246 := Goto.m0 (Kd.R_below (Goto.rk HO246) hb); replace BK233 := Goto.bb BK233 hb; replace BK234 := Goto.bb BK234 hb; replace BK235 := Goto.bb BK235 hb; replace HB := Goto.hs HB hb
     (try clear hb)
     (try clear hb2)
     (try clear hk)
     (try clear hi)
     refine hK.out _ _ ⟨(blk_cell BK233.out 0).trans rfl, (blk_cell BK233.out 1).trans rfl, (blk_cell BK233.out 2).trans rfl, (blk_cell BK233.out 3).trans rfl, (blk_cell BK234.out 0).trans rfl, (blk_cell BK234.out 1).trans rfl, (blk_cell BK235.out 0).trans rfl, (blk_cell BK235.out 1).trans rfl⟩ (fun hHeld => ?_)
     clear hK K
     refine norm_ (a' := ?_) ?_ ?_
     rotate_left
     ·
      show Act.put _ (some 35) _ = _
      exact Goto.ap
     refine one_ (i := 5) (N := some 36) (Goto.bs 14 1023) rfl rfl (one_of HT_.out (by kernel_rfl)) (by decide) (fun K hK => ?_)
     refine goes_ Tryd.func16 (by kernel_rfl) rfl #[.agg #[.int .i64 a0_0, .int .i64 a0_1, .slice A0_2 l0_2.length c0_2, .slice A0_3 l0_3.length c0_3], .slice Ao36 y238.length co36, .agg #[.int .i64 t247, .int .u64 t248]] (by rfl) rfl rfl (by (try simp only [List.map_toArray, List.map_cons, List.map_nil]); first | done | rfl | (simp only [List.length_drop, List.length_take]; rfl)) ?_
     with_reducible refine (trace_Below.calls k a0_0 a0_1 _ _ l0_2 _ _ l0_3 _ _ y238 t247 t248 t249 _ ?side1 ?side2 ?side3 ?side4 ?side5 ?side6 A21.out).mono ?_
     (case side1 => repeat (first | exact (Kd.C_below HR0_2.out HB.out) | (with_reducible refine Kd.C_alloc ?_ _) | (with_reducible refine Kd.C_drewN ?_ _) | (with_reducible refine Kd.C_drew ?_)))
     (case side2 => exact HC0_2.out)
     (case side3 => repeat (first | exact (Kd.C_below HR0_3.out HB.out) | (with_reducible refine Kd.C_alloc ?_ _) | (with_reducible refine Kd.C_drewN ?_ _) | (with_reducible refine Kd.C_drew ?_)))
     (case side4 => exact HC0_3.out)
     (case side5 => repeat (first | exact (Kd.S_reads' HO240.out).2.2 | (with_reducible refine Kd.C_alloc ?_ _) | (with_reducible refine Kd.C_drewN ?_ _) | (with_reducible refine Kd.C_drew ?_)))
     (case side6 => exact (Kd.S_reads' HO240.out).2.1)
     rintro e w41 ⟨v250, rfl, ho0, hb⟩
     refine ⟨_, rfl, ?_⟩
     have HO251 := Goto.m0 (Kd.R_lower (Kd.R_new' (Kd.R_new' ho0 (Kd.R_lt (Goto.rk HO243))) (Kd.R_lt (Goto.rk HO246))) (below_size (Goto.hx HB))); replace HO240 := Goto.m0 (Kd.S_below (by (with_reducible repeat (first | apply Kd.S_alloc | apply Kd.S_drewN | apply Kd.S_drew)); exact HO240.out) hb); replace HO243 := Goto.m0 (Kd.R_elder' (Goto.rk HO243) (Kd.R_base ho0) hb); replace HO246 := Goto.m0 (Kd.R_elder' (Goto.rk HO246) (Kd.R_base ho0) hb); replace BK233 := Goto.bb BK233 hb; replace BK234 := Goto.bb BK234 hb; replace BK235 := Goto.bb BK235 hb; replace HB := Goto.hs HB hb
     (try clear hb)
     (try clear hb2)
     (try clear hk)
     (try clear hi)
     (try clear ho0)
     refine hK.out _ _ ⟨(blk_cell BK233.out 0).trans rfl, (blk_cell BK233.out 1).trans rfl, (blk_cell BK233.out 2).trans rfl, (blk_cell BK233.out 3).trans rfl, (blk_cell BK234.out 0).trans rfl, (blk_cell BK234.out 1).trans rfl, (blk_cell BK235.out 0).trans rfl, (blk_cell BK235.out 1).trans rfl⟩ (fun hHeld => ?_)
     clear hK K
     refine norm_ (a' := ?_) ?_ ?_
     rotate_left
     ·
      show Act.put _ (some 36) _ = _
      exact Goto.ap
     refine one_ (i := 10) (N := some 41) (Goto.bs 14 2047) rfl rfl (one_of HT_.out (by kernel_rfl)) (by decide) (fun K hK => ?_)
     refine goes_ Tryd.func23 (by kernel_rfl) rfl #[.agg #[.int .i64 a1_0, .int .u64 a1_1], .agg #[.int .i64 a2_0, .int .u64 a2_1]] (by rfl) rfl rfl (by (try simp only [List.map_toArray, List.map_cons, List.map_nil]); first | done | rfl | (simp only [List.length_drop, List.length_take]; rfl)) ?_
     with_reducible refine (tontineref1_Meet.calls a1_0 a1_1 a2_0 a2_1 t252 t253 _ A22.out).mono ?_
     rintro e w42 ⟨rfl, hb⟩
     refine ⟨_, rfl, ?_⟩
     replace HO240 := Goto.m0 (Kd.S_below (by (with_reducible repeat (first | apply Kd.S_alloc | apply Kd.S_drewN | apply Kd.S_drew)); exact HO240.out) hb); replace HO243 := Goto.m0 (Kd.R_below (Goto.rk HO243) hb); replace HO246 := Goto.m0 (Kd.R_below (Goto.rk HO246) hb); replace HO251 := Goto.m0 (Kd.R_below (Goto.rk HO251) hb); replace BK233 := Goto.bb BK233 hb; replace BK234 := Goto.bb BK234 hb; replace BK235 := Goto.bb BK235 hb; replace HB := Goto.hs HB hb
     (try clear hb)
     (try clear hb2)
     (try clear hk)
     (try clear hi)
     refine hK.out _ _ ⟨(blk_cell BK233.out 0).trans rfl, (blk_cell BK233.out 1).trans rfl, (blk_cell BK233.out 2).trans rfl, (blk_cell BK233.out 3).trans rfl, (blk_cell BK234.out 0).trans rfl, (blk_cell BK234.out 1).trans rfl, (blk_cell BK235.out 0).trans rfl, (blk_cell BK235.out 1).trans rfl⟩ (fun hHeld => ?_)
     clear hK K
     refine norm_ (a' := ?_) ?_ ?_
     rotate_left
     ·
      show Act.put _ (some 41) _ = _
      exact Goto.ap
     refine one_ (i := 11) (N := some 42) (Goto.bs 14 4095) rfl rfl (one_of HT_.out (by kernel_rfl)) (by decide) (fun K hK => ?_)
     refine goes_ Tryd.func16 (by kernel_rfl) rfl #[.agg #[.int .i64 a0_0, .int .i64 a0_1, .slice A0_2 l0_2.length c0_2, .slice A0_3 l0_3.length c0_3], .slice Ao36 y238.length co36, .agg #[.int .i64 t252, .int .u64 t253]] (by rfl) rfl rfl (by (try simp only [List.map_toArray, List.map_cons, List.map_nil]); first | done | rfl | (simp only [List.length_drop, List.length_take]; rfl)) ?_
     with_reducible refine (trace_Below.calls k a0_0 a0_1 _ _ l0_2 _ _ l0_3 _ _ y238 t252 t253 t254 _ ?side1 ?side2 ?side3 ?side4 ?side5 ?side6 A23.out).mono ?_
     (case side1 => repeat (first | exact (Kd.C_below HR0_2.out HB.out) | (with_reducible refine Kd.C_alloc ?_ _) | (with_reducible refine Kd.C_drewN ?_ _) | (with_reducible refine Kd.C_drew ?_)))
     (case side2 => exact HC0_2.out)
     (case side3 => repeat (first | exact (Kd.C_below HR0_3.out HB.out) | (with_reducible refine Kd.C_alloc ?_ _) | (with_reducible refine Kd.C_drewN ?_ _) | (with_reducible refine Kd.C_drew ?_)))
     (case side4 => exact HC0_3.out)
     (case side5 => repeat (first | exact (Kd.S_reads' HO240.out).2.2 | (with_reducible refine Kd.C_alloc ?_ _) | (with_reducible refine Kd.C_drewN ?_ _) | (with_reducible refine Kd.C_drew ?_)))
     (case side6 => exact (Kd.S_reads' HO240.out).2.1)
     rintro e w43 ⟨v255, rfl, ho0, hb⟩
     refine ⟨_, rfl, ?_⟩
     have HO256 := Goto.m0 (Kd.R_lower (Kd.R_new' (Kd.R_new' (Kd.R_new' ho0 (Kd.R_lt (Goto.rk HO243))) (Kd.R_lt (Goto.rk HO246))) (Kd.R_lt (Goto.rk HO251))) (below_size (Goto.hx HB))); replace HO240 := Goto.m0 (Kd.S_below (by (with_reducible repeat (first | apply Kd.S_alloc | apply Kd.S_drewN | apply Kd.S_drew)); exact HO240.out) hb); replace HO243 := Goto.m0 (Kd.R_elder' (Goto.rk HO243) (Kd.R_base ho0) hb); replace HO246 := Goto.m0 (Kd.R_elder' (Goto.rk HO246) (Kd.R_base ho0) hb); replace HO251 := Goto.m0 (Kd.R_elder' (Goto.rk HO251) (Kd.R_base ho0) hb); replace BK233 := Goto.bb BK233 hb; replace BK234 := Goto.bb BK234 hb; replace BK235 := Goto.bb BK235 hb; replace HB := Goto.hs HB hb
     (try clear hb)
     (try clear hb2)
     (try clear hk)
     (try clear hi)
     (try clear ho0)
     refine hK.out _ _ ⟨(blk_cell BK233.out 0).trans rfl, (blk_cell BK233.out 1).trans rfl, (blk_cell BK233.out 2).trans rfl, (blk_cell BK233.out 3).trans rfl, (blk_cell BK234.out 0).trans rfl, (blk_cell BK234.out 1).trans rfl, (blk_cell BK235.out 0).trans rfl, (blk_cell BK235.out 1).trans rfl⟩ (fun hHeld => ?_)
     clear hK K
     refine norm_ (a' := ?_) ?_ ?_
     rotate_left
     ·
      show Act.put _ (some 42) _ = _
      exact Goto.ap
     refine Goto.pu 12 10 14 8191 ?_
     refine Goto.pu 13 11 14 16383 ?_
     refine done_ (done_of HT_.out (by kernel_rfl)) ?_
     try go_wp2
     go_loopg [12] k (fun kq v12 w' => ∃ (x12_1 : Int), v12 = .int .i64 x12_1 ∧ Aside0 (tontinelaw24_TraceBelow.l0 kq y238 t241 t244 t249 t254 x12_1 a0_0 a0_1 l0_2 l0_3 a1_0 a1_1 = some r) ∧ Aside0 (kq ≤ k) ∧ Aside0 (Kd.S (Kd.slice 35 k35) 26 w' w.heap.size (fun _ => True) (.slice Ao36 y238.length co36) y238) ∧ Aside0 (Kd.R (Kd.int .i64) 3 w' w.heap.size (fun k_ => some k_ ≠ (v245 : Value).ownBlock ∧ some k_ ≠ (v250 : Value).ownBlock ∧ some k_ ≠ (v255 : Value).ownBlock) v242 t241) ∧ Aside0 (Kd.R (Kd.int .i64) 3 w' w.heap.size (fun k_ => some k_ ≠ (v242 : Value).ownBlock ∧ some k_ ≠ (v250 : Value).ownBlock ∧ some k_ ≠ (v255 : Value).ownBlock) v245 t244) ∧ Aside0 (Kd.R (Kd.int .i64) 3 w' w.heap.size (fun k_ => some k_ ≠ (v242 : Value).ownBlock ∧ some k_ ≠ (v245 : Value).ownBlock ∧ some k_ ≠ (v255 : Value).ownBlock) v250 t249) ∧ Aside0 (Kd.R (Kd.int .i64) 3 w' w.heap.size (fun k_ => some k_ ≠ (v242 : Value).ownBlock ∧ some k_ ≠ (v245 : Value).ownBlock ∧ some k_ ≠ (v250 : Value).ownBlock) v255 t254) ∧ Aside0 (w'.heap[gb233]? = some (.cells #[.int .i64 a0_0, .int .i64 a0_1, (.slice A0_2 l0_2.length c0_2), (.slice A0_3 l0_3.length c0_3)] 25 (0, 0))) ∧ Aside0 (w'.heap[gb234]? = some (.cells #[.int .i64 a1_0, .int .u64 a1_1] 30 (0, 0))) ∧ Aside0 (w'.heap[gb235]? = some (.cells #[.int .i64 a2_0, .int .u64 a2_1] 30 (0, 0))) ∧ Aside0 (Below w.heap.size w w'))
     case atStart => exact ⟨(0), (by first | rfl | (simp; done) | (simp [*]; done)), H', ⟨Nat.le_refl _⟩, ⟨by (with_reducible repeat (first | apply Kd.S_alloc | apply Kd.S_drewN | apply Kd.S_drew)); exact HO240.out⟩, ⟨by (with_reducible repeat (first | apply Kd.R_alloc | apply Kd.R_drewN | apply Kd.R_drew)); exact Kd.R_mono HO243.out (fun _ hk => ⟨hk.1.1.2, ⟨hk.1.2, hk.2⟩⟩)⟩, ⟨by (with_reducible repeat (first | apply Kd.R_alloc | apply Kd.R_drewN | apply Kd.R_drew)); exact Kd.R_mono HO246.out (fun _ hk => ⟨hk.1.1.2, ⟨hk.1.2, hk.2⟩⟩)⟩, ⟨by (with_reducible repeat (first | apply Kd.R_alloc | apply Kd.R_drewN | apply Kd.R_drew)); exact Kd.R_mono HO251.out (fun _ hk => ⟨hk.1.1.2, ⟨hk.1.2, hk.2⟩⟩)⟩, ⟨by (with_reducible repeat (first | apply Kd.R_alloc | apply Kd.R_drewN | apply Kd.R_drew)); exact Kd.R_mono HO256.out (fun _ hk => ⟨hk.1.1.2, ⟨hk.1.2, hk.2⟩⟩)⟩, ⟨Goto.bx BK233⟩, ⟨Goto.bx BK234⟩, ⟨Goto.bx BK235⟩, ⟨Goto.hx HB⟩⟩
     case round =>
      clear H'
      try clear c1; try clear c2; try clear p2; try clear c5; try clear c6; try clear c7; try clear c8; try clear c12; try clear c13; try clear c16; try clear c16b0; try clear c16b1; try clear c17; try clear c17b0; try clear c17b1; try clear c22; try clear c23; try clear c28; try clear c29; try clear hcz14_0; try clear hcz14_1; try clear hcz14_2; try clear hcz14_3; try clear hcz30_0; try clear hcz30_1; try clear hcz30_2; try clear hcz30_3; try clear hcz32_0; try clear hcz32_1; try clear hcz32_2; try clear hcz32_3; try clear hfz14_0; try clear hfz14_1; try clear hfz14_2; try clear hfz14_3; try clear hfz30_0; try clear hfz30_1; try clear hfz30_2; try clear hfz30_3; try clear hfz32_0; try clear hfz32_1; try clear hfz32_2; try clear hfz32_3
      obtain ⟨x12_1, rfl, HA, HK1, HO_7, HO_8, HO_9, HO_10, HO_11, BK233, BK234, BK235, HB⟩ := hrel
      cases gk with
      | zero => exact absurd HA.out (by simp [tontinelaw24_TraceBelow.l0])
      | succ k1 =>
       have H := HA.out; clear HA
       simp only [tontinelaw24_TraceBelow.l0] at H
       by_cases c44 : x12_1 < (l0_3.length : Int)
       ·
        rw [if_pos c44] at H
        have c44b0 : decide (x12_1 < (l0_3.length : Int)) = true := decide_eq_true c44
        clear c44
        replace H := Option.bind_eq_some_iff.mp H
        obtain ⟨t260, A450, H⟩ := H
        have A45 := Goto.m0 A450
        clear A450
        replace H := Option.bind_eq_some_iff.mp H
        obtain ⟨t261, A460, H⟩ := H
        have A46 := Goto.m0 A460
        clear A460
        have HC47 := Goto.m0 H
        clear H; have hnb48 := NB233_234.out; have hnc48 := NB234_233.out; have hnb49 := NB233_235.out; have hnc49 := NB235_233.out; have hcz50_0 := Goto.bc0 BK233; have hcz50_1 := Goto.bc1 BK233; have hcz50_2 := Goto.bc2 BK233; have hcz50_3 := Goto.bc3 BK233; have hfz50_0 := Goto.bf BK233 0; have hfz50_1 := Goto.bf BK233 1; have hfz50_2 := Goto.bf BK233 2; have hfz50_3 := Goto.bf BK233 3
        obtain ⟨Ao51, co51, eo51⟩ := Kd.R_slice HO_8.out
        subst eo51
        go_upto_region 12 with (first | ((with_reducible refine gate_callee (f := 24) rfl ?_); refine goesL_ (some 52) rfl rfl Tryd.func24 (by kernel_rfl) rfl #[.slice Ao51 t241.length co51, .int .i64 x12_1] rfl (by (try simp only [List.map_toArray, List.map_cons, List.map_nil]); first | done | rfl | (simp only [List.length_drop, List.length_take]; rfl)) ?_; (with_reducible refine (ext_24.calls _ _ t241 x12_1 t260 _ ?side1 ?side2 A45.out).mono ?_); (case side1 => repeat (first | exact (Kd.R_reads' HO_8.out).2.2 | (with_reducible refine Kd.C_alloc ?_ _) | (with_reducible refine Kd.C_drewN ?_ _) | (with_reducible refine Kd.C_drew ?_))); (case side2 => exact (Kd.R_reads' HO_8.out).2.1); rintro e w52 ⟨rfl, hb⟩; refine ⟨_, rfl, ?_⟩; replace HO_7 := Goto.m0 (Kd.S_below (by (with_reducible repeat (first | apply Kd.S_alloc | apply Kd.S_drewN | apply Kd.S_drew)); exact HO_7.out) hb); replace HO_8 := Goto.m0 (Kd.R_below (Goto.rk HO_8) hb); replace HO_9 := Goto.m0 (Kd.R_below (Goto.rk HO_9) hb); replace HO_10 := Goto.m0 (Kd.R_below (Goto.rk HO_10) hb); replace HO_11 := Goto.m0 (Kd.R_below (Goto.rk HO_11) hb); replace BK233 := Goto.bb BK233 hb; replace BK234 := Goto.bb BK234 hb; replace BK235 := Goto.bb BK235 hb; replace HB := Goto.hs HB hb; (try clear hb); (try clear hb2); (try clear hk); (try clear hi); obtain ⟨Ao53, co53, eo53⟩ := Kd.R_slice HO_9.out; subst eo53) | ((with_reducible refine gate_callee (f := 24) rfl ?_); refine goesL_ (some 55) rfl rfl Tryd.func24 (by kernel_rfl) rfl #[.slice Ao53 t244.length co53, .int .i64 x12_1] rfl (by (try simp only [List.map_toArray, List.map_cons, List.map_nil]); first | done | rfl | (simp only [List.length_drop, List.length_take]; rfl)) ?_; (with_reducible refine (ext_24.calls _ _ t244 x12_1 t261 _ ?side1 ?side2 A46.out).mono ?_); (case side1 => repeat (first | exact (Kd.R_reads' HO_9.out).2.2 | (with_reducible refine Kd.C_alloc ?_ _) | (with_reducible refine Kd.C_drewN ?_ _) | (with_reducible refine Kd.C_drew ?_))); (case side2 => exact (Kd.R_reads' HO_9.out).2.1); rintro e w54 ⟨rfl, hb⟩; refine ⟨_, rfl, ?_⟩; replace HO_7 := Goto.m0 (Kd.S_below (by (with_reducible repeat (first | apply Kd.S_alloc | apply Kd.S_drewN | apply Kd.S_drew)); exact HO_7.out) hb); replace HO_8 := Goto.m0 (Kd.R_below (Goto.rk HO_8) hb); replace HO_9 := Goto.m0 (Kd.R_below (Goto.rk HO_9) hb); replace HO_10 := Goto.m0 (Kd.R_below (Goto.rk HO_10) hb); replace HO_11 := Goto.m0 (Kd.R_below (Goto.rk HO_11) hb); replace BK233 := Goto.bb BK233 hb; replace BK234 := Goto.bb BK234 hb; replace BK235 := Goto.bb BK235 hb; replace HB := Goto.hs HB hb; (try clear hb); (try clear hb2); (try clear hk); (try clear hi)))
        (try simp only [Act.put, List.setIfInBounds_toArray, List.set_cons_zero, List.set_cons_succ])
        go_cut [89] (fun v89 wc => ∃ (kq : Nat) (x89_46 : Bool), v89 = .bool x89_46 ∧ Aside0 (tontinelaw24_TraceBelow.j1 kq y238 t241 t244 t249 t254 x12_1 x89_46 a0_0 a0_1 l0_2 l0_3 a1_0 a1_1 = some r) ∧ Aside0 (kq ≤ k1) ∧ Aside0 (Kd.S (Kd.slice 35 k35) 26 wc w.heap.size (fun _ => True) (.slice Ao36 y238.length co36) y238) ∧ Aside0 (Kd.R (Kd.int .i64) 3 wc w.heap.size (fun k_ => some k_ ≠ ((.slice Ao53 t244.length co53) : Value).ownBlock ∧ some k_ ≠ (v250 : Value).ownBlock ∧ some k_ ≠ (v255 : Value).ownBlock) (.slice Ao51 t241.length co51) t241) ∧ Aside0 (Kd.R (Kd.int .i64) 3 wc w.heap.size (fun k_ => some k_ ≠ ((.slice Ao51 t241.length co51) : Value).ownBlock ∧ some k_ ≠ (v250 : Value).ownBlock ∧ some k_ ≠ (v255 : Value).ownBlock) (.slice Ao53 t244.length co53) t244) ∧ Aside0 (Kd.R (Kd.int .i64) 3 wc w.heap.size (fun k_ => some k_ ≠ ((.slice Ao51 t241.length co51) : Value).ownBlock ∧ some k_ ≠ ((.slice Ao53 t244.length co53) : Value).ownBlock ∧ some k_ ≠ (v255 : Value).ownBlock) v250 t249) ∧ Aside0 (Kd.R (Kd.int .i64) 3 wc w.heap.size (fun k_ => some k_ ≠ ((.slice Ao51 t241.length co51) : Value).ownBlock ∧ some k_ ≠ ((.slice Ao53 t244.length co53) : Value).ownBlock ∧ some k_ ≠ (v250 : Value).ownBlock) v255 t254) ∧ Aside0 (wc.heap[gb233]? = some (.cells #[.int .i64 a0_0, .int .i64 a0_1, (.slice A0_2 l0_2.length c0_2), (.slice A0_3 l0_3.length c0_3)] 25 (0, 0))) ∧ Aside0 (wc.heap[gb234]? = some (.cells #[.int .i64 a1_0, .int .u64 a1_1] 30 (0, 0))) ∧ Aside0 (wc.heap[gb235]? = some (.cells #[.int .i64 a2_0, .int .u64 a2_1] 30 (0, 0))) ∧ Aside0 (Below w.heap.size w wc))
        case first =>
         have H := HC47.out; clear HC47
         replace H := Option.bind_eq_some_iff.mp H
         obtain ⟨t262, A550, H⟩ := H
         have A55 := Goto.m0 A550
         clear A550
         by_cases c56 : t260 = true
         ·
          subst c56
          rw [if_pos rfl] at H
          by_cases c57 : (t262 != t261) = true
          ·
           rw [if_pos c57] at H
           have c57b0 : (t262 != t261) = true := c57
           (try (have c57b1 : decide (t262 = t261) = false := by simpa using c57))
           (try (have c57b2 : (t262 == t261) = false := by simpa using c57))
           (try (have c57b3 : ¬ (t262 = t261) := by simpa using c57))
           clear c57
           (first | rw [c57b0] | (simp only [i64_w, i32_w]; rw [c57b0]) | skip)
           have H' := Goto.m0 H
           clear H
           try go_wp2
           replace HO_7 := Goto.m0 (Kd.S_drew HO_7.out); replace HO_8 := Goto.m0 (Kd.R_drew HO_8.out); replace HO_9 := Goto.m0 (Kd.R_drew HO_9.out); replace HO_10 := Goto.m0 (Kd.R_drew HO_10.out); replace HO_11 := Goto.m0 (Kd.R_drew HO_11.out); replace BK233 := Goto.m0 (blk_drew BK233.out); replace BK234 := Goto.m0 (blk_drew BK234.out); replace BK235 := Goto.m0 (blk_drew BK235.out); replace HB := Goto.m0 (below_drew1 HB.out)
           obtain ⟨Ao59, co59, eo59⟩ := Kd.R_slice HO_11.out
           (first | subst eo59 | (injection eo59 with f1_ f2_ f3_; have f4_ := f1_.symm; have f5_ := f3_.symm; clear f1_ f2_ f3_; subst f4_; subst f5_))
           refine start_ (n := 34) (S := fun w' => True) (ds := []) (.replicate 34 false) (by kernel_rfl) rfl rfl trivial (fun hHeld => ?_); refine with_tabW tontinelaw24_TraceBelow.tab12 tontinelaw24_TraceBelow.bits12 (fun HT_ HW_ => ?_)
           generalize w54.drew = w58 at HO_7 HO_8 HO_9 HO_10 HO_11 BK233 BK234 BK235 HB hHeld ⊢
           refine Goto.pu 0 56 34 1 ?_
           refine Goto.pu 1 57 34 3 ?_
           refine Goto.pu 3 59 34 11 ?_
           refine one_ (i := 2) (N := some 58) (Goto.bs 34 15) rfl rfl (one_of HT_.out (by kernel_rfl)) (by decide) (fun K hK => ?_)
           refine goes_ Tryd.func24 (by kernel_rfl) rfl #[.slice Ao59 t254.length co59, .int .i64 x12_1] (by rfl) rfl rfl (by (try simp only [List.map_toArray, List.map_cons, List.map_nil]); first | done | rfl | (simp only [List.length_drop, List.length_take]; rfl)) ?_
           with_reducible refine (ext_24.calls _ _ t254 x12_1 t262 _ ?side1 ?side2 A55.out).mono ?_
           (case side1 => repeat (first | exact (Kd.R_reads' HO_11.out).2.2 | (with_reducible refine Kd.C_alloc ?_ _) | (with_reducible refine Kd.C_drewN ?_ _) | (with_reducible refine Kd.C_drew ?_)))
           (case side2 => exact (Kd.R_reads' HO_11.out).2.1)
           rintro e w60 ⟨rfl, hb⟩
           refine ⟨_, rfl, ?_⟩
           replace HO_7 := Goto.m0 (Kd.S_below (by (with_reducible repeat (first | apply Kd.S_alloc | apply Kd.S_drewN | apply Kd.S_drew)); exact HO_7.out) hb); replace HO_8 := Goto.m0 (Kd.R_below (Goto.rk HO_8) hb); replace HO_9 := Goto.m0 (Kd.R_below (Goto.rk HO_9) hb); replace HO_10 := Goto.m0 (Kd.R_below (Goto.rk HO_10) hb); replace HO_11 := Goto.m0 (Kd.R_below (Goto.rk HO_11) hb); replace BK233 := Goto.bb BK233 hb; replace BK234 := Goto.bb BK234 hb; replace BK235 := Goto.bb BK235 hb; replace HB := Goto.hs HB hb
           (try clear hb)
           (try clear hb2)
           (try clear hk)
           (try clear hi)
           refine hK.out _ _ trivial (fun hHeld => ?_)
           clear hK K
           refine norm_ (a' := ?_) ?_ ?_
           rotate_left
           ·
            show Act.put _ (some 58) _ = _
            exact Goto.ap
           refine Goto.pu 4 60 34 31 ?_
           refine Goto.pu 5 61 34 63 ?_
           refine Goto.pu 6 62 34 127 ?_
           refine Goto.pu 7 63 34 255 ?_
           refine Goto.pu 8 64 34 511 ?_
           refine pure_ (i := 9) (N := some 65) (v := undef) (a' := ?_) (Goto.bs 34 1023) rfl rfl (any_of HT_.out (by kernel_rfl)) (fun _ _ _ h => h) (Or.inr ⟨by rfl, rfl⟩) ?_ ?_
           rotate_left
           ·
            exact Goto.ap
           refine pure_ (i := 10) (N := some 66) (v := undef) (a' := ?_) (Goto.bs 34 2047) rfl rfl (any_of HT_.out (by kernel_rfl)) (fun _ _ _ h => h) (Or.inr ⟨by rfl, rfl⟩) ?_ ?_
           rotate_left
           ·
            exact Goto.ap
           refine pure_ (i := 11) (N := some 67) (v := undef) (a' := ?_) (Goto.bs 34 4095) rfl rfl (any_of HT_.out (by kernel_rfl)) (fun _ _ _ h => h) (Or.inr ⟨by rfl, rfl⟩) ?_ ?_
           rotate_left
           ·
            exact Goto.ap
           refine pure_ (i := 12) (N := some 68) (v := undef) (a' := ?_) (Goto.bs 34 8191) rfl rfl (any_of HT_.out (by kernel_rfl)) (fun _ _ _ h => h) (Or.inr ⟨by rfl, rfl⟩) ?_ ?_
           rotate_left
           ·
            exact Goto.ap
           refine pure_ (i := 13) (N := some 69) (v := undef) (a' := ?_) (Goto.bs 34 16383) rfl rfl (any_of HT_.out (by kernel_rfl)) (fun _ _ _ h => h) (Or.inr ⟨by rfl, rfl⟩) ?_ ?_
           rotate_left
           ·
            exact Goto.ap
           refine pure_ (i := 14) (N := some 70) (v := undef) (a' := ?_) (Goto.bs 34 32767) rfl rfl (any_of HT_.out (by kernel_rfl)) (fun _ _ _ h => h) (Or.inr ⟨by rfl, rfl⟩) ?_ ?_
           rotate_left
           ·
            exact Goto.ap
           refine pure_ (i := 15) (N := some 71) (v := undef) (a' := ?_) (Goto.bs 34 65535) rfl rfl (any_of HT_.out (by kernel_rfl)) (fun _ _ _ h => h) (Or.inr ⟨by rfl, rfl⟩) ?_ ?_
           rotate_left
           ·
            exact Goto.ap
           refine pure_ (i := 16) (N := some 72) (v := undef) (a' := ?_) (Goto.bs 34 131071) rfl rfl (any_of HT_.out (by kernel_rfl)) (fun _ _ _ h => h) (Or.inr ⟨by rfl, rfl⟩) ?_ ?_
           rotate_left
           ·
            exact Goto.ap
           refine pure_ (i := 17) (N := some 73) (v := undef) (a' := ?_) (Goto.bs 34 262143) rfl rfl (any_of HT_.out (by kernel_rfl)) (fun _ _ _ h => h) (Or.inr ⟨by rfl, rfl⟩) ?_ ?_
           rotate_left
           ·
            exact Goto.ap
           refine pure_ (i := 18) (N := some 74) (v := undef) (a' := ?_) (Goto.bs 34 524287) rfl rfl (any_of HT_.out (by kernel_rfl)) (fun _ _ _ h => h) (Or.inr ⟨by rfl, rfl⟩) ?_ ?_
           rotate_left
           ·
            exact Goto.ap
           refine Goto.pu 19 75 34 1048575 ?_
           refine Goto.pu 20 76 34 2097151 ?_
           refine pure_ (i := 21) (N := some 77) (v := undef) (a' := ?_) (Goto.bs 34 4194303) rfl rfl (any_of HT_.out (by kernel_rfl)) (fun _ _ _ h => h) (Or.inr ⟨by rfl, rfl⟩) ?_ ?_
           rotate_left
           ·
            exact Goto.ap
           refine pure_ (i := 22) (N := some 78) (v := undef) (a' := ?_) (Goto.bs 34 8388607) rfl rfl (any_of HT_.out (by kernel_rfl)) (fun _ _ _ h => h) (Or.inr ⟨by rfl, rfl⟩) ?_ ?_
           rotate_left
           ·
            exact Goto.ap
           refine pure_ (i := 23) (N := some 79) (v := undef) (a' := ?_) (Goto.bs 34 16777215) rfl rfl (any_of HT_.out (by kernel_rfl)) (fun _ _ _ h => h) (Or.inr ⟨by rfl, rfl⟩) ?_ ?_
           rotate_left
           ·
            exact Goto.ap
           refine pure_ (i := 24) (N := some 80) (v := undef) (a' := ?_) (Goto.bs 34 33554431) rfl rfl (any_of HT_.out (by kernel_rfl)) (fun _ _ _ h => h) (Or.inr ⟨by rfl, rfl⟩) ?_ ?_
           rotate_left
           ·
            exact Goto.ap
           refine pure_ (i := 25) (N := some 81) (v := undef) (a' := ?_) (Goto.bs 34 67108863) rfl rfl (any_of HT_.out (by kernel_rfl)) (fun _ _ _ h => h) (Or.inr ⟨by rfl, rfl⟩) ?_ ?_
           rotate_left
           ·
            exact Goto.ap
           refine pure_ (i := 26) (N := some 82) (v := undef) (a' := ?_) (Goto.bs 34 134217727) rfl rfl (any_of HT_.out (by kernel_rfl)) (fun _ _ _ h => h) (Or.inr ⟨by rfl, rfl⟩) ?_ ?_
           rotate_left
           ·
            exact Goto.ap
           refine pure_ (i := 27) (N := some 83) (v := undef) (a' := ?_) (Goto.bs 34 268435455) rfl rfl (any_of HT_.out (by kernel_rfl)) (fun _ _ _ h => h) (Or.inr ⟨by rfl, rfl⟩) ?_ ?_
           rotate_left
           ·
            exact Goto.ap
           refine pure_ (i := 28) (N := some 84) (v := undef) (a' := ?_) (Goto.bs 34 536870911) rfl rfl (any_of HT_.out (by kernel_rfl)) (fun _ _ _ h => h) (Or.inr ⟨by rfl, rfl⟩) ?_ ?_
           rotate_left
           ·
            exact Goto.ap
           refine pure_ (i := 29) (N := some 85) (v := undef) (a' := ?_) (Goto.bs 34 1073741823) rfl rfl (any_of HT_.out (by kernel_rfl)) (fun _ _ _ h => h) (Or.inr ⟨by rfl, rfl⟩) ?_ ?_
           rotate_left
           ·
            exact Goto.ap
           refine pure_ (i := 30) (N := some 86) (v := undef) (a' := ?_) (Goto.bs 34 2147483647) rfl rfl (any_of HT_.out (by kernel_rfl)) (fun _ _ _ h => h) (Or.inr ⟨by rfl, rfl⟩) ?_ ?_
           rotate_left
           ·
            exact Goto.ap
           refine pure_ (i := 31) (N := some 87) (v := undef) (a' := ?_) (Goto.bs 34 4294967295) rfl rfl (any_of HT_.out (by kernel_rfl)) (fun _ _ _ h => h) (Or.inr ⟨by rfl, rfl⟩) ?_ ?_
           rotate_left
           ·
            exact Goto.ap
           refine pure_ (i := 32) (N := some 88) (v := undef) (a' := ?_) (Goto.bs 34 8589934591) rfl rfl (any_of HT_.out (by kernel_rfl)) (fun _ _ _ h => h) (Or.inr ⟨by rfl, rfl⟩) ?_ ?_
           rotate_left
           ·
            exact Goto.ap
           refine Goto.pu 33 89 34 17179869183 ?_
           refine done_ (done_of HT_.out (by kernel_rfl)) ?_
           try go_wp2
           go_meet
           case rel => exact ⟨_, (true), (by first | rfl | (simp; done) | (simp [*]; done)), H', ⟨by have := HK1.out; first | omega | exact Nat.le_refl _⟩, ⟨by (with_reducible repeat (first | apply Kd.S_alloc | apply Kd.S_drewN | apply Kd.S_drew)); exact HO_7.out⟩, ⟨Goto.rk HO_8⟩, ⟨Goto.rk HO_9⟩, ⟨Goto.rk HO_10⟩, ⟨Goto.rk HO_11⟩, ⟨Goto.bx BK233⟩, ⟨Goto.bx BK234⟩, ⟨Goto.bx BK235⟩, ⟨Goto.hx HB⟩⟩
          ·
           rw [if_neg c57] at H
           have c57b0 : (t262 != t261) = false := by simpa using c57
           (try (have c57b1 : decide (t262 = t261) = true := by simpa using c57))
           (try (have c57b2 : (t262 == t261) = true := by simpa using c57))
           clear c57
           (first | rw [c57b0] | (simp only [i64_w, i32_w]; rw [c57b0]) | skip)
           replace H := Option.bind_eq_some_iff.mp H
           obtain ⟨t263, A610, H⟩ := H
           have A61 := Goto.m0 A610
           clear A610
           by_cases c62 : t263 = true
           ·
            subst c62
            rw [if_pos rfl] at H
            by_cases c63 : 0 ≤ x12_1
            ·
             rw [if_pos c63] at H
             have c63b0 : decide (0 ≤ x12_1) = true := decide_eq_true c63
             clear c63
             replace H := Option.bind_eq_some_iff.mp H
             obtain ⟨t265, A640, H⟩ := H
             have A64 := Goto.m0 A640
             clear A640
             replace H := Option.bind_eq_some_iff.mp H
             obtain ⟨t268, A650, H⟩ := H
             have A65 := Goto.m0 A650
             clear A650
             have H' := Goto.m0 H
             clear H
             try go_wp2
             replace HO_7 := Goto.m0 (Kd.S_drew HO_7.out); replace HO_8 := Goto.m0 (Kd.R_drew HO_8.out); replace HO_9 := Goto.m0 (Kd.R_drew HO_9.out); replace HO_10 := Goto.m0 (Kd.R_drew HO_10.out); replace HO_11 := Goto.m0 (Kd.R_drew HO_11.out); replace BK233 := Goto.m0 (blk_drew BK233.out); replace BK234 := Goto.m0 (blk_drew BK234.out); replace BK235 := Goto.m0 (blk_drew BK235.out); replace HB := Goto.m0 (below_drew1 HB.out)
             obtain ⟨Ao67, co67, eo67⟩ := Kd.R_slice HO_11.out
             (first | subst eo67 | (injection eo67 with f1_ f2_ f3_; have f4_ := f1_.symm; have f5_ := f3_.symm; clear f1_ f2_ f3_; subst f4_; subst f5_))
             have p264 : 0 ≤ (x12_1 : Int) := Goto.od
             have q264 : x12_1 < (l0_3.length : Int) := Goto.od
             obtain ⟨ad264, A264_2, c264_2, A264_3, c264_3, e264, hx264_0, hx264_1, hx264_2, hx264_3, hx264_4, hx264_5, hx264_6, hx264_7, hx264_8, hx264_9, hl264_2, hi264_2, hl264_3, hi264_3⟩ := at_T46 HR0_3.out x12_1 p264 q264
             have hw264_9 := hx264_9; have hw264_8 := hx264_8; have hw264_7 := hx264_7; have hw264_6 := hx264_6; have hw264_5 := hx264_5; have hw264_4 := hx264_4; have hw264_3 := hx264_3; have hw264_2 := hx264_2; have hw264_1 := hx264_1; have hw264_0 := hx264_0
             cases e264
             replace hx264_0 := Goto.kc HB.out hx264_0
             replace hx264_1 := Goto.kc HB.out hx264_1
             replace hx264_2 := Goto.kc HB.out hx264_2
             replace hx264_3 := Goto.kc HB.out hx264_3
             replace hx264_4 := Goto.kc HB.out hx264_4
             replace hx264_5 := Goto.kc HB.out hx264_5
             replace hx264_6 := Goto.kc HB.out hx264_6
             replace hx264_7 := Goto.kc HB.out hx264_7
             replace hx264_8 := Goto.kc HB.out hx264_8
             replace hx264_9 := Goto.kc HB.out hx264_9
             have HR264_2 := Goto.m0 hi264_2
             have HC264_2 := Goto.m0 hl264_2
             clear hi264_2 hl264_2
             have HR264_3 := Goto.m0 hi264_3
             have HC264_3 := Goto.m0 hl264_3
             clear hi264_3 hl264_3; replace p264 := eq_true p264; replace q264 := eq_true q264
             refine start_ (n := 34) (S := fun w' => w'.cell? ⟨gb233, 0, none⟩ = some (.int .i64 a0_0) ∧ w'.cell? ⟨gb233, 1, none⟩ = some (.int .i64 a0_1) ∧ w'.cell? ⟨gb233, 2, none⟩ = some (.slice A0_2 l0_2.length c0_2) ∧ w'.cell? ⟨gb233, 3, none⟩ = some (.slice (some ad264) l0_3.length c0_3) ∧ w'.cell? (ad264.add ((x12_1).toNat * 10)) = some (.int .i64 ((rd_T46 l0_3 x12_1).f0.f0)) ∧ w'.cell? ⟨(ad264.add ((x12_1).toNat * 10)).block, (ad264.add ((x12_1).toNat * 10)).off + 1, none⟩ = some (.int .u64 ((rd_T46 l0_3 x12_1).f0.f1)) ∧ w'.cell? ⟨(ad264.add ((x12_1).toNat * 10)).block, (ad264.add ((x12_1).toNat * 10)).off + 2, none⟩ = some (.slice A264_2 ((rd_T46 l0_3 x12_1).f1).length c264_2) ∧ w'.cell? ⟨(ad264.add ((x12_1).toNat * 10)).block, (ad264.add ((x12_1).toNat * 10)).off + 3, none⟩ = some (.slice A264_3 ((rd_T46 l0_3 x12_1).f2).length c264_3) ∧ w'.cell? ⟨(ad264.add ((x12_1).toNat * 10)).block, (ad264.add ((x12_1).toNat * 10)).off + 4, none⟩ = some (.int .i64 ((rd_T46 l0_3 x12_1).f3)) ∧ w'.cell? ⟨(ad264.add ((x12_1).toNat * 10)).block, (ad264.add ((x12_1).toNat * 10)).off + 5, none⟩ = some (.int .i64 ((rd_T46 l0_3 x12_1).f4)) ∧ w'.cell? ⟨(ad264.add ((x12_1).toNat * 10)).block, (ad264.add ((x12_1).toNat * 10)).off + 6, none⟩ = some (.int .i64 ((rd_T46 l0_3 x12_1).f5)) ∧ w'.cell? ⟨(ad264.add ((x12_1).toNat * 10)).block, (ad264.add ((x12_1).toNat * 10)).off + 7, none⟩ = some (.int .i64 ((rd_T46 l0_3 x12_1).f6)) ∧ w'.cell? ⟨(ad264.add ((x12_1).toNat * 10)).block, (ad264.add ((x12_1).toNat * 10)).off + 8, none⟩ = some (.int .i64 ((rd_T46 l0_3 x12_1).f7)) ∧ w'.cell? ⟨(ad264.add ((x12_1).toNat * 10)).block, (ad264.add ((x12_1).toNat * 10)).off + 9, none⟩ = some (.int .i64 ((rd_T46 l0_3 x12_1).f8))) (ds := []) (.replicate 34 false) (by kernel_rfl) rfl rfl ⟨(blk_cell BK233.out 0).trans rfl, (blk_cell BK233.out 1).trans rfl, (blk_cell BK233.out 2).trans rfl, (blk_cell BK233.out 3).trans rfl, (Goto.kc HB.out hw264_0), (Goto.kc HB.out hw264_1), (Goto.kc HB.out hw264_2), (Goto.kc HB.out hw264_3), (Goto.kc HB.out hw264_4), (Goto.kc HB.out hw264_5), (Goto.kc HB.out hw264_6), (Goto.kc HB.out hw264_7), (Goto.kc HB.out hw264_8), (Goto.kc HB.out hw264_9)⟩ (fun hHeld => ?_); refine with_tabW tontinelaw24_TraceBelow.tab12 tontinelaw24_TraceBelow.bits12 (fun HT_ HW_ => ?_)
             generalize w54.drew = w66 at HO_7 HO_8 HO_9 HO_10 HO_11 BK233 BK234 BK235 HB HR264_2 HR264_3 hx264_0 hx264_1 hx264_2 hx264_3 hx264_4 hx264_5 hx264_6 hx264_7 hx264_8 hx264_9 hHeld ⊢
             refine Goto.pu 0 56 34 1 ?_
             refine Goto.pu 1 57 34 3 ?_
             refine Goto.pu 3 59 34 11 ?_
             refine one_ (i := 2) (N := some 58) (Goto.bs 34 15) rfl rfl (one_of HT_.out (by kernel_rfl)) (by decide) (fun K hK => ?_)
             refine goes_ Tryd.func24 (by kernel_rfl) rfl #[.slice Ao67 t254.length co67, .int .i64 x12_1] (by rfl) rfl rfl (by (try simp only [List.map_toArray, List.map_cons, List.map_nil]); first | done | rfl | (simp only [List.length_drop, List.length_take]; rfl)) ?_
             with_reducible refine (ext_24.calls _ _ t254 x12_1 t262 _ ?side1 ?side2 A55.out).mono ?_
             (case side1 => repeat (first | exact (Kd.R_reads' HO_11.out).2.2 | (with_reducible refine Kd.C_alloc ?_ _) | (with_reducible refine Kd.C_drewN ?_ _) | (with_reducible refine Kd.C_drew ?_)))
             (case side2 => exact (Kd.R_reads' HO_11.out).2.1)
             rintro e w68 ⟨rfl, hb⟩
             refine ⟨_, rfl, ?_⟩
             replace HO_7 := Goto.m0 (Kd.S_below (by (with_reducible repeat (first | apply Kd.S_alloc | apply Kd.S_drewN | apply Kd.S_drew)); exact HO_7.out) hb); replace HO_8 := Goto.m0 (Kd.R_below (Goto.rk HO_8) hb); replace HO_9 := Goto.m0 (Kd.R_below (Goto.rk HO_9) hb); replace HO_10 := Goto.m0 (Kd.R_below (Goto.rk HO_10) hb); replace HO_11 := Goto.m0 (Kd.R_below (Goto.rk HO_11) hb); replace BK233 := Goto.bb BK233 hb; replace BK234 := Goto.bb BK234 hb; replace BK235 := Goto.bb BK235 hb; replace HB := Goto.hs HB hb
             (try clear hb)
             (try clear hb2)
             (try clear hk)
             (try clear hi)
             obtain ⟨Ao69, co69, eo69⟩ := Kd.R_slice HO_10.out
             (first | subst eo69 | (injection eo69 with f1_ f2_ f3_; have f4_ := f1_.symm; have f5_ := f3_.symm; clear f1_ f2_ f3_; subst f4_; subst f5_))
             refine hK.out _ _ ⟨(blk_cell BK233.out 0).trans rfl, (blk_cell BK233.out 1).trans rfl, (blk_cell BK233.out 2).trans rfl, (blk_cell BK233.out 3).trans rfl, (Goto.kc HB.out hw264_0), (Goto.kc HB.out hw264_1), (Goto.kc HB.out hw264_2), (Goto.kc HB.out hw264_3), (Goto.kc HB.out hw264_4), (Goto.kc HB.out hw264_5), (Goto.kc HB.out hw264_6), (Goto.kc HB.out hw264_7), (Goto.kc HB.out hw264_8), (Goto.kc HB.out hw264_9)⟩ (fun hHeld => ?_)
             clear hK K
             refine norm_ (a' := ?_) ?_ ?_
             rotate_left
             ·
              show Act.put _ (some 58) _ = _
              exact Goto.ap
             refine Goto.pu 4 60 34 31 ?_
             refine Goto.pu 5 61 34 63 ?_
             refine Goto.pu 6 62 34 127 ?_
             refine Goto.pu 7 63 34 255 ?_
             refine Goto.pu 8 64 34 511 ?_
             refine Goto.pu 9 65 34 1023 ?_
             refine Goto.pu 10 66 34 2047 ?_
             refine pure_ (i := 11) (N := some 67) (v := undef) (a' := ?_) (Goto.bs 34 4095) rfl rfl (any_of HT_.out (by kernel_rfl)) (fun _ _ _ h => h) (Or.inr ⟨by rfl, rfl⟩) ?_ ?_
             rotate_left
             ·
              exact Goto.ap
             refine Goto.pu 12 68 34 8191 ?_
             refine Goto.pu 13 69 34 16383 ?_
             refine Goto.pu 14 70 34 32767 ?_
             refine Goto.pu 15 71 34 65535 ?_
             refine one_ (i := 16) (N := some 72) (Goto.bs 34 131071) rfl rfl (one_of HT_.out (by kernel_rfl)) (by decide) (fun K hK => ?_)
             refine goes_ Tryd.func24 (by kernel_rfl) rfl #[.slice Ao69 t249.length co69, .int .i64 x12_1] (by rfl) rfl rfl (by (try simp only [List.map_toArray, List.map_cons, List.map_nil]); first | done | rfl | (simp only [List.length_drop, List.length_take]; rfl)) ?_
             with_reducible refine (ext_24.calls _ _ t249 x12_1 true _ ?side1 ?side2 A61.out).mono ?_
             (case side1 => repeat (first | exact (Kd.R_reads' HO_10.out).2.2 | (with_reducible refine Kd.C_alloc ?_ _) | (with_reducible refine Kd.C_drewN ?_ _) | (with_reducible refine Kd.C_drew ?_)))
             (case side2 => exact (Kd.R_reads' HO_10.out).2.1)
             rintro e w70 ⟨rfl, hb⟩
             refine ⟨_, rfl, ?_⟩
             replace HO_7 := Goto.m0 (Kd.S_below (by (with_reducible repeat (first | apply Kd.S_alloc | apply Kd.S_drewN | apply Kd.S_drew)); exact HO_7.out) hb); replace HO_8 := Goto.m0 (Kd.R_below (Goto.rk HO_8) hb); replace HO_9 := Goto.m0 (Kd.R_below (Goto.rk HO_9) hb); replace HO_10 := Goto.m0 (Kd.R_below (Goto.rk HO_10) hb); replace HO_11 := Goto.m0 (Kd.R_below (Goto.rk HO_11) hb); replace BK233 := Goto.bb BK233 hb; replace BK234 := Goto.bb BK234 hb; replace BK235 := Goto.bb BK235 hb; replace HB := Goto.hs HB hb
             (try clear hb)
             (try clear hb2)
             (try clear hk)
             (try clear hi)
             refine hK.out _ _ ⟨(blk_cell BK233.out 0).trans rfl, (blk_cell BK233.out 1).trans rfl, (blk_cell BK233.out 2).trans rfl, (blk_cell BK233.out 3).trans rfl, (Goto.kc HB.out hw264_0), (Goto.kc HB.out hw264_1), (Goto.kc HB.out hw264_2), (Goto.kc HB.out hw264_3), (Goto.kc HB.out hw264_4), (Goto.kc HB.out hw264_5), (Goto.kc HB.out hw264_6), (Goto.kc HB.out hw264_7), (Goto.kc HB.out hw264_8), (Goto.kc HB.out hw264_9)⟩ (fun hHeld => ?_)
             clear hK K
             refine norm_ (a' := ?_) ?_ ?_
             rotate_left
             ·
              show Act.put _ (some 72) _ = _
              exact Goto.ap
             refine Goto.pu 17 73 34 262143 ?_
             refine Goto.pu 18 74 34 524287 ?_
             refine Goto.pu 19 75 34 1048575 ?_
             refine Goto.pu 20 76 34 2097151 ?_
             refine Goto.pu 22 78 34 6291455 ?_
             refine Goto.pu 23 79 34 14680063 ?_
             refine Goto.pu 25 81 34 48234495 ?_
             refine Goto.pu 30 86 34 1121976319 ?_
             refine take_ (i := 21) (N := some 77) (v := ?_) (a' := ?_) (Goto.bs 34 1124073471) rfl rfl (take_ofW HT_.out HW_.out (by kernel_rfl)) (fun _ _ _ h => h) (Or.inl ⟨by rfl, ?_⟩) hHeld ?_ ?_
             rotate_left
             ·
              rintro w' ⟨s0, s1, s2, s3, s4, s5, s6, s7, s8, s9, s10, s11, s12, s13⟩
              go_simp
              with_reducible rfl
             rotate_left
             ·
              exact Goto.ap
             refine take_ (i := 24) (N := some 80) (v := ?_) (a' := ?_) (Goto.bs 34 1140850687) rfl rfl (take_ofW HT_.out HW_.out (by kernel_rfl)) (fun _ _ _ h => h) (Or.inl ⟨by rfl, ?_⟩) hHeld ?_ ?_
             rotate_left
             ·
              rintro w' ⟨s0, s1, s2, s3, s4, s5, s6, s7, s8, s9, s10, s11, s12, s13⟩
              go_simp
              with_reducible rfl
             rotate_left
             ·
              exact Goto.ap
             refine Goto.pu 26 82 34 1207959551 ?_
             refine Goto.pu 27 83 34 1342177279 ?_
             refine take_ (i := 28) (N := some 84) (v := ?_) (a' := ?_) (Goto.bs 34 1610612735) rfl rfl (take_ofW HT_.out HW_.out (by kernel_rfl)) (fun _ _ _ h => h) (Or.inl ⟨by rfl, ?_⟩) hHeld ?_ ?_
             rotate_left
             ·
              rintro w' ⟨s0, s1, s2, s3, s4, s5, s6, s7, s8, s9, s10, s11, s12, s13⟩
              go_simp
              with_reducible rfl
             rotate_left
             ·
              exact Goto.ap
             refine one_ (i := 29) (N := some 85) (Goto.bs 34 2147483647) rfl rfl (one_of HT_.out (by kernel_rfl)) (by decide) (fun K hK => ?_)
             refine goes_ Tryd.func16 (by kernel_rfl) rfl #[.agg #[.int .i64 a0_0, .int .i64 a0_1, .slice A0_2 l0_2.length c0_2, .slice (some ad264) l0_3.length c0_3], .slice Ao36 y238.length co36, .agg #[.int .i64 ((rd_T46 l0_3 x12_1).f0.f0), .int .u64 ((rd_T46 l0_3 x12_1).f0.f1)]] (by rfl) rfl rfl (by (try simp only [List.map_toArray, List.map_cons, List.map_nil]); first | done | rfl | (simp only [List.length_drop, List.length_take]; rfl)) ?_
             with_reducible refine (trace_Below.calls k1 a0_0 a0_1 _ _ l0_2 _ _ l0_3 _ _ y238 ((rd_T46 l0_3 x12_1).f0.f0) ((rd_T46 l0_3 x12_1).f0.f1) t265 _ ?side1 ?side2 ?side3 ?side4 ?side5 ?side6 A64.out).mono ?_
             (case side1 => repeat (first | exact (Kd.C_below HR0_2.out HB.out) | (with_reducible refine Kd.C_alloc ?_ _) | (with_reducible refine Kd.C_drewN ?_ _) | (with_reducible refine Kd.C_drew ?_)))
             (case side2 => exact HC0_2.out)
             (case side3 => repeat (first | exact (Kd.C_below HR0_3.out HB.out) | (with_reducible refine Kd.C_alloc ?_ _) | (with_reducible refine Kd.C_drewN ?_ _) | (with_reducible refine Kd.C_drew ?_)))
             (case side4 => exact HC0_3.out)
             (case side5 => repeat (first | exact (Kd.S_reads' HO_7.out).2.2 | (with_reducible refine Kd.C_alloc ?_ _) | (with_reducible refine Kd.C_drewN ?_ _) | (with_reducible refine Kd.C_drew ?_)))
             (case side6 => exact (Kd.S_reads' HO_7.out).2.1)
             rintro e w71 ⟨v266, rfl, ho0, hb⟩
             refine ⟨_, rfl, ?_⟩
             have HO267 := Goto.m0 (Kd.R_lower (Kd.R_new' (Kd.R_new' (Kd.R_new' (Kd.R_new' ho0 (Kd.R_lt (Goto.rk HO_8))) (Kd.R_lt (Goto.rk HO_9))) (Kd.R_lt (Goto.rk HO_10))) (Kd.R_lt (Goto.rk HO_11))) (below_size (Goto.hx HB))); replace HO_7 := Goto.m0 (Kd.S_below (by (with_reducible repeat (first | apply Kd.S_alloc | apply Kd.S_drewN | apply Kd.S_drew)); exact HO_7.out) hb); replace HO_8 := Goto.m0 (Kd.R_elder' (Goto.rk HO_8) (Kd.R_base ho0) hb); replace HO_9 := Goto.m0 (Kd.R_elder' (Goto.rk HO_9) (Kd.R_base ho0) hb); replace HO_10 := Goto.m0 (Kd.R_elder' (Goto.rk HO_10) (Kd.R_base ho0) hb); replace HO_11 := Goto.m0 (Kd.R_elder' (Goto.rk HO_11) (Kd.R_base ho0) hb); replace BK233 := Goto.bb BK233 hb; replace BK234 := Goto.bb BK234 hb; replace BK235 := Goto.bb BK235 hb; replace HB := Goto.hs HB hb
             (try clear hb)
             (try clear hb2)
             (try clear hk)
             (try clear hi)
             (try clear ho0)
             obtain ⟨Ao72, co72, eo72⟩ := Kd.R_slice HO267.out
             (first | subst eo72 | (injection eo72 with f1_ f2_ f3_; have f4_ := f1_.symm; have f5_ := f3_.symm; clear f1_ f2_ f3_; subst f4_; subst f5_))
             refine hK.out _ _ ⟨(blk_cell BK233.out 0).trans rfl, (blk_cell BK233.out 1).trans rfl, (blk_cell BK233.out 2).trans rfl, (blk_cell BK233.out 3).trans rfl, (Goto.kc HB.out hw264_0), (Goto.kc HB.out hw264_1), (Goto.kc HB.out hw264_2), (Goto.kc HB.out hw264_3), (Goto.kc HB.out hw264_4), (Goto.kc HB.out hw264_5), (Goto.kc HB.out hw264_6), (Goto.kc HB.out hw264_7), (Goto.kc HB.out hw264_8), (Goto.kc HB.out hw264_9)⟩ (fun hHeld => ?_)
             clear hK K
             refine norm_ (a' := ?_) ?_ ?_
             rotate_left
             ·
              show Act.put _ (some 85) _ = _
              exact Goto.ap
             refine one_ (i := 31) (N := some 87) (Goto.bs 34 4294967295) rfl rfl (one_of HT_.out (by kernel_rfl)) (by decide) (fun K hK => ?_)
             refine goes_ Tryd.func24 (by kernel_rfl) rfl #[.slice Ao72 t265.length co72, .int .i64 x12_1] (by rfl) rfl rfl (by (try simp only [List.map_toArray, List.map_cons, List.map_nil]); first | done | rfl | (simp only [List.length_drop, List.length_take]; rfl)) ?_
             with_reducible refine (ext_24.calls _ _ t265 x12_1 t268 _ ?side1 ?side2 A65.out).mono ?_
             (case side1 => repeat (first | exact (Kd.R_reads' HO267.out).2.2 | (with_reducible refine Kd.C_alloc ?_ _) | (with_reducible refine Kd.C_drewN ?_ _) | (with_reducible refine Kd.C_drew ?_)))
             (case side2 => exact (Kd.R_reads' HO267.out).2.1)
             rintro e w73 ⟨rfl, hb⟩
             refine ⟨_, rfl, ?_⟩
             replace HO_7 := Goto.m0 (Kd.S_below (by (with_reducible repeat (first | apply Kd.S_alloc | apply Kd.S_drewN | apply Kd.S_drew)); exact HO_7.out) hb); replace HO_8 := Goto.m0 (Kd.R_below (Goto.rk HO_8) hb); replace HO_9 := Goto.m0 (Kd.R_below (Goto.rk HO_9) hb); replace HO_10 := Goto.m0 (Kd.R_below (Goto.rk HO_10) hb); replace HO_11 := Goto.m0 (Kd.R_below (Goto.rk HO_11) hb); replace HO267 := Goto.m0 (Kd.R_below (Goto.rk HO267) hb); replace BK233 := Goto.bb BK233 hb; replace BK234 := Goto.bb BK234 hb; replace BK235 := Goto.bb BK235 hb; replace HB := Goto.hs HB hb
             (try clear hb)
             (try clear hb2)
             (try clear hk)
             (try clear hi)
             refine hK.out _ _ ⟨(blk_cell BK233.out 0).trans rfl, (blk_cell BK233.out 1).trans rfl, (blk_cell BK233.out 2).trans rfl, (blk_cell BK233.out 3).trans rfl, (Goto.kc HB.out hw264_0), (Goto.kc HB.out hw264_1), (Goto.kc HB.out hw264_2), (Goto.kc HB.out hw264_3), (Goto.kc HB.out hw264_4), (Goto.kc HB.out hw264_5), (Goto.kc HB.out hw264_6), (Goto.kc HB.out hw264_7), (Goto.kc HB.out hw264_8), (Goto.kc HB.out hw264_9)⟩ (fun hHeld => ?_)
             clear hK K
             refine norm_ (a' := ?_) ?_ ?_
             rotate_left
             ·
              show Act.put _ (some 87) _ = _
              exact Goto.ap
             refine Goto.pu 32 88 34 8589934591 ?_
             refine Goto.pu 33 89 34 17179869183 ?_
             refine done_ (done_of HT_.out (by kernel_rfl)) ?_
             try go_wp2
             go_meet
             case rel => exact ⟨_, (!t268), (by first | rfl | (simp; done) | (simp [*]; done)), H', ⟨by have := HK1.out; first | omega | exact Nat.le_refl _⟩, ⟨by (with_reducible repeat (first | apply Kd.S_alloc | apply Kd.S_drewN | apply Kd.S_drew)); exact HO_7.out⟩, ⟨by (with_reducible repeat (first | apply Kd.R_alloc | apply Kd.R_drewN | apply Kd.R_drew)); exact Kd.R_mono HO_8.out (fun _ hk => ⟨hk.1.1, ⟨hk.1.2.1, hk.1.2.2⟩⟩)⟩, ⟨by (with_reducible repeat (first | apply Kd.R_alloc | apply Kd.R_drewN | apply Kd.R_drew)); exact Kd.R_mono HO_9.out (fun _ hk => ⟨hk.1.1, ⟨hk.1.2.1, hk.1.2.2⟩⟩)⟩, ⟨by (with_reducible repeat (first | apply Kd.R_alloc | apply Kd.R_drewN | apply Kd.R_drew)); exact Kd.R_mono HO_10.out (fun _ hk => ⟨hk.1.1, ⟨hk.1.2.1, hk.1.2.2⟩⟩)⟩, ⟨by (with_reducible repeat (first | apply Kd.R_alloc | apply Kd.R_drewN | apply Kd.R_drew)); exact Kd.R_mono HO_11.out (fun _ hk => ⟨hk.1.1, ⟨hk.1.2.1, hk.1.2.2⟩⟩)⟩, ⟨Goto.bx BK233⟩, ⟨Goto.bx BK234⟩, ⟨Goto.bx BK235⟩, ⟨Goto.hx HB⟩⟩
            ·
             rw [if_neg c63] at H
             exact absurd H (by simp)
           ·
            replace c62 := Bool.eq_false_iff.mpr c62
            subst c62
            rw [if_neg (show ¬ (false = true) by decide)] at H
            have H' := Goto.m0 H
            clear H
            try go_wp2
            replace HO_7 := Goto.m0 (Kd.S_drew HO_7.out); replace HO_8 := Goto.m0 (Kd.R_drew HO_8.out); replace HO_9 := Goto.m0 (Kd.R_drew HO_9.out); replace HO_10 := Goto.m0 (Kd.R_drew HO_10.out); replace HO_11 := Goto.m0 (Kd.R_drew HO_11.out); replace BK233 := Goto.m0 (blk_drew BK233.out); replace BK234 := Goto.m0 (blk_drew BK234.out); replace BK235 := Goto.m0 (blk_drew BK235.out); replace HB := Goto.m0 (below_drew1 HB.out)
            obtain ⟨Ao75, co75, eo75⟩ := Kd.R_slice HO_11.out
            (first | subst eo75 | (injection eo75 with f1_ f2_ f3_; have f4_ := f1_.symm; have f5_ := f3_.symm; clear f1_ f2_ f3_; subst f4_; subst f5_))
            refine start_ (n := 34) (S := fun w' => True) (ds := []) (.replicate 34 false) (by kernel_rfl) rfl rfl trivial (fun hHeld => ?_); refine with_tabW tontinelaw24_TraceBelow.tab12 tontinelaw24_TraceBelow.bits12 (fun HT_ HW_ => ?_)
            generalize w54.drew = w74 at HO_7 HO_8 HO_9 HO_10 HO_11 BK233 BK234 BK235 HB hHeld ⊢
            refine Goto.pu 0 56 34 1 ?_
            refine Goto.pu 1 57 34 3 ?_
            refine Goto.pu 3 59 34 11 ?_
            refine one_ (i := 2) (N := some 58) (Goto.bs 34 15) rfl rfl (one_of HT_.out (by kernel_rfl)) (by decide) (fun K hK => ?_)
            refine goes_ Tryd.func24 (by kernel_rfl) rfl #[.slice Ao75 t254.length co75, .int .i64 x12_1] (by rfl) rfl rfl (by (try simp only [List.map_toArray, List.map_cons, List.map_nil]); first | done | rfl | (simp only [List.length_drop, List.length_take]; rfl)) ?_
            with_reducible refine (ext_24.calls _ _ t254 x12_1 t262 _ ?side1 ?side2 A55.out).mono ?_
            (case side1 => repeat (first | exact (Kd.R_reads' HO_11.out).2.2 | (with_reducible refine Kd.C_alloc ?_ _) | (with_reducible refine Kd.C_drewN ?_ _) | (with_reducible refine Kd.C_drew ?_)))
            (case side2 => exact (Kd.R_reads' HO_11.out).2.1)
            rintro e w76 ⟨rfl, hb⟩
            refine ⟨_, rfl, ?_⟩
            replace HO_7 := Goto.m0 (Kd.S_below (by (with_reducible repeat (first | apply Kd.S_alloc | apply Kd.S_drewN | apply Kd.S_drew)); exact HO_7.out) hb); replace HO_8 := Goto.m0 (Kd.R_below (Goto.rk HO_8) hb); replace HO_9 := Goto.m0 (Kd.R_below (Goto.rk HO_9) hb); replace HO_10 := Goto.m0 (Kd.R_below (Goto.rk HO_10) hb); replace HO_11 := Goto.m0 (Kd.R_below (Goto.rk HO_11) hb); replace BK233 := Goto.bb BK233 hb; replace BK234 := Goto.bb BK234 hb; replace BK235 := Goto.bb BK235 hb; replace HB := Goto.hs HB hb
            (try clear hb)
            (try clear hb2)
            (try clear hk)
            (try clear hi)
            obtain ⟨Ao77, co77, eo77⟩ := Kd.R_slice HO_10.out
            (first | subst eo77 | (injection eo77 with f1_ f2_ f3_; have f4_ := f1_.symm; have f5_ := f3_.symm; clear f1_ f2_ f3_; subst f4_; subst f5_))
            refine hK.out _ _ trivial (fun hHeld => ?_)
            clear hK K
            refine norm_ (a' := ?_) ?_ ?_
            rotate_left
            ·
             show Act.put _ (some 58) _ = _
             exact Goto.ap
            refine Goto.pu 4 60 34 31 ?_
            refine Goto.pu 5 61 34 63 ?_
            refine Goto.pu 6 62 34 127 ?_
            refine Goto.pu 7 63 34 255 ?_
            refine Goto.pu 8 64 34 511 ?_
            refine Goto.pu 9 65 34 1023 ?_
            refine Goto.pu 10 66 34 2047 ?_
            refine pure_ (i := 11) (N := some 67) (v := undef) (a' := ?_) (Goto.bs 34 4095) rfl rfl (any_of HT_.out (by kernel_rfl)) (fun _ _ _ h => h) (Or.inr ⟨by rfl, rfl⟩) ?_ ?_
            rotate_left
            ·
             exact Goto.ap
            refine Goto.pu 12 68 34 8191 ?_
            refine Goto.pu 13 69 34 16383 ?_
            refine Goto.pu 14 70 34 32767 ?_
            refine Goto.pu 15 71 34 65535 ?_
            refine one_ (i := 16) (N := some 72) (Goto.bs 34 131071) rfl rfl (one_of HT_.out (by kernel_rfl)) (by decide) (fun K hK => ?_)
            refine goes_ Tryd.func24 (by kernel_rfl) rfl #[.slice Ao77 t249.length co77, .int .i64 x12_1] (by rfl) rfl rfl (by (try simp only [List.map_toArray, List.map_cons, List.map_nil]); first | done | rfl | (simp only [List.length_drop, List.length_take]; rfl)) ?_
            with_reducible refine (ext_24.calls _ _ t249 x12_1 false _ ?side1 ?side2 A61.out).mono ?_
            (case side1 => repeat (first | exact (Kd.R_reads' HO_10.out).2.2 | (with_reducible refine Kd.C_alloc ?_ _) | (with_reducible refine Kd.C_drewN ?_ _) | (with_reducible refine Kd.C_drew ?_)))
            (case side2 => exact (Kd.R_reads' HO_10.out).2.1)
            rintro e w78 ⟨rfl, hb⟩
            refine ⟨_, rfl, ?_⟩
            replace HO_7 := Goto.m0 (Kd.S_below (by (with_reducible repeat (first | apply Kd.S_alloc | apply Kd.S_drewN | apply Kd.S_drew)); exact HO_7.out) hb); replace HO_8 := Goto.m0 (Kd.R_below (Goto.rk HO_8) hb); replace HO_9 := Goto.m0 (Kd.R_below (Goto.rk HO_9) hb); replace HO_10 := Goto.m0 (Kd.R_below (Goto.rk HO_10) hb); replace HO_11 := Goto.m0 (Kd.R_below (Goto.rk HO_11) hb); replace BK233 := Goto.bb BK233 hb; replace BK234 := Goto.bb BK234 hb; replace BK235 := Goto.bb BK235 hb; replace HB := Goto.hs HB hb
            (try clear hb)
            (try clear hb2)
            (try clear hk)
            (try clear hi)
            refine hK.out _ _ trivial (fun hHeld => ?_)
            clear hK K
            refine norm_ (a' := ?_) ?_ ?_
            rotate_left
            ·
             show Act.put _ (some 72) _ = _
             exact Goto.ap
            refine Goto.pu 17 73 34 262143 ?_
            refine Goto.pu 18 74 34 524287 ?_
            refine Goto.pu 19 75 34 1048575 ?_
            refine Goto.pu 20 76 34 2097151 ?_
            refine pure_ (i := 21) (N := some 77) (v := undef) (a' := ?_) (Goto.bs 34 4194303) rfl rfl (any_of HT_.out (by kernel_rfl)) (fun _ _ _ h => h) (Or.inr ⟨by rfl, rfl⟩) ?_ ?_
            rotate_left
            ·
             exact Goto.ap
            refine pure_ (i := 22) (N := some 78) (v := undef) (a' := ?_) (Goto.bs 34 8388607) rfl rfl (any_of HT_.out (by kernel_rfl)) (fun _ _ _ h => h) (Or.inr ⟨by rfl, rfl⟩) ?_ ?_
            rotate_left
            ·
             exact Goto.ap
            refine pure_ (i := 23) (N := some 79) (v := undef) (a' := ?_) (Goto.bs 34 16777215) rfl rfl (any_of HT_.out (by kernel_rfl)) (fun _ _ _ h => h) (Or.inr ⟨by rfl, rfl⟩) ?_ ?_
            rotate_left
            ·
             exact Goto.ap
            refine pure_ (i := 24) (N := some 80) (v := undef) (a' := ?_) (Goto.bs 34 33554431) rfl rfl (any_of HT_.out (by kernel_rfl)) (fun _ _ _ h => h) (Or.inr ⟨by rfl, rfl⟩) ?_ ?_
            rotate_left
            ·
             exact Goto.ap
            refine pure_ (i := 25) (N := some 81) (v := undef) (a' := ?_) (Goto.bs 34 67108863) rfl rfl (any_of HT_.out (by kernel_rfl)) (fun _ _ _ h => h) (Or.inr ⟨by rfl, rfl⟩) ?_ ?_
            rotate_left
            ·
             exact Goto.ap
            refine pure_ (i := 26) (N := some 82) (v := undef) (a' := ?_) (Goto.bs 34 134217727) rfl rfl (any_of HT_.out (by kernel_rfl)) (fun _ _ _ h => h) (Or.inr ⟨by rfl, rfl⟩) ?_ ?_
            rotate_left
            ·
             exact Goto.ap
            refine pure_ (i := 27) (N := some 83) (v := undef) (a' := ?_) (Goto.bs 34 268435455) rfl rfl (any_of HT_.out (by kernel_rfl)) (fun _ _ _ h => h) (Or.inr ⟨by rfl, rfl⟩) ?_ ?_
            rotate_left
            ·
             exact Goto.ap
            refine pure_ (i := 28) (N := some 84) (v := undef) (a' := ?_) (Goto.bs 34 536870911) rfl rfl (any_of HT_.out (by kernel_rfl)) (fun _ _ _ h => h) (Or.inr ⟨by rfl, rfl⟩) ?_ ?_
            rotate_left
            ·
             exact Goto.ap
            refine pure_ (i := 29) (N := some 85) (v := undef) (a' := ?_) (Goto.bs 34 1073741823) rfl rfl (any_of HT_.out (by kernel_rfl)) (fun _ _ _ h => h) (Or.inr ⟨by rfl, rfl⟩) ?_ ?_
            rotate_left
            ·
             exact Goto.ap
            refine pure_ (i := 30) (N := some 86) (v := undef) (a' := ?_) (Goto.bs 34 2147483647) rfl rfl (any_of HT_.out (by kernel_rfl)) (fun _ _ _ h => h) (Or.inr ⟨by rfl, rfl⟩) ?_ ?_
            rotate_left
            ·
             exact Goto.ap
            refine pure_ (i := 31) (N := some 87) (v := undef) (a' := ?_) (Goto.bs 34 4294967295) rfl rfl (any_of HT_.out (by kernel_rfl)) (fun _ _ _ h => h) (Or.inr ⟨by rfl, rfl⟩) ?_ ?_
            rotate_left
            ·
             exact Goto.ap
            refine pure_ (i := 32) (N := some 88) (v := undef) (a' := ?_) (Goto.bs 34 8589934591) rfl rfl (any_of HT_.out (by kernel_rfl)) (fun _ _ _ h => h) (Or.inr ⟨by rfl, rfl⟩) ?_ ?_
            rotate_left
            ·
             exact Goto.ap
            refine Goto.pu 33 89 34 17179869183 ?_
            refine done_ (done_of HT_.out (by kernel_rfl)) ?_
            try go_wp2
            go_meet
            case rel => exact ⟨_, (true), (by first | rfl | (simp; done) | (simp [*]; done)), H', ⟨by have := HK1.out; first | omega | exact Nat.le_refl _⟩, ⟨by (with_reducible repeat (first | apply Kd.S_alloc | apply Kd.S_drewN | apply Kd.S_drew)); exact HO_7.out⟩, ⟨Goto.rk HO_8⟩, ⟨Goto.rk HO_9⟩, ⟨Goto.rk HO_10⟩, ⟨Goto.rk HO_11⟩, ⟨Goto.bx BK233⟩, ⟨Goto.bx BK234⟩, ⟨Goto.bx BK235⟩, ⟨Goto.hx HB⟩⟩
         ·
          replace c56 := Bool.eq_false_iff.mpr c56
          subst c56
          rw [if_neg (show ¬ (false = true) by decide)] at H
          by_cases c79 : (t262 != false) = true
          ·
           rw [if_pos c79] at H
           have c79b0 : (t262 != false) = true := c79
           (try (have c79b1 : decide (t262 = false) = false := by simpa using c79))
           (try (have c79b2 : (t262 == false) = false := by simpa using c79))
           (try (have c79b3 : ¬ (t262 = false) := by simpa using c79))
           clear c79
           have H' := Goto.m0 H
           clear H
           try go_wp2
           replace HO_7 := Goto.m0 (Kd.S_drew HO_7.out); replace HO_8 := Goto.m0 (Kd.R_drew HO_8.out); replace HO_9 := Goto.m0 (Kd.R_drew HO_9.out); replace HO_10 := Goto.m0 (Kd.R_drew HO_10.out); replace HO_11 := Goto.m0 (Kd.R_drew HO_11.out); replace BK233 := Goto.m0 (blk_drew BK233.out); replace BK234 := Goto.m0 (blk_drew BK234.out); replace BK235 := Goto.m0 (blk_drew BK235.out); replace HB := Goto.m0 (below_drew1 HB.out)
           obtain ⟨Ao81, co81, eo81⟩ := Kd.R_slice HO_11.out
           (first | subst eo81 | (injection eo81 with f1_ f2_ f3_; have f4_ := f1_.symm; have f5_ := f3_.symm; clear f1_ f2_ f3_; subst f4_; subst f5_))
           refine start_ (n := 34) (S := fun w' => True) (ds := []) (.replicate 34 false) (by kernel_rfl) rfl rfl trivial (fun hHeld => ?_); refine with_tabW tontinelaw24_TraceBelow.tab12 tontinelaw24_TraceBelow.bits12 (fun HT_ HW_ => ?_)
           generalize w54.drew = w80 at HO_7 HO_8 HO_9 HO_10 HO_11 BK233 BK234 BK235 HB hHeld ⊢
           refine Goto.pu 0 56 34 1 ?_
           refine Goto.pu 1 57 34 3 ?_
           refine Goto.pu 3 59 34 11 ?_
           refine one_ (i := 2) (N := some 58) (Goto.bs 34 15) rfl rfl (one_of HT_.out (by kernel_rfl)) (by decide) (fun K hK => ?_)
           refine goes_ Tryd.func24 (by kernel_rfl) rfl #[.slice Ao81 t254.length co81, .int .i64 x12_1] (by rfl) rfl rfl (by (try simp only [List.map_toArray, List.map_cons, List.map_nil]); first | done | rfl | (simp only [List.length_drop, List.length_take]; rfl)) ?_
           with_reducible refine (ext_24.calls _ _ t254 x12_1 t262 _ ?side1 ?side2 A55.out).mono ?_
           (case side1 => repeat (first | exact (Kd.R_reads' HO_11.out).2.2 | (with_reducible refine Kd.C_alloc ?_ _) | (with_reducible refine Kd.C_drewN ?_ _) | (with_reducible refine Kd.C_drew ?_)))
           (case side2 => exact (Kd.R_reads' HO_11.out).2.1)
           rintro e w82 ⟨rfl, hb⟩
           refine ⟨_, rfl, ?_⟩
           replace HO_7 := Goto.m0 (Kd.S_below (by (with_reducible repeat (first | apply Kd.S_alloc | apply Kd.S_drewN | apply Kd.S_drew)); exact HO_7.out) hb); replace HO_8 := Goto.m0 (Kd.R_below (Goto.rk HO_8) hb); replace HO_9 := Goto.m0 (Kd.R_below (Goto.rk HO_9) hb); replace HO_10 := Goto.m0 (Kd.R_below (Goto.rk HO_10) hb); replace HO_11 := Goto.m0 (Kd.R_below (Goto.rk HO_11) hb); replace BK233 := Goto.bb BK233 hb; replace BK234 := Goto.bb BK234 hb; replace BK235 := Goto.bb BK235 hb; replace HB := Goto.hs HB hb
           (try clear hb)
           (try clear hb2)
           (try clear hk)
           (try clear hi)
           refine hK.out _ _ trivial (fun hHeld => ?_)
           clear hK K
           refine norm_ (a' := ?_) ?_ ?_
           rotate_left
           ·
            show Act.put _ (some 58) _ = _
            exact Goto.ap
           refine Goto.pu 4 60 34 31 ?_
           refine pure_ (i := 5) (N := some 61) (v := undef) (a' := ?_) (Goto.bs 34 63) rfl rfl (any_of HT_.out (by kernel_rfl)) (fun _ _ _ h => h) (Or.inr ⟨by rfl, rfl⟩) ?_ ?_
           rotate_left
           ·
            exact Goto.ap
           refine Goto.pu 6 62 34 127 ?_
           refine Goto.pu 7 63 34 255 ?_
           refine Goto.pu 8 64 34 511 ?_
           refine pure_ (i := 9) (N := some 65) (v := undef) (a' := ?_) (Goto.bs 34 1023) rfl rfl (any_of HT_.out (by kernel_rfl)) (fun _ _ _ h => h) (Or.inr ⟨by rfl, rfl⟩) ?_ ?_
           rotate_left
           ·
            exact Goto.ap
           refine pure_ (i := 10) (N := some 66) (v := undef) (a' := ?_) (Goto.bs 34 2047) rfl rfl (any_of HT_.out (by kernel_rfl)) (fun _ _ _ h => h) (Or.inr ⟨by rfl, rfl⟩) ?_ ?_
           rotate_left
           ·
            exact Goto.ap
           refine pure_ (i := 11) (N := some 67) (v := undef) (a' := ?_) (Goto.bs 34 4095) rfl rfl (any_of HT_.out (by kernel_rfl)) (fun _ _ _ h => h) (Or.inr ⟨by rfl, rfl⟩) ?_ ?_
           rotate_left
           ·
            exact Goto.ap
           refine pure_ (i := 12) (N := some 68) (v := undef) (a' := ?_) (Goto.bs 34 8191) rfl rfl (any_of HT_.out (by kernel_rfl)) (fun _ _ _ h => h) (Or.inr ⟨by rfl, rfl⟩) ?_ ?_
           rotate_left
           ·
            exact Goto.ap
           refine pure_ (i := 13) (N := some 69) (v := undef) (a' := ?_) (Goto.bs 34 16383) rfl rfl (any_of HT_.out (by kernel_rfl)) (fun _ _ _ h => h) (Or.inr ⟨by rfl, rfl⟩) ?_ ?_
           rotate_left
           ·
            exact Goto.ap
           refine pure_ (i := 14) (N := some 70) (v := undef) (a' := ?_) (Goto.bs 34 32767) rfl rfl (any_of HT_.out (by kernel_rfl)) (fun _ _ _ h => h) (Or.inr ⟨by rfl, rfl⟩) ?_ ?_
           rotate_left
           ·
            exact Goto.ap
           refine pure_ (i := 15) (N := some 71) (v := undef) (a' := ?_) (Goto.bs 34 65535) rfl rfl (any_of HT_.out (by kernel_rfl)) (fun _ _ _ h => h) (Or.inr ⟨by rfl, rfl⟩) ?_ ?_
           rotate_left
           ·
            exact Goto.ap
           refine pure_ (i := 16) (N := some 72) (v := undef) (a' := ?_) (Goto.bs 34 131071) rfl rfl (any_of HT_.out (by kernel_rfl)) (fun _ _ _ h => h) (Or.inr ⟨by rfl, rfl⟩) ?_ ?_
           rotate_left
           ·
            exact Goto.ap
           refine pure_ (i := 17) (N := some 73) (v := undef) (a' := ?_) (Goto.bs 34 262143) rfl rfl (any_of HT_.out (by kernel_rfl)) (fun _ _ _ h => h) (Or.inr ⟨by rfl, rfl⟩) ?_ ?_
           rotate_left
           ·
            exact Goto.ap
           refine pure_ (i := 18) (N := some 74) (v := undef) (a' := ?_) (Goto.bs 34 524287) rfl rfl (any_of HT_.out (by kernel_rfl)) (fun _ _ _ h => h) (Or.inr ⟨by rfl, rfl⟩) ?_ ?_
           rotate_left
           ·
            exact Goto.ap
           refine Goto.pu 19 75 34 1048575 ?_
           refine Goto.pu 20 76 34 2097151 ?_
           refine pure_ (i := 21) (N := some 77) (v := undef) (a' := ?_) (Goto.bs 34 4194303) rfl rfl (any_of HT_.out (by kernel_rfl)) (fun _ _ _ h => h) (Or.inr ⟨by rfl, rfl⟩) ?_ ?_
           rotate_left
           ·
            exact Goto.ap
           refine pure_ (i := 22) (N := some 78) (v := undef) (a' := ?_) (Goto.bs 34 8388607) rfl rfl (any_of HT_.out (by kernel_rfl)) (fun _ _ _ h => h) (Or.inr ⟨by rfl, rfl⟩) ?_ ?_
           rotate_left
           ·
            exact Goto.ap
           refine pure_ (i := 23) (N := some 79) (v := undef) (a' := ?_) (Goto.bs 34 16777215) rfl rfl (any_of HT_.out (by kernel_rfl)) (fun _ _ _ h => h) (Or.inr ⟨by rfl, rfl⟩) ?_ ?_
           rotate_left
           ·
            exact Goto.ap
           refine pure_ (i := 24) (N := some 80) (v := undef) (a' := ?_) (Goto.bs 34 33554431) rfl rfl (any_of HT_.out (by kernel_rfl)) (fun _ _ _ h => h) (Or.inr ⟨by rfl, rfl⟩) ?_ ?_
           rotate_left
           ·
            exact Goto.ap
           refine pure_ (i := 25) (N := some 81) (v := undef) (a' := ?_) (Goto.bs 34 67108863) rfl rfl (any_of HT_.out (by kernel_rfl)) (fun _ _ _ h => h) (Or.inr ⟨by rfl, rfl⟩) ?_ ?_
           rotate_left
           ·
            exact Goto.ap
           refine pure_ (i := 26) (N := some 82) (v := undef) (a' := ?_) (Goto.bs 34 134217727) rfl rfl (any_of HT_.out (by kernel_rfl)) (fun _ _ _ h => h) (Or.inr ⟨by rfl, rfl⟩) ?_ ?_
           rotate_left
           ·
            exact Goto.ap
           refine pure_ (i := 27) (N := some 83) (v := undef) (a' := ?_) (Goto.bs 34 268435455) rfl rfl (any_of HT_.out (by kernel_rfl)) (fun _ _ _ h => h) (Or.inr ⟨by rfl, rfl⟩) ?_ ?_
           rotate_left
           ·
            exact Goto.ap
           refine pure_ (i := 28) (N := some 84) (v := undef) (a' := ?_) (Goto.bs 34 536870911) rfl rfl (any_of HT_.out (by kernel_rfl)) (fun _ _ _ h => h) (Or.inr ⟨by rfl, rfl⟩) ?_ ?_
           rotate_left
           ·
            exact Goto.ap
           refine pure_ (i := 29) (N := some 85) (v := undef) (a' := ?_) (Goto.bs 34 1073741823) rfl rfl (any_of HT_.out (by kernel_rfl)) (fun _ _ _ h => h) (Or.inr ⟨by rfl, rfl⟩) ?_ ?_
           rotate_left
           ·
            exact Goto.ap
           refine pure_ (i := 30) (N := some 86) (v := undef) (a' := ?_) (Goto.bs 34 2147483647) rfl rfl (any_of HT_.out (by kernel_rfl)) (fun _ _ _ h => h) (Or.inr ⟨by rfl, rfl⟩) ?_ ?_
           rotate_left
           ·
            exact Goto.ap
           refine pure_ (i := 31) (N := some 87) (v := undef) (a' := ?_) (Goto.bs 34 4294967295) rfl rfl (any_of HT_.out (by kernel_rfl)) (fun _ _ _ h => h) (Or.inr ⟨by rfl, rfl⟩) ?_ ?_
           rotate_left
           ·
            exact Goto.ap
           refine pure_ (i := 32) (N := some 88) (v := undef) (a' := ?_) (Goto.bs 34 8589934591) rfl rfl (any_of HT_.out (by kernel_rfl)) (fun _ _ _ h => h) (Or.inr ⟨by rfl, rfl⟩) ?_ ?_
           rotate_left
           ·
            exact Goto.ap
           refine Goto.pu 33 89 34 17179869183 ?_
           refine done_ (done_of HT_.out (by kernel_rfl)) ?_
           try go_wp2
           go_meet
           case rel => exact ⟨_, (true), (by first | rfl | (simp; done) | (simp [*]; done)), H', ⟨by have := HK1.out; first | omega | exact Nat.le_refl _⟩, ⟨by (with_reducible repeat (first | apply Kd.S_alloc | apply Kd.S_drewN | apply Kd.S_drew)); exact HO_7.out⟩, ⟨Goto.rk HO_8⟩, ⟨Goto.rk HO_9⟩, ⟨Goto.rk HO_10⟩, ⟨Goto.rk HO_11⟩, ⟨Goto.bx BK233⟩, ⟨Goto.bx BK234⟩, ⟨Goto.bx BK235⟩, ⟨Goto.hx HB⟩⟩
          ·
           rw [if_neg c79] at H
           have c79b0 : (t262 != false) = false := by simpa using c79
           (try (have c79b1 : decide (t262 = false) = true := by simpa using c79))
           (try (have c79b2 : (t262 == false) = true := by simpa using c79))
           clear c79
           by_cases c83 : t261 = true
           ·
            subst c83
            rw [if_pos rfl] at H
            replace H := Option.bind_eq_some_iff.mp H
            obtain ⟨t269, A840, H⟩ := H
            have A84 := Goto.m0 A840
            clear A840
            by_cases c85 : t269 = true
            ·
             subst c85
             rw [if_pos rfl] at H
             by_cases c86 : 0 ≤ x12_1
             ·
              rw [if_pos c86] at H
              have c86b0 : decide (0 ≤ x12_1) = true := decide_eq_true c86
              clear c86
              replace H := Option.bind_eq_some_iff.mp H
              obtain ⟨t271, A870, H⟩ := H
              have A87 := Goto.m0 A870
              clear A870
              replace H := Option.bind_eq_some_iff.mp H
              obtain ⟨t274, A880, H⟩ := H
              have A88 := Goto.m0 A880
              clear A880
              have H' := Goto.m0 H
              clear H
              try go_wp2
              replace HO_7 := Goto.m0 (Kd.S_drew HO_7.out); replace HO_8 := Goto.m0 (Kd.R_drew HO_8.out); replace HO_9 := Goto.m0 (Kd.R_drew HO_9.out); replace HO_10 := Goto.m0 (Kd.R_drew HO_10.out); replace HO_11 := Goto.m0 (Kd.R_drew HO_11.out); replace BK233 := Goto.m0 (blk_drew BK233.out); replace BK234 := Goto.m0 (blk_drew BK234.out); replace BK235 := Goto.m0 (blk_drew BK235.out); replace HB := Goto.m0 (below_drew1 HB.out)
              obtain ⟨Ao90, co90, eo90⟩ := Kd.R_slice HO_11.out
              (first | subst eo90 | (injection eo90 with f1_ f2_ f3_; have f4_ := f1_.symm; have f5_ := f3_.symm; clear f1_ f2_ f3_; subst f4_; subst f5_))
              have p270 : 0 ≤ (x12_1 : Int) := Goto.od
              have q270 : x12_1 < (l0_3.length : Int) := Goto.od
              obtain ⟨ad270, A270_2, c270_2, A270_3, c270_3, e270, hx270_0, hx270_1, hx270_2, hx270_3, hx270_4, hx270_5, hx270_6, hx270_7, hx270_8, hx270_9, hl270_2, hi270_2, hl270_3, hi270_3⟩ := at_T46 HR0_3.out x12_1 p270 q270
              have hw270_9 := hx270_9; have hw270_8 := hx270_8; have hw270_7 := hx270_7; have hw270_6 := hx270_6; have hw270_5 := hx270_5; have hw270_4 := hx270_4; have hw270_3 := hx270_3; have hw270_2 := hx270_2; have hw270_1 := hx270_1; have hw270_0 := hx270_0
              cases e270
              replace hx270_0 := Goto.kc HB.out hx270_0
              replace hx270_1 := Goto.kc HB.out hx270_1
              replace hx270_2 := Goto.kc HB.out hx270_2
              replace hx270_3 := Goto.kc HB.out hx270_3
              replace hx270_4 := Goto.kc HB.out hx270_4
              replace hx270_5 := Goto.kc HB.out hx270_5
              replace hx270_6 := Goto.kc HB.out hx270_6
              replace hx270_7 := Goto.kc HB.out hx270_7
              replace hx270_8 := Goto.kc HB.out hx270_8
              replace hx270_9 := Goto.kc HB.out hx270_9
              have HR270_2 := Goto.m0 hi270_2
              have HC270_2 := Goto.m0 hl270_2
              clear hi270_2 hl270_2
              have HR270_3 := Goto.m0 hi270_3
              have HC270_3 := Goto.m0 hl270_3
              clear hi270_3 hl270_3; replace p270 := eq_true p270; replace q270 := eq_true q270
              refine start_ (n := 34) (S := fun w' => w'.cell? ⟨gb233, 0, none⟩ = some (.int .i64 a0_0) ∧ w'.cell? ⟨gb233, 1, none⟩ = some (.int .i64 a0_1) ∧ w'.cell? ⟨gb233, 2, none⟩ = some (.slice A0_2 l0_2.length c0_2) ∧ w'.cell? ⟨gb233, 3, none⟩ = some (.slice (some ad270) l0_3.length c0_3) ∧ w'.cell? (ad270.add ((x12_1).toNat * 10)) = some (.int .i64 ((rd_T46 l0_3 x12_1).f0.f0)) ∧ w'.cell? ⟨(ad270.add ((x12_1).toNat * 10)).block, (ad270.add ((x12_1).toNat * 10)).off + 1, none⟩ = some (.int .u64 ((rd_T46 l0_3 x12_1).f0.f1)) ∧ w'.cell? ⟨(ad270.add ((x12_1).toNat * 10)).block, (ad270.add ((x12_1).toNat * 10)).off + 2, none⟩ = some (.slice A270_2 ((rd_T46 l0_3 x12_1).f1).length c270_2) ∧ w'.cell? ⟨(ad270.add ((x12_1).toNat * 10)).block, (ad270.add ((x12_1).toNat * 10)).off + 3, none⟩ = some (.slice A270_3 ((rd_T46 l0_3 x12_1).f2).length c270_3) ∧ w'.cell? ⟨(ad270.add ((x12_1).toNat * 10)).block, (ad270.add ((x12_1).toNat * 10)).off + 4, none⟩ = some (.int .i64 ((rd_T46 l0_3 x12_1).f3)) ∧ w'.cell? ⟨(ad270.add ((x12_1).toNat * 10)).block, (ad270.add ((x12_1).toNat * 10)).off + 5, none⟩ = some (.int .i64 ((rd_T46 l0_3 x12_1).f4)) ∧ w'.cell? ⟨(ad270.add ((x12_1).toNat * 10)).block, (ad270.add ((x12_1).toNat * 10)).off + 6, none⟩ = some (.int .i64 ((rd_T46 l0_3 x12_1).f5)) ∧ w'.cell? ⟨(ad270.add ((x12_1).toNat * 10)).block, (ad270.add ((x12_1).toNat * 10)).off + 7, none⟩ = some (.int .i64 ((rd_T46 l0_3 x12_1).f6)) ∧ w'.cell? ⟨(ad270.add ((x12_1).toNat * 10)).block, (ad270.add ((x12_1).toNat * 10)).off + 8, none⟩ = some (.int .i64 ((rd_T46 l0_3 x12_1).f7)) ∧ w'.cell? ⟨(ad270.add ((x12_1).toNat * 10)).block, (ad270.add ((x12_1).toNat * 10)).off + 9, none⟩ = some (.int .i64 ((rd_T46 l0_3 x12_1).f8))) (ds := []) (.replicate 34 false) (by kernel_rfl) rfl rfl ⟨(blk_cell BK233.out 0).trans rfl, (blk_cell BK233.out 1).trans rfl, (blk_cell BK233.out 2).trans rfl, (blk_cell BK233.out 3).trans rfl, (Goto.kc HB.out hw270_0), (Goto.kc HB.out hw270_1), (Goto.kc HB.out hw270_2), (Goto.kc HB.out hw270_3), (Goto.kc HB.out hw270_4), (Goto.kc HB.out hw270_5), (Goto.kc HB.out hw270_6), (Goto.kc HB.out hw270_7), (Goto.kc HB.out hw270_8), (Goto.kc HB.out hw270_9)⟩ (fun hHeld => ?_); refine with_tabW tontinelaw24_TraceBelow.tab12 tontinelaw24_TraceBelow.bits12 (fun HT_ HW_ => ?_)
              generalize w54.drew = w89 at HO_7 HO_8 HO_9 HO_10 HO_11 BK233 BK234 BK235 HB HR270_2 HR270_3 hx270_0 hx270_1 hx270_2 hx270_3 hx270_4 hx270_5 hx270_6 hx270_7 hx270_8 hx270_9 hHeld ⊢
              refine Goto.pu 0 56 34 1 ?_
              refine Goto.pu 1 57 34 3 ?_
              refine Goto.pu 3 59 34 11 ?_
              refine one_ (i := 2) (N := some 58) (Goto.bs 34 15) rfl rfl (one_of HT_.out (by kernel_rfl)) (by decide) (fun K hK => ?_)
              refine goes_ Tryd.func24 (by kernel_rfl) rfl #[.slice Ao90 t254.length co90, .int .i64 x12_1] (by rfl) rfl rfl (by (try simp only [List.map_toArray, List.map_cons, List.map_nil]); first | done | rfl | (simp only [List.length_drop, List.length_take]; rfl)) ?_
              with_reducible refine (ext_24.calls _ _ t254 x12_1 t262 _ ?side1 ?side2 A55.out).mono ?_
              (case side1 => repeat (first | exact (Kd.R_reads' HO_11.out).2.2 | (with_reducible refine Kd.C_alloc ?_ _) | (with_reducible refine Kd.C_drewN ?_ _) | (with_reducible refine Kd.C_drew ?_)))
              (case side2 => exact (Kd.R_reads' HO_11.out).2.1)
              rintro e w91 ⟨rfl, hb⟩
              refine ⟨_, rfl, ?_⟩
              replace HO_7 := Goto.m0 (Kd.S_below (by (with_reducible repeat (first | apply Kd.S_alloc | apply Kd.S_drewN | apply Kd.S_drew)); exact HO_7.out) hb); replace HO_8 := Goto.m0 (Kd.R_below (Goto.rk HO_8) hb); replace HO_9 := Goto.m0 (Kd.R_below (Goto.rk HO_9) hb); replace HO_10 := Goto.m0 (Kd.R_below (Goto.rk HO_10) hb); replace HO_11 := Goto.m0 (Kd.R_below (Goto.rk HO_11) hb); replace BK233 := Goto.bb BK233 hb; replace BK234 := Goto.bb BK234 hb; replace BK235 := Goto.bb BK235 hb; replace HB := Goto.hs HB hb
              (try clear hb)
              (try clear hb2)
              (try clear hk)
              (try clear hi)
              obtain ⟨Ao92, co92, eo92⟩ := Kd.R_slice HO_10.out
              (first | subst eo92 | (injection eo92 with f1_ f2_ f3_; have f4_ := f1_.symm; have f5_ := f3_.symm; clear f1_ f2_ f3_; subst f4_; subst f5_))
              refine hK.out _ _ ⟨(blk_cell BK233.out 0).trans rfl, (blk_cell BK233.out 1).trans rfl, (blk_cell BK233.out 2).trans rfl, (blk_cell BK233.out 3).trans rfl, (Goto.kc HB.out hw270_0), (Goto.kc HB.out hw270_1), (Goto.kc HB.out hw270_2), (Goto.kc HB.out hw270_3), (Goto.kc HB.out hw270_4), (Goto.kc HB.out hw270_5), (Goto.kc HB.out hw270_6), (Goto.kc HB.out hw270_7), (Goto.kc HB.out hw270_8), (Goto.kc HB.out hw270_9)⟩ (fun hHeld => ?_)
              clear hK K
              refine norm_ (a' := ?_) ?_ ?_
              rotate_left
              ·
               show Act.put _ (some 58) _ = _
               exact Goto.ap
              refine Goto.pu 4 60 34 31 ?_
              refine pure_ (i := 5) (N := some 61) (v := undef) (a' := ?_) (Goto.bs 34 63) rfl rfl (any_of HT_.out (by kernel_rfl)) (fun _ _ _ h => h) (Or.inr ⟨by rfl, rfl⟩) ?_ ?_
              rotate_left
              ·
               exact Goto.ap
              refine Goto.pu 6 62 34 127 ?_
              refine Goto.pu 7 63 34 255 ?_
              refine Goto.pu 8 64 34 511 ?_
              refine Goto.pu 9 65 34 1023 ?_
              refine Goto.pu 10 66 34 2047 ?_
              refine Goto.pu 11 67 34 4095 ?_
              refine Goto.pu 12 68 34 8191 ?_
              refine Goto.pu 13 69 34 16383 ?_
              refine Goto.pu 14 70 34 32767 ?_
              refine Goto.pu 15 71 34 65535 ?_
              refine one_ (i := 16) (N := some 72) (Goto.bs 34 131071) rfl rfl (one_of HT_.out (by kernel_rfl)) (by decide) (fun K hK => ?_)
              refine goes_ Tryd.func24 (by kernel_rfl) rfl #[.slice Ao92 t249.length co92, .int .i64 x12_1] (by rfl) rfl rfl (by (try simp only [List.map_toArray, List.map_cons, List.map_nil]); first | done | rfl | (simp only [List.length_drop, List.length_take]; rfl)) ?_
              with_reducible refine (ext_24.calls _ _ t249 x12_1 true _ ?side1 ?side2 A84.out).mono ?_
              (case side1 => repeat (first | exact (Kd.R_reads' HO_10.out).2.2 | (with_reducible refine Kd.C_alloc ?_ _) | (with_reducible refine Kd.C_drewN ?_ _) | (with_reducible refine Kd.C_drew ?_)))
              (case side2 => exact (Kd.R_reads' HO_10.out).2.1)
              rintro e w93 ⟨rfl, hb⟩
              refine ⟨_, rfl, ?_⟩
              replace HO_7 := Goto.m0 (Kd.S_below (by (with_reducible repeat (first | apply Kd.S_alloc | apply Kd.S_drewN | apply Kd.S_drew)); exact HO_7.out) hb); replace HO_8 := Goto.m0 (Kd.R_below (Goto.rk HO_8) hb); replace HO_9 := Goto.m0 (Kd.R_below (Goto.rk HO_9) hb); replace HO_10 := Goto.m0 (Kd.R_below (Goto.rk HO_10) hb); replace HO_11 := Goto.m0 (Kd.R_below (Goto.rk HO_11) hb); replace BK233 := Goto.bb BK233 hb; replace BK234 := Goto.bb BK234 hb; replace BK235 := Goto.bb BK235 hb; replace HB := Goto.hs HB hb
              (try clear hb)
              (try clear hb2)
              (try clear hk)
              (try clear hi)
              refine hK.out _ _ ⟨(blk_cell BK233.out 0).trans rfl, (blk_cell BK233.out 1).trans rfl, (blk_cell BK233.out 2).trans rfl, (blk_cell BK233.out 3).trans rfl, (Goto.kc HB.out hw270_0), (Goto.kc HB.out hw270_1), (Goto.kc HB.out hw270_2), (Goto.kc HB.out hw270_3), (Goto.kc HB.out hw270_4), (Goto.kc HB.out hw270_5), (Goto.kc HB.out hw270_6), (Goto.kc HB.out hw270_7), (Goto.kc HB.out hw270_8), (Goto.kc HB.out hw270_9)⟩ (fun hHeld => ?_)
              clear hK K
              refine norm_ (a' := ?_) ?_ ?_
              rotate_left
              ·
               show Act.put _ (some 72) _ = _
               exact Goto.ap
              refine Goto.pu 17 73 34 262143 ?_
              refine Goto.pu 18 74 34 524287 ?_
              refine Goto.pu 19 75 34 1048575 ?_
              refine Goto.pu 20 76 34 2097151 ?_
              refine Goto.pu 22 78 34 6291455 ?_
              refine Goto.pu 23 79 34 14680063 ?_
              refine Goto.pu 25 81 34 48234495 ?_
              refine Goto.pu 30 86 34 1121976319 ?_
              refine take_ (i := 21) (N := some 77) (v := ?_) (a' := ?_) (Goto.bs 34 1124073471) rfl rfl (take_ofW HT_.out HW_.out (by kernel_rfl)) (fun _ _ _ h => h) (Or.inl ⟨by rfl, ?_⟩) hHeld ?_ ?_
              rotate_left
              ·
               rintro w' ⟨s0, s1, s2, s3, s4, s5, s6, s7, s8, s9, s10, s11, s12, s13⟩
               go_simp
               with_reducible rfl
              rotate_left
              ·
               exact Goto.ap
              refine take_ (i := 24) (N := some 80) (v := ?_) (a' := ?_) (Goto.bs 34 1140850687) rfl rfl (take_ofW HT_.out HW_.out (by kernel_rfl)) (fun _ _ _ h => h) (Or.inl ⟨by rfl, ?_⟩) hHeld ?_ ?_
              rotate_left
              ·
               rintro w' ⟨s0, s1, s2, s3, s4, s5, s6, s7, s8, s9, s10, s11, s12, s13⟩
               go_simp
               with_reducible rfl
              rotate_left
              ·
               exact Goto.ap
              refine Goto.pu 26 82 34 1207959551 ?_
              refine Goto.pu 27 83 34 1342177279 ?_
              refine take_ (i := 28) (N := some 84) (v := ?_) (a' := ?_) (Goto.bs 34 1610612735) rfl rfl (take_ofW HT_.out HW_.out (by kernel_rfl)) (fun _ _ _ h => h) (Or.inl ⟨by rfl, ?_⟩) hHeld ?_ ?_
              rotate_left
              ·
               rintro w' ⟨s0, s1, s2, s3, s4, s5, s6, s7, s8, s9, s10, s11, s12, s13⟩
               go_simp
               with_reducible rfl
              rotate_left
              ·
               exact Goto.ap
              refine one_ (i := 29) (N := some 85) (Goto.bs 34 2147483647) rfl rfl (one_of HT_.out (by kernel_rfl)) (by decide) (fun K hK => ?_)
              refine goes_ Tryd.func16 (by kernel_rfl) rfl #[.agg #[.int .i64 a0_0, .int .i64 a0_1, .slice A0_2 l0_2.length c0_2, .slice (some ad270) l0_3.length c0_3], .slice Ao36 y238.length co36, .agg #[.int .i64 ((rd_T46 l0_3 x12_1).f0.f0), .int .u64 ((rd_T46 l0_3 x12_1).f0.f1)]] (by rfl) rfl rfl (by (try simp only [List.map_toArray, List.map_cons, List.map_nil]); first | done | rfl | (simp only [List.length_drop, List.length_take]; rfl)) ?_
              with_reducible refine (trace_Below.calls k1 a0_0 a0_1 _ _ l0_2 _ _ l0_3 _ _ y238 ((rd_T46 l0_3 x12_1).f0.f0) ((rd_T46 l0_3 x12_1).f0.f1) t271 _ ?side1 ?side2 ?side3 ?side4 ?side5 ?side6 A87.out).mono ?_
              (case side1 => repeat (first | exact (Kd.C_below HR0_2.out HB.out) | (with_reducible refine Kd.C_alloc ?_ _) | (with_reducible refine Kd.C_drewN ?_ _) | (with_reducible refine Kd.C_drew ?_)))
              (case side2 => exact HC0_2.out)
              (case side3 => repeat (first | exact (Kd.C_below HR0_3.out HB.out) | (with_reducible refine Kd.C_alloc ?_ _) | (with_reducible refine Kd.C_drewN ?_ _) | (with_reducible refine Kd.C_drew ?_)))
              (case side4 => exact HC0_3.out)
              (case side5 => repeat (first | exact (Kd.S_reads' HO_7.out).2.2 | (with_reducible refine Kd.C_alloc ?_ _) | (with_reducible refine Kd.C_drewN ?_ _) | (with_reducible refine Kd.C_drew ?_)))
              (case side6 => exact (Kd.S_reads' HO_7.out).2.1)
              rintro e w94 ⟨v272, rfl, ho0, hb⟩
              refine ⟨_, rfl, ?_⟩
              have HO273 := Goto.m0 (Kd.R_lower (Kd.R_new' (Kd.R_new' (Kd.R_new' (Kd.R_new' ho0 (Kd.R_lt (Goto.rk HO_8))) (Kd.R_lt (Goto.rk HO_9))) (Kd.R_lt (Goto.rk HO_10))) (Kd.R_lt (Goto.rk HO_11))) (below_size (Goto.hx HB))); replace HO_7 := Goto.m0 (Kd.S_below (by (with_reducible repeat (first | apply Kd.S_alloc | apply Kd.S_drewN | apply Kd.S_drew)); exact HO_7.out) hb); replace HO_8 := Goto.m0 (Kd.R_elder' (Goto.rk HO_8) (Kd.R_base ho0) hb); replace HO_9 := Goto.m0 (Kd.R_elder' (Goto.rk HO_9) (Kd.R_base ho0) hb); replace HO_10 := Goto.m0 (Kd.R_elder' (Goto.rk HO_10) (Kd.R_base ho0) hb); replace HO_11 := Goto.m0 (Kd.R_elder' (Goto.rk HO_11) (Kd.R_base ho0) hb); replace BK233 := Goto.bb BK233 hb; replace BK234 := Goto.bb BK234 hb; replace BK235 := Goto.bb BK235 hb; replace HB := Goto.hs HB hb
              (try clear hb)
              (try clear hb2)
              (try clear hk)
              (try clear hi)
              (try clear ho0)
              obtain ⟨Ao95, co95, eo95⟩ := Kd.R_slice HO273.out
              (first | subst eo95 | (injection eo95 with f1_ f2_ f3_; have f4_ := f1_.symm; have f5_ := f3_.symm; clear f1_ f2_ f3_; subst f4_; subst f5_))
              refine hK.out _ _ ⟨(blk_cell BK233.out 0).trans rfl, (blk_cell BK233.out 1).trans rfl, (blk_cell BK233.out 2).trans rfl, (blk_cell BK233.out 3).trans rfl, (Goto.kc HB.out hw270_0), (Goto.kc HB.out hw270_1), (Goto.kc HB.out hw270_2), (Goto.kc HB.out hw270_3), (Goto.kc HB.out hw270_4), (Goto.kc HB.out hw270_5), (Goto.kc HB.out hw270_6), (Goto.kc HB.out hw270_7), (Goto.kc HB.out hw270_8), (Goto.kc HB.out hw270_9)⟩ (fun hHeld => ?_)
              clear hK K
              refine norm_ (a' := ?_) ?_ ?_
              rotate_left
              ·
               show Act.put _ (some 85) _ = _
               exact Goto.ap
              refine one_ (i := 31) (N := some 87) (Goto.bs 34 4294967295) rfl rfl (one_of HT_.out (by kernel_rfl)) (by decide) (fun K hK => ?_)
              refine goes_ Tryd.func24 (by kernel_rfl) rfl #[.slice Ao95 t271.length co95, .int .i64 x12_1] (by rfl) rfl rfl (by (try simp only [List.map_toArray, List.map_cons, List.map_nil]); first | done | rfl | (simp only [List.length_drop, List.length_take]; rfl)) ?_
              with_reducible refine (ext_24.calls _ _ t271 x12_1 t274 _ ?side1 ?side2 A88.out).mono ?_
              (case side1 => repeat (first | exact (Kd.R_reads' HO273.out).2.2 | (with_reducible refine Kd.C_alloc ?_ _) | (with_reducible refine Kd.C_drewN ?_ _) | (with_reducible refine Kd.C_drew ?_)))
              (case side2 => exact (Kd.R_reads' HO273.out).2.1)
              rintro e w96 ⟨rfl, hb⟩
              refine ⟨_, rfl, ?_⟩
              replace HO_7 := Goto.m0 (Kd.S_below (by (with_reducible repeat (first | apply Kd.S_alloc | apply Kd.S_drewN | apply Kd.S_drew)); exact HO_7.out) hb); replace HO_8 := Goto.m0 (Kd.R_below (Goto.rk HO_8) hb); replace HO_9 := Goto.m0 (Kd.R_below (Goto.rk HO_9) hb); replace HO_10 := Goto.m0 (Kd.R_below (Goto.rk HO_10) hb); replace HO_11 := Goto.m0 (Kd.R_below (Goto.rk HO_11) hb); replace HO273 := Goto.m0 (Kd.R_below (Goto.rk HO273) hb); replace BK233 := Goto.bb BK233 hb; replace BK234 := Goto.bb BK234 hb; replace BK235 := Goto.bb BK235 hb; replace HB := Goto.hs HB hb
              (try clear hb)
              (try clear hb2)
              (try clear hk)
              (try clear hi)
              refine hK.out _ _ ⟨(blk_cell BK233.out 0).trans rfl, (blk_cell BK233.out 1).trans rfl, (blk_cell BK233.out 2).trans rfl, (blk_cell BK233.out 3).trans rfl, (Goto.kc HB.out hw270_0), (Goto.kc HB.out hw270_1), (Goto.kc HB.out hw270_2), (Goto.kc HB.out hw270_3), (Goto.kc HB.out hw270_4), (Goto.kc HB.out hw270_5), (Goto.kc HB.out hw270_6), (Goto.kc HB.out hw270_7), (Goto.kc HB.out hw270_8), (Goto.kc HB.out hw270_9)⟩ (fun hHeld => ?_)
              clear hK K
              refine norm_ (a' := ?_) ?_ ?_
              rotate_left
              ·
               show Act.put _ (some 87) _ = _
               exact Goto.ap
              refine Goto.pu 32 88 34 8589934591 ?_
              refine Goto.pu 33 89 34 17179869183 ?_
              refine done_ (done_of HT_.out (by kernel_rfl)) ?_
              try go_wp2
              go_meet
              case rel => exact ⟨_, (!t274), (by first | rfl | (simp; done) | (simp [*]; done)), H', ⟨by have := HK1.out; first | omega | exact Nat.le_refl _⟩, ⟨by (with_reducible repeat (first | apply Kd.S_alloc | apply Kd.S_drewN | apply Kd.S_drew)); exact HO_7.out⟩, ⟨by (with_reducible repeat (first | apply Kd.R_alloc | apply Kd.R_drewN | apply Kd.R_drew)); exact Kd.R_mono HO_8.out (fun _ hk => ⟨hk.1.1, ⟨hk.1.2.1, hk.1.2.2⟩⟩)⟩, ⟨by (with_reducible repeat (first | apply Kd.R_alloc | apply Kd.R_drewN | apply Kd.R_drew)); exact Kd.R_mono HO_9.out (fun _ hk => ⟨hk.1.1, ⟨hk.1.2.1, hk.1.2.2⟩⟩)⟩, ⟨by (with_reducible repeat (first | apply Kd.R_alloc | apply Kd.R_drewN | apply Kd.R_drew)); exact Kd.R_mono HO_10.out (fun _ hk => ⟨hk.1.1, ⟨hk.1.2.1, hk.1.2.2⟩⟩)⟩, ⟨by (with_reducible repeat (first | apply Kd.R_alloc | apply Kd.R_drewN | apply Kd.R_drew)); exact Kd.R_mono HO_11.out (fun _ hk => ⟨hk.1.1, ⟨hk.1.2.1, hk.1.2.2⟩⟩)⟩, ⟨Goto.bx BK233⟩, ⟨Goto.bx BK234⟩, ⟨Goto.bx BK235⟩, ⟨Goto.hx HB⟩⟩
             ·
              rw [if_neg c86] at H
              exact absurd H (by simp)
            ·
             replace c85 := Bool.eq_false_iff.mpr c85
             subst c85
             rw [if_neg (show ¬ (false = true) by decide)] at H
             have H' := Goto.m0 H
             clear H
             try go_wp2
             replace HO_7 := Goto.m0 (Kd.S_drew HO_7.out); replace HO_8 := Goto.m0 (Kd.R_drew HO_8.out); replace HO_9 := Goto.m0 (Kd.R_drew HO_9.out); replace HO_10 := Goto.m0 (Kd.R_drew HO_10.out); replace HO_11 := Goto.m0 (Kd.R_drew HO_11.out); replace BK233 := Goto.m0 (blk_drew BK233.out); replace BK234 := Goto.m0 (blk_drew BK234.out); replace BK235 := Goto.m0 (blk_drew BK235.out); replace HB := Goto.m0 (below_drew1 HB.out)
             obtain ⟨Ao98, co98, eo98⟩ := Kd.R_slice HO_11.out
             (first | subst eo98 | (injection eo98 with f1_ f2_ f3_; have f4_ := f1_.symm; have f5_ := f3_.symm; clear f1_ f2_ f3_; subst f4_; subst f5_))
             refine start_ (n := 34) (S := fun w' => True) (ds := []) (.replicate 34 false) (by kernel_rfl) rfl rfl trivial (fun hHeld => ?_); refine with_tabW tontinelaw24_TraceBelow.tab12 tontinelaw24_TraceBelow.bits12 (fun HT_ HW_ => ?_)
             generalize w54.drew = w97 at HO_7 HO_8 HO_9 HO_10 HO_11 BK233 BK234 BK235 HB hHeld ⊢
             refine Goto.pu 0 56 34 1 ?_
             refine Goto.pu 1 57 34 3 ?_
             refine Goto.pu 3 59 34 11 ?_
             refine one_ (i := 2) (N := some 58) (Goto.bs 34 15) rfl rfl (one_of HT_.out (by kernel_rfl)) (by decide) (fun K hK => ?_)
             refine goes_ Tryd.func24 (by kernel_rfl) rfl #[.slice Ao98 t254.length co98, .int .i64 x12_1] (by rfl) rfl rfl (by (try simp only [List.map_toArray, List.map_cons, List.map_nil]); first | done | rfl | (simp only [List.length_drop, List.length_take]; rfl)) ?_
             with_reducible refine (ext_24.calls _ _ t254 x12_1 t262 _ ?side1 ?side2 A55.out).mono ?_
             (case side1 => repeat (first | exact (Kd.R_reads' HO_11.out).2.2 | (with_reducible refine Kd.C_alloc ?_ _) | (with_reducible refine Kd.C_drewN ?_ _) | (with_reducible refine Kd.C_drew ?_)))
             (case side2 => exact (Kd.R_reads' HO_11.out).2.1)
             rintro e w99 ⟨rfl, hb⟩
             refine ⟨_, rfl, ?_⟩
             replace HO_7 := Goto.m0 (Kd.S_below (by (with_reducible repeat (first | apply Kd.S_alloc | apply Kd.S_drewN | apply Kd.S_drew)); exact HO_7.out) hb); replace HO_8 := Goto.m0 (Kd.R_below (Goto.rk HO_8) hb); replace HO_9 := Goto.m0 (Kd.R_below (Goto.rk HO_9) hb); replace HO_10 := Goto.m0 (Kd.R_below (Goto.rk HO_10) hb); replace HO_11 := Goto.m0 (Kd.R_below (Goto.rk HO_11) hb); replace BK233 := Goto.bb BK233 hb; replace BK234 := Goto.bb BK234 hb; replace BK235 := Goto.bb BK235 hb; replace HB := Goto.hs HB hb
             (try clear hb)
             (try clear hb2)
             (try clear hk)
             (try clear hi)
             obtain ⟨Ao100, co100, eo100⟩ := Kd.R_slice HO_10.out
             (first | subst eo100 | (injection eo100 with f1_ f2_ f3_; have f4_ := f1_.symm; have f5_ := f3_.symm; clear f1_ f2_ f3_; subst f4_; subst f5_))
             refine hK.out _ _ trivial (fun hHeld => ?_)
             clear hK K
             refine norm_ (a' := ?_) ?_ ?_
             rotate_left
             ·
              show Act.put _ (some 58) _ = _
              exact Goto.ap
             refine Goto.pu 4 60 34 31 ?_
             refine pure_ (i := 5) (N := some 61) (v := undef) (a' := ?_) (Goto.bs 34 63) rfl rfl (any_of HT_.out (by kernel_rfl)) (fun _ _ _ h => h) (Or.inr ⟨by rfl, rfl⟩) ?_ ?_
             rotate_left
             ·
              exact Goto.ap
             refine Goto.pu 6 62 34 127 ?_
             refine Goto.pu 7 63 34 255 ?_
             refine Goto.pu 8 64 34 511 ?_
             refine Goto.pu 9 65 34 1023 ?_
             refine Goto.pu 10 66 34 2047 ?_
             refine Goto.pu 11 67 34 4095 ?_
             refine Goto.pu 12 68 34 8191 ?_
             refine Goto.pu 13 69 34 16383 ?_
             refine Goto.pu 14 70 34 32767 ?_
             refine Goto.pu 15 71 34 65535 ?_
             refine one_ (i := 16) (N := some 72) (Goto.bs 34 131071) rfl rfl (one_of HT_.out (by kernel_rfl)) (by decide) (fun K hK => ?_)
             refine goes_ Tryd.func24 (by kernel_rfl) rfl #[.slice Ao100 t249.length co100, .int .i64 x12_1] (by rfl) rfl rfl (by (try simp only [List.map_toArray, List.map_cons, List.map_nil]); first | done | rfl | (simp only [List.length_drop, List.length_take]; rfl)) ?_
             with_reducible refine (ext_24.calls _ _ t249 x12_1 false _ ?side1 ?side2 A84.out).mono ?_
             (case side1 => repeat (first | exact (Kd.R_reads' HO_10.out).2.2 | (with_reducible refine Kd.C_alloc ?_ _) | (with_reducible refine Kd.C_drewN ?_ _) | (with_reducible refine Kd.C_drew ?_)))
             (case side2 => exact (Kd.R_reads' HO_10.out).2.1)
             rintro e w101 ⟨rfl, hb⟩
             refine ⟨_, rfl, ?_⟩
             replace HO_7 := Goto.m0 (Kd.S_below (by (with_reducible repeat (first | apply Kd.S_alloc | apply Kd.S_drewN | apply Kd.S_drew)); exact HO_7.out) hb); replace HO_8 := Goto.m0 (Kd.R_below (Goto.rk HO_8) hb); replace HO_9 := Goto.m0 (Kd.R_below (Goto.rk HO_9) hb); replace HO_10 := Goto.m0 (Kd.R_below (Goto.rk HO_10) hb); replace HO_11 := Goto.m0 (Kd.R_below (Goto.rk HO_11) hb); replace BK233 := Goto.bb BK233 hb; replace BK234 := Goto.bb BK234 hb; replace BK235 := Goto.bb BK235 hb; replace HB := Goto.hs HB hb
             (try clear hb)
             (try clear hb2)
             (try clear hk)
             (try clear hi)
             refine hK.out _ _ trivial (fun hHeld => ?_)
             clear hK K
             refine norm_ (a' := ?_) ?_ ?_
             rotate_left
             ·
              show Act.put _ (some 72) _ = _
              exact Goto.ap
             refine Goto.pu 17 73 34 262143 ?_
             refine Goto.pu 18 74 34 524287 ?_
             refine Goto.pu 19 75 34 1048575 ?_
             refine Goto.pu 20 76 34 2097151 ?_
             refine pure_ (i := 21) (N := some 77) (v := undef) (a' := ?_) (Goto.bs 34 4194303) rfl rfl (any_of HT_.out (by kernel_rfl)) (fun _ _ _ h => h) (Or.inr ⟨by rfl, rfl⟩) ?_ ?_
             rotate_left
             ·
              exact Goto.ap
             refine pure_ (i := 22) (N := some 78) (v := undef) (a' := ?_) (Goto.bs 34 8388607) rfl rfl (any_of HT_.out (by kernel_rfl)) (fun _ _ _ h => h) (Or.inr ⟨by rfl, rfl⟩) ?_ ?_
             rotate_left
             ·
              exact Goto.ap
             refine pure_ (i := 23) (N := some 79) (v := undef) (a' := ?_) (Goto.bs 34 16777215) rfl rfl (any_of HT_.out (by kernel_rfl)) (fun _ _ _ h => h) (Or.inr ⟨by rfl, rfl⟩) ?_ ?_
             rotate_left
             ·
              exact Goto.ap
             refine pure_ (i := 24) (N := some 80) (v := undef) (a' := ?_) (Goto.bs 34 33554431) rfl rfl (any_of HT_.out (by kernel_rfl)) (fun _ _ _ h => h) (Or.inr ⟨by rfl, rfl⟩) ?_ ?_
             rotate_left
             ·
              exact Goto.ap
             refine pure_ (i := 25) (N := some 81) (v := undef) (a' := ?_) (Goto.bs 34 67108863) rfl rfl (any_of HT_.out (by kernel_rfl)) (fun _ _ _ h => h) (Or.inr ⟨by rfl, rfl⟩) ?_ ?_
             rotate_left
             ·
              exact Goto.ap
             refine pure_ (i := 26) (N := some 82) (v := undef) (a' := ?_) (Goto.bs 34 134217727) rfl rfl (any_of HT_.out (by kernel_rfl)) (fun _ _ _ h => h) (Or.inr ⟨by rfl, rfl⟩) ?_ ?_
             rotate_left
             ·
              exact Goto.ap
             refine pure_ (i := 27) (N := some 83) (v := undef) (a' := ?_) (Goto.bs 34 268435455) rfl rfl (any_of HT_.out (by kernel_rfl)) (fun _ _ _ h => h) (Or.inr ⟨by rfl, rfl⟩) ?_ ?_
             rotate_left
             ·
              exact Goto.ap
             refine pure_ (i := 28) (N := some 84) (v := undef) (a' := ?_) (Goto.bs 34 536870911) rfl rfl (any_of HT_.out (by kernel_rfl)) (fun _ _ _ h => h) (Or.inr ⟨by rfl, rfl⟩) ?_ ?_
             rotate_left
             ·
              exact Goto.ap
             refine pure_ (i := 29) (N := some 85) (v := undef) (a' := ?_) (Goto.bs 34 1073741823) rfl rfl (any_of HT_.out (by kernel_rfl)) (fun _ _ _ h => h) (Or.inr ⟨by rfl, rfl⟩) ?_ ?_
             rotate_left
             ·
              exact Goto.ap
             refine pure_ (i := 30) (N := some 86) (v := undef) (a' := ?_) (Goto.bs 34 2147483647) rfl rfl (any_of HT_.out (by kernel_rfl)) (fun _ _ _ h => h) (Or.inr ⟨by rfl, rfl⟩) ?_ ?_
             rotate_left
             ·
              exact Goto.ap
             refine pure_ (i := 31) (N := some 87) (v := undef) (a' := ?_) (Goto.bs 34 4294967295) rfl rfl (any_of HT_.out (by kernel_rfl)) (fun _ _ _ h => h) (Or.inr ⟨by rfl, rfl⟩) ?_ ?_
             rotate_left
             ·
              exact Goto.ap
             refine pure_ (i := 32) (N := some 88) (v := undef) (a' := ?_) (Goto.bs 34 8589934591) rfl rfl (any_of HT_.out (by kernel_rfl)) (fun _ _ _ h => h) (Or.inr ⟨by rfl, rfl⟩) ?_ ?_
             rotate_left
             ·
              exact Goto.ap
             refine Goto.pu 33 89 34 17179869183 ?_
             refine done_ (done_of HT_.out (by kernel_rfl)) ?_
             try go_wp2
             go_meet
             case rel => exact ⟨_, (true), (by first | rfl | (simp; done) | (simp [*]; done)), H', ⟨by have := HK1.out; first | omega | exact Nat.le_refl _⟩, ⟨by (with_reducible repeat (first | apply Kd.S_alloc | apply Kd.S_drewN | apply Kd.S_drew)); exact HO_7.out⟩, ⟨Goto.rk HO_8⟩, ⟨Goto.rk HO_9⟩, ⟨Goto.rk HO_10⟩, ⟨Goto.rk HO_11⟩, ⟨Goto.bx BK233⟩, ⟨Goto.bx BK234⟩, ⟨Goto.bx BK235⟩, ⟨Goto.hx HB⟩⟩
           ·
            replace c83 := Bool.eq_false_iff.mpr c83
            subst c83
            rw [if_neg (show ¬ (false = true) by decide)] at H
            by_cases c102 : 0 ≤ x12_1
            ·
             rw [if_pos c102] at H
             have c102b0 : decide (0 ≤ x12_1) = true := decide_eq_true c102
             clear c102
             replace H := Option.bind_eq_some_iff.mp H
             obtain ⟨t276, A1030, H⟩ := H
             have A103 := Goto.m0 A1030
             clear A1030
             replace H := Option.bind_eq_some_iff.mp H
             obtain ⟨t279, A1040, H⟩ := H
             have A104 := Goto.m0 A1040
             clear A1040
             have H' := Goto.m0 H
             clear H
             try go_wp2
             replace HO_7 := Goto.m0 (Kd.S_drew HO_7.out); replace HO_8 := Goto.m0 (Kd.R_drew HO_8.out); replace HO_9 := Goto.m0 (Kd.R_drew HO_9.out); replace HO_10 := Goto.m0 (Kd.R_drew HO_10.out); replace HO_11 := Goto.m0 (Kd.R_drew HO_11.out); replace BK233 := Goto.m0 (blk_drew BK233.out); replace BK234 := Goto.m0 (blk_drew BK234.out); replace BK235 := Goto.m0 (blk_drew BK235.out); replace HB := Goto.m0 (below_drew1 HB.out)
             obtain ⟨Ao106, co106, eo106⟩ := Kd.R_slice HO_11.out
             (first | subst eo106 | (injection eo106 with f1_ f2_ f3_; have f4_ := f1_.symm; have f5_ := f3_.symm; clear f1_ f2_ f3_; subst f4_; subst f5_))
             have p275 : 0 ≤ (x12_1 : Int) := Goto.od
             have q275 : x12_1 < (l0_3.length : Int) := Goto.od
             obtain ⟨ad275, A275_2, c275_2, A275_3, c275_3, e275, hx275_0, hx275_1, hx275_2, hx275_3, hx275_4, hx275_5, hx275_6, hx275_7, hx275_8, hx275_9, hl275_2, hi275_2, hl275_3, hi275_3⟩ := at_T46 HR0_3.out x12_1 p275 q275
             have hw275_9 := hx275_9; have hw275_8 := hx275_8; have hw275_7 := hx275_7; have hw275_6 := hx275_6; have hw275_5 := hx275_5; have hw275_4 := hx275_4; have hw275_3 := hx275_3; have hw275_2 := hx275_2; have hw275_1 := hx275_1; have hw275_0 := hx275_0
             cases e275
             replace hx275_0 := Goto.kc HB.out hx275_0
             replace hx275_1 := Goto.kc HB.out hx275_1
             replace hx275_2 := Goto.kc HB.out hx275_2
             replace hx275_3 := Goto.kc HB.out hx275_3
             replace hx275_4 := Goto.kc HB.out hx275_4
             replace hx275_5 := Goto.kc HB.out hx275_5
             replace hx275_6 := Goto.kc HB.out hx275_6
             replace hx275_7 := Goto.kc HB.out hx275_7
             replace hx275_8 := Goto.kc HB.out hx275_8
             replace hx275_9 := Goto.kc HB.out hx275_9
             have HR275_2 := Goto.m0 hi275_2
             have HC275_2 := Goto.m0 hl275_2
             clear hi275_2 hl275_2
             have HR275_3 := Goto.m0 hi275_3
             have HC275_3 := Goto.m0 hl275_3
             clear hi275_3 hl275_3; replace p275 := eq_true p275; replace q275 := eq_true q275
             refine start_ (n := 34) (S := fun w' => w'.cell? ⟨gb233, 0, none⟩ = some (.int .i64 a0_0) ∧ w'.cell? ⟨gb233, 1, none⟩ = some (.int .i64 a0_1) ∧ w'.cell? ⟨gb233, 2, none⟩ = some (.slice A0_2 l0_2.length c0_2) ∧ w'.cell? ⟨gb233, 3, none⟩ = some (.slice (some ad275) l0_3.length c0_3) ∧ w'.cell? (ad275.add ((x12_1).toNat * 10)) = some (.int .i64 ((rd_T46 l0_3 x12_1).f0.f0)) ∧ w'.cell? ⟨(ad275.add ((x12_1).toNat * 10)).block, (ad275.add ((x12_1).toNat * 10)).off + 1, none⟩ = some (.int .u64 ((rd_T46 l0_3 x12_1).f0.f1)) ∧ w'.cell? ⟨(ad275.add ((x12_1).toNat * 10)).block, (ad275.add ((x12_1).toNat * 10)).off + 2, none⟩ = some (.slice A275_2 ((rd_T46 l0_3 x12_1).f1).length c275_2) ∧ w'.cell? ⟨(ad275.add ((x12_1).toNat * 10)).block, (ad275.add ((x12_1).toNat * 10)).off + 3, none⟩ = some (.slice A275_3 ((rd_T46 l0_3 x12_1).f2).length c275_3) ∧ w'.cell? ⟨(ad275.add ((x12_1).toNat * 10)).block, (ad275.add ((x12_1).toNat * 10)).off + 4, none⟩ = some (.int .i64 ((rd_T46 l0_3 x12_1).f3)) ∧ w'.cell? ⟨(ad275.add ((x12_1).toNat * 10)).block, (ad275.add ((x12_1).toNat * 10)).off + 5, none⟩ = some (.int .i64 ((rd_T46 l0_3 x12_1).f4)) ∧ w'.cell? ⟨(ad275.add ((x12_1).toNat * 10)).block, (ad275.add ((x12_1).toNat * 10)).off + 6, none⟩ = some (.int .i64 ((rd_T46 l0_3 x12_1).f5)) ∧ w'.cell? ⟨(ad275.add ((x12_1).toNat * 10)).block, (ad275.add ((x12_1).toNat * 10)).off + 7, none⟩ = some (.int .i64 ((rd_T46 l0_3 x12_1).f6)) ∧ w'.cell? ⟨(ad275.add ((x12_1).toNat * 10)).block, (ad275.add ((x12_1).toNat * 10)).off + 8, none⟩ = some (.int .i64 ((rd_T46 l0_3 x12_1).f7)) ∧ w'.cell? ⟨(ad275.add ((x12_1).toNat * 10)).block, (ad275.add ((x12_1).toNat * 10)).off + 9, none⟩ = some (.int .i64 ((rd_T46 l0_3 x12_1).f8))) (ds := []) (.replicate 34 false) (by kernel_rfl) rfl rfl ⟨(blk_cell BK233.out 0).trans rfl, (blk_cell BK233.out 1).trans rfl, (blk_cell BK233.out 2).trans rfl, (blk_cell BK233.out 3).trans rfl, (Goto.kc HB.out hw275_0), (Goto.kc HB.out hw275_1), (Goto.kc HB.out hw275_2), (Goto.kc HB.out hw275_3), (Goto.kc HB.out hw275_4), (Goto.kc HB.out hw275_5), (Goto.kc HB.out hw275_6), (Goto.kc HB.out hw275_7), (Goto.kc HB.out hw275_8), (Goto.kc HB.out hw275_9)⟩ (fun hHeld => ?_); refine with_tabW tontinelaw24_TraceBelow.tab12 tontinelaw24_TraceBelow.bits12 (fun HT_ HW_ => ?_)
             generalize w54.drew = w105 at HO_7 HO_8 HO_9 HO_10 HO_11 BK233 BK234 BK235 HB HR275_2 HR275_3 hx275_0 hx275_1 hx275_2 hx275_3 hx275_4 hx275_5 hx275_6 hx275_7 hx275_8 hx275_9 hHeld ⊢
             refine Goto.pu 0 56 34 1 ?_
             refine Goto.pu 1 57 34 3 ?_
             refine Goto.pu 3 59 34 11 ?_
             refine one_ (i := 2) (N := some 58) (Goto.bs 34 15) rfl rfl (one_of HT_.out (by kernel_rfl)) (by decide) (fun K hK => ?_)
             refine goes_ Tryd.func24 (by kernel_rfl) rfl #[.slice Ao106 t254.length co106, .int .i64 x12_1] (by rfl) rfl rfl (by (try simp only [List.map_toArray, List.map_cons, List.map_nil]); first | done | rfl | (simp only [List.length_drop, List.length_take]; rfl)) ?_
             with_reducible refine (ext_24.calls _ _ t254 x12_1 t262 _ ?side1 ?side2 A55.out).mono ?_
             (case side1 => repeat (first | exact (Kd.R_reads' HO_11.out).2.2 | (with_reducible refine Kd.C_alloc ?_ _) | (with_reducible refine Kd.C_drewN ?_ _) | (with_reducible refine Kd.C_drew ?_)))
             (case side2 => exact (Kd.R_reads' HO_11.out).2.1)
             rintro e w107 ⟨rfl, hb⟩
             refine ⟨_, rfl, ?_⟩
             replace HO_7 := Goto.m0 (Kd.S_below (by (with_reducible repeat (first | apply Kd.S_alloc | apply Kd.S_drewN | apply Kd.S_drew)); exact HO_7.out) hb); replace HO_8 := Goto.m0 (Kd.R_below (Goto.rk HO_8) hb); replace HO_9 := Goto.m0 (Kd.R_below (Goto.rk HO_9) hb); replace HO_10 := Goto.m0 (Kd.R_below (Goto.rk HO_10) hb); replace HO_11 := Goto.m0 (Kd.R_below (Goto.rk HO_11) hb); replace BK233 := Goto.bb BK233 hb; replace BK234 := Goto.bb BK234 hb; replace BK235 := Goto.bb BK235 hb; replace HB := Goto.hs HB hb
             (try clear hb)
             (try clear hb2)
             (try clear hk)
             (try clear hi)
             refine hK.out _ _ ⟨(blk_cell BK233.out 0).trans rfl, (blk_cell BK233.out 1).trans rfl, (blk_cell BK233.out 2).trans rfl, (blk_cell BK233.out 3).trans rfl, (Goto.kc HB.out hw275_0), (Goto.kc HB.out hw275_1), (Goto.kc HB.out hw275_2), (Goto.kc HB.out hw275_3), (Goto.kc HB.out hw275_4), (Goto.kc HB.out hw275_5), (Goto.kc HB.out hw275_6), (Goto.kc HB.out hw275_7), (Goto.kc HB.out hw275_8), (Goto.kc HB.out hw275_9)⟩ (fun hHeld => ?_)
             clear hK K
             refine norm_ (a' := ?_) ?_ ?_
             rotate_left
             ·
              show Act.put _ (some 58) _ = _
              exact Goto.ap
             refine Goto.pu 4 60 34 31 ?_
             refine pure_ (i := 5) (N := some 61) (v := undef) (a' := ?_) (Goto.bs 34 63) rfl rfl (any_of HT_.out (by kernel_rfl)) (fun _ _ _ h => h) (Or.inr ⟨by rfl, rfl⟩) ?_ ?_
             rotate_left
             ·
              exact Goto.ap
             refine Goto.pu 6 62 34 127 ?_
             refine Goto.pu 7 63 34 255 ?_
             refine Goto.pu 8 64 34 511 ?_
             refine Goto.pu 9 65 34 1023 ?_
             refine Goto.pu 10 66 34 2047 ?_
             refine Goto.pu 11 67 34 4095 ?_
             refine Goto.pu 12 68 34 8191 ?_
             refine Goto.pu 13 69 34 16383 ?_
             refine pure_ (i := 14) (N := some 70) (v := undef) (a' := ?_) (Goto.bs 34 32767) rfl rfl (any_of HT_.out (by kernel_rfl)) (fun _ _ _ h => h) (Or.inr ⟨by rfl, rfl⟩) ?_ ?_
             rotate_left
             ·
              exact Goto.ap
             refine pure_ (i := 15) (N := some 71) (v := undef) (a' := ?_) (Goto.bs 34 65535) rfl rfl (any_of HT_.out (by kernel_rfl)) (fun _ _ _ h => h) (Or.inr ⟨by rfl, rfl⟩) ?_ ?_
             rotate_left
             ·
              exact Goto.ap
             refine pure_ (i := 16) (N := some 72) (v := undef) (a' := ?_) (Goto.bs 34 131071) rfl rfl (any_of HT_.out (by kernel_rfl)) (fun _ _ _ h => h) (Or.inr ⟨by rfl, rfl⟩) ?_ ?_
             rotate_left
             ·
              exact Goto.ap
             refine pure_ (i := 17) (N := some 73) (v := undef) (a' := ?_) (Goto.bs 34 262143) rfl rfl (any_of HT_.out (by kernel_rfl)) (fun _ _ _ h => h) (Or.inr ⟨by rfl, rfl⟩) ?_ ?_
             rotate_left
             ·
              exact Goto.ap
             refine Goto.pu 18 74 34 524287 ?_
             refine Goto.pu 19 75 34 1048575 ?_
             refine Goto.pu 20 76 34 2097151 ?_
             refine Goto.pu 22 78 34 6291455 ?_
             refine Goto.pu 23 79 34 14680063 ?_
             refine Goto.pu 25 81 34 48234495 ?_
             refine Goto.pu 30 86 34 1121976319 ?_
             refine take_ (i := 21) (N := some 77) (v := ?_) (a' := ?_) (Goto.bs 34 1124073471) rfl rfl (take_ofW HT_.out HW_.out (by kernel_rfl)) (fun _ _ _ h => h) (Or.inl ⟨by rfl, ?_⟩) hHeld ?_ ?_
             rotate_left
             ·
              rintro w' ⟨s0, s1, s2, s3, s4, s5, s6, s7, s8, s9, s10, s11, s12, s13⟩
              go_simp
              with_reducible rfl
             rotate_left
             ·
              exact Goto.ap
             refine take_ (i := 24) (N := some 80) (v := ?_) (a' := ?_) (Goto.bs 34 1140850687) rfl rfl (take_ofW HT_.out HW_.out (by kernel_rfl)) (fun _ _ _ h => h) (Or.inl ⟨by rfl, ?_⟩) hHeld ?_ ?_
             rotate_left
             ·
              rintro w' ⟨s0, s1, s2, s3, s4, s5, s6, s7, s8, s9, s10, s11, s12, s13⟩
              go_simp
              with_reducible rfl
             rotate_left
             ·
              exact Goto.ap
             refine Goto.pu 26 82 34 1207959551 ?_
             refine Goto.pu 27 83 34 1342177279 ?_
             refine take_ (i := 28) (N := some 84) (v := ?_) (a' := ?_) (Goto.bs 34 1610612735) rfl rfl (take_ofW HT_.out HW_.out (by kernel_rfl)) (fun _ _ _ h => h) (Or.inl ⟨by rfl, ?_⟩) hHeld ?_ ?_
             rotate_left
             ·
              rintro w' ⟨s0, s1, s2, s3, s4, s5, s6, s7, s8, s9, s10, s11, s12, s13⟩
              go_simp
              with_reducible rfl
             rotate_left
             ·
              exact Goto.ap
             refine one_ (i := 29) (N := some 85) (Goto.bs 34 2147483647) rfl rfl (one_of HT_.out (by kernel_rfl)) (by decide) (fun K hK => ?_)
             refine goes_ Tryd.func16 (by kernel_rfl) rfl #[.agg #[.int .i64 a0_0, .int .i64 a0_1, .slice A0_2 l0_2.length c0_2, .slice (some ad275) l0_3.length c0_3], .slice Ao36 y238.length co36, .agg #[.int .i64 ((rd_T46 l0_3 x12_1).f0.f0), .int .u64 ((rd_T46 l0_3 x12_1).f0.f1)]] (by rfl) rfl rfl (by (try simp only [List.map_toArray, List.map_cons, List.map_nil]); first | done | rfl | (simp only [List.length_drop, List.length_take]; rfl)) ?_
             with_reducible refine (trace_Below.calls k1 a0_0 a0_1 _ _ l0_2 _ _ l0_3 _ _ y238 ((rd_T46 l0_3 x12_1).f0.f0) ((rd_T46 l0_3 x12_1).f0.f1) t276 _ ?side1 ?side2 ?side3 ?side4 ?side5 ?side6 A103.out).mono ?_
             (case side1 => repeat (first | exact (Kd.C_below HR0_2.out HB.out) | (with_reducible refine Kd.C_alloc ?_ _) | (with_reducible refine Kd.C_drewN ?_ _) | (with_reducible refine Kd.C_drew ?_)))
             (case side2 => exact HC0_2.out)
             (case side3 => repeat (first | exact (Kd.C_below HR0_3.out HB.out) | (with_reducible refine Kd.C_alloc ?_ _) | (with_reducible refine Kd.C_drewN ?_ _) | (with_reducible refine Kd.C_drew ?_)))
             (case side4 => exact HC0_3.out)
             (case side5 => repeat (first | exact (Kd.S_reads' HO_7.out).2.2 | (with_reducible refine Kd.C_alloc ?_ _) | (with_reducible refine Kd.C_drewN ?_ _) | (with_reducible refine Kd.C_drew ?_)))
             (case side6 => exact (Kd.S_reads' HO_7.out).2.1)
             rintro e w108 ⟨v277, rfl, ho0, hb⟩
             refine ⟨_, rfl, ?_⟩
             have HO278 := Goto.m0 (Kd.R_lower (Kd.R_new' (Kd.R_new' (Kd.R_new' (Kd.R_new' ho0 (Kd.R_lt (Goto.rk HO_8))) (Kd.R_lt (Goto.rk HO_9))) (Kd.R_lt (Goto.rk HO_10))) (Kd.R_lt (Goto.rk HO_11))) (below_size (Goto.hx HB))); replace HO_7 := Goto.m0 (Kd.S_below (by (with_reducible repeat (first | apply Kd.S_alloc | apply Kd.S_drewN | apply Kd.S_drew)); exact HO_7.out) hb); replace HO_8 := Goto.m0 (Kd.R_elder' (Goto.rk HO_8) (Kd.R_base ho0) hb); replace HO_9 := Goto.m0 (Kd.R_elder' (Goto.rk HO_9) (Kd.R_base ho0) hb); replace HO_10 := Goto.m0 (Kd.R_elder' (Goto.rk HO_10) (Kd.R_base ho0) hb); replace HO_11 := Goto.m0 (Kd.R_elder' (Goto.rk HO_11) (Kd.R_base ho0) hb); replace BK233 := Goto.bb BK233 hb; replace BK234 := Goto.bb BK234 hb; replace BK235 := Goto.bb BK235 hb; replace HB := Goto.hs HB hb
             (try clear hb)
             (try clear hb2)
             (try clear hk)
             (try clear hi)
             (try clear ho0)
             obtain ⟨Ao109, co109, eo109⟩ := Kd.R_slice HO278.out
             (first | subst eo109 | (injection eo109 with f1_ f2_ f3_; have f4_ := f1_.symm; have f5_ := f3_.symm; clear f1_ f2_ f3_; subst f4_; subst f5_))
             refine hK.out _ _ ⟨(blk_cell BK233.out 0).trans rfl, (blk_cell BK233.out 1).trans rfl, (blk_cell BK233.out 2).trans rfl, (blk_cell BK233.out 3).trans rfl, (Goto.kc HB.out hw275_0), (Goto.kc HB.out hw275_1), (Goto.kc HB.out hw275_2), (Goto.kc HB.out hw275_3), (Goto.kc HB.out hw275_4), (Goto.kc HB.out hw275_5), (Goto.kc HB.out hw275_6), (Goto.kc HB.out hw275_7), (Goto.kc HB.out hw275_8), (Goto.kc HB.out hw275_9)⟩ (fun hHeld => ?_)
             clear hK K
             refine norm_ (a' := ?_) ?_ ?_
             rotate_left
             ·
              show Act.put _ (some 85) _ = _
              exact Goto.ap
             refine one_ (i := 31) (N := some 87) (Goto.bs 34 4294967295) rfl rfl (one_of HT_.out (by kernel_rfl)) (by decide) (fun K hK => ?_)
             refine goes_ Tryd.func24 (by kernel_rfl) rfl #[.slice Ao109 t276.length co109, .int .i64 x12_1] (by rfl) rfl rfl (by (try simp only [List.map_toArray, List.map_cons, List.map_nil]); first | done | rfl | (simp only [List.length_drop, List.length_take]; rfl)) ?_
             with_reducible refine (ext_24.calls _ _ t276 x12_1 t279 _ ?side1 ?side2 A104.out).mono ?_
             (case side1 => repeat (first | exact (Kd.R_reads' HO278.out).2.2 | (with_reducible refine Kd.C_alloc ?_ _) | (with_reducible refine Kd.C_drewN ?_ _) | (with_reducible refine Kd.C_drew ?_)))
             (case side2 => exact (Kd.R_reads' HO278.out).2.1)
             rintro e w110 ⟨rfl, hb⟩
             refine ⟨_, rfl, ?_⟩
             replace HO_7 := Goto.m0 (Kd.S_below (by (with_reducible repeat (first | apply Kd.S_alloc | apply Kd.S_drewN | apply Kd.S_drew)); exact HO_7.out) hb); replace HO_8 := Goto.m0 (Kd.R_below (Goto.rk HO_8) hb); replace HO_9 := Goto.m0 (Kd.R_below (Goto.rk HO_9) hb); replace HO_10 := Goto.m0 (Kd.R_below (Goto.rk HO_10) hb); replace HO_11 := Goto.m0 (Kd.R_below (Goto.rk HO_11) hb); replace HO278 := Goto.m0 (Kd.R_below (Goto.rk HO278) hb); replace BK233 := Goto.bb BK233 hb; replace BK234 := Goto.bb BK234 hb; replace BK235 := Goto.bb BK235 hb; replace HB := Goto.hs HB hb
             (try clear hb)
             (try clear hb2)
             (try clear hk)
             (try clear hi)
             refine hK.out _ _ ⟨(blk_cell BK233.out 0).trans rfl, (blk_cell BK233.out 1).trans rfl, (blk_cell BK233.out 2).trans rfl, (blk_cell BK233.out 3).trans rfl, (Goto.kc HB.out hw275_0), (Goto.kc HB.out hw275_1), (Goto.kc HB.out hw275_2), (Goto.kc HB.out hw275_3), (Goto.kc HB.out hw275_4), (Goto.kc HB.out hw275_5), (Goto.kc HB.out hw275_6), (Goto.kc HB.out hw275_7), (Goto.kc HB.out hw275_8), (Goto.kc HB.out hw275_9)⟩ (fun hHeld => ?_)
             clear hK K
             refine norm_ (a' := ?_) ?_ ?_
             rotate_left
             ·
              show Act.put _ (some 87) _ = _
              exact Goto.ap
             refine Goto.pu 32 88 34 8589934591 ?_
             refine Goto.pu 33 89 34 17179869183 ?_
             refine done_ (done_of HT_.out (by kernel_rfl)) ?_
             try go_wp2
             go_meet
             case rel => exact ⟨_, (!t279), (by first | rfl | (simp; done) | (simp [*]; done)), H', ⟨by have := HK1.out; first | omega | exact Nat.le_refl _⟩, ⟨by (with_reducible repeat (first | apply Kd.S_alloc | apply Kd.S_drewN | apply Kd.S_drew)); exact HO_7.out⟩, ⟨by (with_reducible repeat (first | apply Kd.R_alloc | apply Kd.R_drewN | apply Kd.R_drew)); exact Kd.R_mono HO_8.out (fun _ hk => ⟨hk.1.1, ⟨hk.1.2.1, hk.1.2.2⟩⟩)⟩, ⟨by (with_reducible repeat (first | apply Kd.R_alloc | apply Kd.R_drewN | apply Kd.R_drew)); exact Kd.R_mono HO_9.out (fun _ hk => ⟨hk.1.1, ⟨hk.1.2.1, hk.1.2.2⟩⟩)⟩, ⟨by (with_reducible repeat (first | apply Kd.R_alloc | apply Kd.R_drewN | apply Kd.R_drew)); exact Kd.R_mono HO_10.out (fun _ hk => ⟨hk.1.1, ⟨hk.1.2.1, hk.1.2.2⟩⟩)⟩, ⟨by (with_reducible repeat (first | apply Kd.R_alloc | apply Kd.R_drewN | apply Kd.R_drew)); exact Kd.R_mono HO_11.out (fun _ hk => ⟨hk.1.1, ⟨hk.1.2.1, hk.1.2.2⟩⟩)⟩, ⟨Goto.bx BK233⟩, ⟨Goto.bx BK234⟩, ⟨Goto.bx BK235⟩, ⟨Goto.hx HB⟩⟩
            ·
             rw [if_neg c102] at H
             exact absurd H (by simp)
        case rest =>
         clear HC47; try clear c1; try clear c2; try clear p2; try clear q2; try clear hx2; try clear c8; try clear c10; try clear c16; try clear c24; try clear c27; try clear p27; try clear q27; try clear hx27; try clear c83; try clear c102; try clear c102b0; try clear hx275_0; try clear hx275_1; try clear hx275_2; try clear hx275_3; try clear hx275_4; try clear hx275_5; try clear hx275_6; try clear hx275_7; try clear hx275_8; try clear hx275_9; try clear p275; try clear q275
         obtain ⟨kq, x89_46, rfl, HA, HJ46, HO_7, HO_8, HO_9, HO_10, HO_11, BK233, BK234, BK235, HB⟩ := hcut
         cases kq with
         | zero => exact absurd HA.out (by simp [tontinelaw24_TraceBelow.j1])
         | succ kj46 =>
          have H := HA.out; clear HA
          simp only [tontinelaw24_TraceBelow.j1] at H
          by_cases c111 : x89_46 = true
          ·
           subst c111
           rw [if_pos rfl] at H
           exact absurd ((Option.some.inj H).trans HRT.out) (by decide)
          ·
           replace c111 := Bool.eq_false_iff.mpr c111
           subst c111
           rw [if_neg (show ¬ (false = true) by decide)] at H
           have H' := Goto.m0 H
           clear H
           go_wp2
           go_roundg kj46
           case measure => have := HK1.out; have := HJ46.out; omega
           case rel => exact ⟨(wrap64 (x12_1 + 1)), (by first | rfl | (simp; done) | (simp [*]; done)), H', ⟨by have := HK1.out; have := HJ46.out; omega⟩, ⟨by (with_reducible repeat (first | apply Kd.S_alloc | apply Kd.S_drewN | apply Kd.S_drew)); exact HO_7.out⟩, ⟨Goto.rk HO_8⟩, ⟨Goto.rk HO_9⟩, ⟨Goto.rk HO_10⟩, ⟨Goto.rk HO_11⟩, ⟨Goto.bx BK233⟩, ⟨Goto.bx BK234⟩, ⟨Goto.bx BK235⟩, ⟨Goto.hx HB⟩⟩
       ·
        rw [if_neg c44] at H
        have c44b0 : decide (x12_1 < (l0_3.length : Int)) = false := decide_eq_false c44
        clear c44
        replace H := Option.bind_eq_some_iff.mp H
        obtain ⟨t257, A1120, H⟩ := H
        have A112 := Goto.m0 A1120
        clear A1120
        obtain rfl := Option.some.inj H
        have hnb113 := NB233_234.out; have hnc113 := NB234_233.out; have hnb114 := NB233_235.out; have hnc114 := NB235_233.out; have hcz115_0 := Goto.bc0 BK233; have hcz115_1 := Goto.bc1 BK233; have hcz115_2 := Goto.bc2 BK233; have hcz115_3 := Goto.bc3 BK233; have hfz115_0 := Goto.bf BK233 0; have hfz115_1 := Goto.bf BK233 1; have hfz115_2 := Goto.bf BK233 2; have hfz115_3 := Goto.bf BK233 3; have hnb116 := NB234_235.out; have hnc116 := NB235_234.out; have hcz117_0 := Goto.bc0 BK234; have hcz117_1 := Goto.bc1 BK234; have hfz117_0 := Goto.bf BK234 0; have hfz117_1 := Goto.bf BK234 1
        go_wp2_with (first | ((with_reducible refine gate_callee (f := 16) rfl ?_); refine goesL_ (some 92) rfl rfl Tryd.func16 (by kernel_rfl) rfl #[.agg #[.int .i64 a0_0, .int .i64 a0_1, .slice A0_2 l0_2.length c0_2, .slice A0_3 l0_3.length c0_3], .slice none 0 0, .agg #[.int .i64 a1_0, .int .u64 a1_1]] rfl (by (try simp only [List.map_toArray, List.map_cons, List.map_nil]); first | done | rfl | (simp only [List.length_drop, List.length_take]; rfl)) ?_; (refine (trace_Below.calls k1 a0_0 a0_1 _ _ l0_2 _ _ l0_3 _ _ ([] : List (List (S35))) a1_0 a1_1 t257 _ ?side1 ?side2 ?side3 ?side4 ?side5 ?side6 A112.out).mono ?_); (case side1 => repeat (first | exact (Kd.C_below HR0_2.out HB.out) | (with_reducible refine Kd.C_alloc ?_ _) | (with_reducible refine Kd.C_drewN ?_ _) | (with_reducible refine Kd.C_drew ?_))); (case side2 => exact HC0_2.out); (case side3 => repeat (first | exact (Kd.C_below HR0_3.out HB.out) | (with_reducible refine Kd.C_alloc ?_ _) | (with_reducible refine Kd.C_drewN ?_ _) | (with_reducible refine Kd.C_drew ?_))); (case side4 => exact HC0_3.out); (case side5 => exact Kd.C_nil _ _); (case side6 => exact Nat.le_refl _); rintro e w118 ⟨v258, rfl, ho0, hb⟩; refine ⟨_, rfl, ?_⟩; have HO259 := Goto.m0 (Kd.R_lower (Kd.R_new' (Kd.R_new' (Kd.R_new' (Kd.R_new' ho0 (Kd.R_lt (Goto.rk HO_8))) (Kd.R_lt (Goto.rk HO_9))) (Kd.R_lt (Goto.rk HO_10))) (Kd.R_lt (Goto.rk HO_11))) (below_size (Goto.hx HB))); replace HO_7 := Goto.m0 (Kd.S_below (by (with_reducible repeat (first | apply Kd.S_alloc | apply Kd.S_drewN | apply Kd.S_drew)); exact HO_7.out) hb); replace HO_8 := Goto.m0 (Kd.R_elder' (Goto.rk HO_8) (Kd.R_base ho0) hb); replace HO_9 := Goto.m0 (Kd.R_elder' (Goto.rk HO_9) (Kd.R_base ho0) hb); replace HO_10 := Goto.m0 (Kd.R_elder' (Goto.rk HO_10) (Kd.R_base ho0) hb); replace HO_11 := Goto.m0 (Kd.R_elder' (Goto.rk HO_11) (Kd.R_base ho0) hb); replace BK233 := Goto.bb BK233 hb; replace BK234 := Goto.bb BK234 hb; replace BK235 := Goto.bb BK235 hb; replace HB := Goto.hs HB hb; (try clear hb); (try clear hb2); (try clear hk); (try clear hi); (try clear ho0); obtain ⟨Ao119, co119, eo119⟩ := Kd.R_slice HO259.out; subst eo119))
        go_ret
        exact ⟨Goto.er, by repeat (first | (with_reducible first | exact HB.out | apply below_alloc | apply pw_below_drewN | apply below_drew1 | refine below_set ?_ GE233.out | refine below_set ?_ GE234.out | refine below_set ?_ GE235.out) | exact HB.out)⟩
    ·
     rw [if_neg c17] at H
     exact absurd H (by simp)
   ·
    rw [if_neg c16] at H
    exact absurd H (by simp)
 ·
  replace c5 := Bool.eq_false_iff.mpr c5
  subst c5
  rw [if_neg (show ¬ (false = true) by decide)] at H
  exact absurd ((Option.some.inj H).trans HRT.out) (by decide)

end Go.Proofs.YtlmllmbbdlkknaaDoor.P
