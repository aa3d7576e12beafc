/- Printed by a program of this workplace (a turned copy of the kit's optional print), out of the translation; not trusted: Lean checks it. -/
import Derived.Test.YtlmllmbbdlkknaaDoorPx0
import Derived.Test.YtlmllmbbdlkknaaDoorPx1
import Derived.Test.YtlmllmbbdlkknaaDoorIto
namespace Go.Proofs.YtlmllmbbdlkknaaDoor.P
open Go.RowKit Go.Proofs.YtlmllmbbdlkknaaDoorW.PrintWords Go.Proofs.YtlmllmbbdlkknaaDoorW.PrintLast Go.Proofs.YtlmllmbbdlkknaaDoorW.PrintMore
attribute [local go_sem] max2_int min2_int max_two min_two max_three min_three max_four min_four   -- for this text's walks alone
set_option linter.unusedVariables false
set_option linter.unusedSimpArgs false

attribute [local go_sem high] eqA35
/-! ### trace_words: function 26 -/
def trace_words.l0 : Nat → ByteArray → List Int → Int → Int → Option (ByteArray)
  | 0, _, _, _, _ => none
  | k + 1, x7, x15, x16, x17 => if x17 < x16 then (if 0 ≤ x17 then (if x17 < (x15.length : Int) then ((ext_33.f (rd x15 x17)).bind fun t121 => (if 1 + t121.size ≤ 9223372036854775807 then (if x7.size + ((⟨#[32]⟩ : ByteArray) ++ t121).size ≤ 9223372036854775807 then (trace_words.l0 k (x7 ++ ((⟨#[32]⟩ : ByteArray) ++ t121)) x15 x16 (wrap64 (x17 + 1))) else (none)) else (none))) else (none)) else (none)) else (some x7)
def trace_words.f (k : Nat) (a0 : Int) (a1 : ByteArray) (l2 : List Int) : Option (ByteArray) := (ext_33.f a0).bind fun t119 => (if t119.size + 1 ≤ 9223372036854775807 then (if (t119 ++ (⟨#[32]⟩ : ByteArray)).size + a1.size ≤ 9223372036854775807 then (trace_words.l0 k ((t119 ++ (⟨#[32]⟩ : ByteArray)) ++ a1) l2 (l2.length : Int) 0) else (none)) else (none))
theorem trace_words.mono_l : ∀ k, (∀ y0 y1 y2 y3, LeO (trace_words.l0 k y0 y1 y2 y3) (trace_words.l0 (k + 1) y0 y1 y2 y3))
  | 0 => fun _ _ _ _ r h => by simp [trace_words.l0] at h
  | k + 1 => by
    have ih0 := trace_words.mono_l k
    · intro y0 y1 y2 y3
      unfold trace_words.l0
      repeat' first
      | (with_reducible exact ih0 _ _ _ _)
      | (with_reducible exact LeO.refl _)
      | (with_reducible exact LeO.none _)
      | (with_reducible refine LeO.ite ?_ ?_)
      | (with_reducible refine LeO.bind ?_ (fun _ => ?_))
      | exact ih0 _ _ _ _
      | exact LeO.none _
      | refine LeO.ite ?_ ?_
      | refine LeO.bind ?_ (fun _ => ?_)
theorem trace_words.mono : ∀ a0 a1 a2 k, LeO (trace_words.f k a0 a1 a2) (trace_words.f (k + 1) a0 a1 a2) := by
 intro a0 a1 a2 k
 have ih0 := trace_words.mono_l k
 unfold trace_words.f
 repeat' first
   | (with_reducible exact ih0 _ _ _ _)
   | (with_reducible exact LeO.refl _)
   | (with_reducible exact LeO.none _)
   | (with_reducible refine LeO.ite ?_ ?_)
   | (with_reducible refine LeO.bind ?_ (fun _ => ?_))
   | exact ih0 _ _ _ _
   | exact LeO.none _
   | refine LeO.ite ?_ ?_
   | refine LeO.bind ?_ (fun _ => ?_)
set_option maxHeartbeats 8000000 in
set_option maxRecDepth 100000 in
theorem trace_words.calls (k : Nat) (a0 : Int) (a1 : ByteArray) (A2 : Option Addr) (c2 : Nat) (l2 : List Int) (r : ByteArray) (w : World) (hld : Lib.TabIs Tryd.prog w "internal/strconv.uint64pow10" .u64 Lib.pow10Tab) (hr2 : Kd.C (Kd.int .i64) w A2 l2.length l2) (hc2 : l2.length ≤ c2) (h : trace_words.f k a0 a1 l2 = some r) :
    Calls Tryd.prog 26 #[.int .i64 a0, .string a1, .slice A2 l2.length c2] w fun e w' => e = .returned (.string r) ∧ Below w.heap.size w w' := by
 have HR2 := Goto.m0 hr2
 have HC2 := Goto.m0 hc2
 clear hr2 hc2
 have HB := Goto.m0 (Below.refl w.heap.size w)
 have HLD := Goto.m0 hld
 clear hld
 have H : ((ext_33.f a0).bind fun t119 => (if t119.size + 1 ≤ 9223372036854775807 then (if (t119 ++ (⟨#[32]⟩ : ByteArray)).size + a1.size ≤ 9223372036854775807 then (trace_words.l0 k ((t119 ++ (⟨#[32]⟩ : ByteArray)) ++ a1) l2 (l2.length : Int) 0) else (none)) else (none))) = some r := h
 clear h
 replace H := Option.bind_eq_some_iff.mp H
 obtain ⟨t119, A40, H⟩ := H
 have A4 := Goto.m0 A40
 clear A40
 by_cases c5 : t119.size + 1 ≤ 9223372036854775807
 ·
  rw [if_pos c5] at H
  have c5b0 := eq_true c5
  have c5b1 : decide (t119.size + 1 ≤ 9223372036854775807) = true := decide_eq_true c5
  try have c5b2 : (9223372036854775807 < t119.size + 1) = False := eq_false (Nat.not_lt.2 c5)
  by_cases c6 : (t119 ++ (⟨#[32]⟩ : ByteArray)).size + a1.size ≤ 9223372036854775807
  ·
   rw [if_pos c6] at H
   have c6b0 := eq_true c6
   have c6b1 : decide ((t119 ++ (⟨#[32]⟩ : ByteArray)).size + a1.size ≤ 9223372036854775807) = true := decide_eq_true c6
   try have c6b2 : (9223372036854775807 < (t119 ++ (⟨#[32]⟩ : ByteArray)).size + a1.size) = False := eq_false (Nat.not_lt.2 c6)
   have H' := Goto.m0 H
   clear H
   go_enter Tryd.func26, Tryd.ntmps26
   go_wp2_with (first | ((with_reducible refine gate_callee (f := 33) rfl ?_); refine goesL_ (some 11) rfl rfl Tryd.func33 (by kernel_rfl) rfl #[.int .i64 a0] rfl (by (try simp only [List.map_toArray, List.map_cons, List.map_nil]); first | done | rfl | (simp only [List.length_drop, List.length_take]; rfl)) ?_; (with_reducible refine (ext_33.calls a0 t119 _ (Goto.kt (Goto.hx HB) HLD.out) A4.out).mono ?_); rintro e w7 ⟨rfl, hb⟩; refine ⟨_, rfl, ?_⟩; replace HB := Goto.hs HB hb; (try clear hb); (try clear hb2); (try clear hk); (try clear hi)))
   go_loopg [7, 17] k (fun kq v7 v17 w' => ∃ (x7_1 : ByteArray) (x17_1 : Int), v7 = .string x7_1 ∧ v17 = .int .i64 x17_1 ∧ Aside0 (trace_words.l0 kq x7_1 l2 (l2.length : Int) x17_1 = some r) ∧ Aside0 (kq ≤ k) ∧ Aside0 (Below w.heap.size w w'))
   case atStart => exact ⟨((t119 ++ (⟨#[32]⟩ : ByteArray)) ++ a1), (0), (by first | rfl | (simp; done) | (simp [*]; done)), (by first | rfl | (simp; done) | (simp [*]; done)), H', ⟨Nat.le_refl _⟩, ⟨Goto.hx HB⟩⟩
   case round =>
    clear H'
    try clear c2; try clear p2; try clear c3; try clear c5; try clear c5b0; try clear c5b1; try clear c5b2; try clear c6; try clear c6b0; try clear c6b1; try clear c6b2
    obtain ⟨x7_1, x17_1, rfl, rfl, HA, HK1, HB⟩ := hrel
    cases gk with
    | zero => exact absurd HA.out (by simp [trace_words.l0])
    | succ k1 =>
     have H := HA.out; clear HA
     simp only [trace_words.l0] at H
     by_cases c8 : x17_1 < (l2.length : Int)
     ·
      rw [if_pos c8] at H
      have c8b0 : decide (x17_1 < (l2.length : Int)) = true := decide_eq_true c8
      clear c8
      by_cases c9 : 0 ≤ x17_1
      ·
       rw [if_pos c9] at H
       have c9b0 : decide (0 ≤ x17_1) = true := decide_eq_true c9
       clear c9
       by_cases c10 : x17_1 < (l2.length : Int)
       ·
        rw [if_pos c10] at H
        have c10b0 : decide (x17_1 < (l2.length : Int)) = true := decide_eq_true c10
        clear c10
        replace H := Option.bind_eq_some_iff.mp H
        obtain ⟨t121, A110, H⟩ := H
        have A11 := Goto.m0 A110
        clear A110
        by_cases c12 : 1 + t121.size ≤ 9223372036854775807
        ·
         rw [if_pos c12] at H
         have c12b0 := eq_true c12
         have c12b1 : decide (1 + t121.size ≤ 9223372036854775807) = true := decide_eq_true c12
         try have c12b2 : (9223372036854775807 < 1 + t121.size) = False := eq_false (Nat.not_lt.2 c12)
         by_cases c13 : x7_1.size + ((⟨#[32]⟩ : ByteArray) ++ t121).size ≤ 9223372036854775807
         ·
          rw [if_pos c13] at H
          have c13b0 := eq_true c13
          have c13b1 : decide (x7_1.size + ((⟨#[32]⟩ : ByteArray) ++ t121).size ≤ 9223372036854775807) = true := decide_eq_true c13
          try have c13b2 : (9223372036854775807 < x7_1.size + ((⟨#[32]⟩ : ByteArray) ++ t121).size) = False := eq_false (Nat.not_lt.2 c13)
          have H' := Goto.m0 H
          clear H
          have p120 : 0 ≤ (x17_1 : Int) := Goto.od
          have q120 : x17_1 < (l2.length : Int) := Goto.od
          obtain ⟨ad120, e120, hx120_0⟩ := Kd.at_int HR2.out x17_1 p120 q120
          cases e120
          replace hx120_0 := Goto.kc HB.out hx120_0
          replace p120 := eq_true p120; replace q120 := eq_true q120
          go_wp2_with (first | ((with_reducible refine gate_callee (f := 33) rfl ?_); refine goesL_ (some 23) rfl rfl Tryd.func33 (by kernel_rfl) rfl #[.int .i64 (rd l2 x17_1)] rfl (by (try simp only [List.map_toArray, List.map_cons, List.map_nil]); first | done | rfl | (simp only [List.length_drop, List.length_take]; rfl)) ?_; (with_reducible refine (ext_33.calls (rd l2 x17_1) t121 _ (Goto.kt (Goto.hx HB) HLD.out) A11.out).mono ?_); rintro e w14 ⟨rfl, hb⟩; refine ⟨_, rfl, ?_⟩; replace HB := Goto.hs HB hb; (try clear hb); (try clear hb2); (try clear hk); (try clear hi)))
          go_roundg k1
          case measure => have := HK1.out; omega
          case rel => exact ⟨(x7_1 ++ ((⟨#[32]⟩ : ByteArray) ++ t121)), (wrap64 (x17_1 + 1)), (by first | rfl | (simp; done) | (simp [*]; done)), (by first | rfl | (simp; done) | (simp [*]; done)), H', ⟨by have := HK1.out; omega⟩, ⟨Goto.hx HB⟩⟩
         ·
          rw [if_neg c13] at H
          exact absurd H (by simp)
        ·
         rw [if_neg c12] at H
         exact absurd H (by simp)
       ·
        rw [if_neg c10] at H
        exact absurd H (by simp)
      ·
       rw [if_neg c9] at H
       exact absurd H (by simp)
     ·
      rw [if_neg c8] at H
      have c8b0 : decide (x17_1 < (l2.length : Int)) = false := decide_eq_false c8
      clear c8
      obtain rfl := Option.some.inj H
      go_wp2
      go_ret
      exact ⟨Goto.er, by repeat (first | (with_reducible first | exact HB.out | apply below_alloc | apply pw_below_drewN | apply below_drew1) | exact HB.out)⟩
  ·
   rw [if_neg c6] at H
   exact absurd H (by simp)
 ·
  rw [if_neg c5] at H
  exact absurd H (by simp)

/-! ### trace_Line: function 9 -/
def trace_Line.f (k : Nat) (a0_0 : Int) (a0_1 : Int) (a0_2 : Int) (a0_3 : Int) (a0_4 : Int) (a0_5 : Int) : Option (ByteArray) := if a0_1 = 1 then ((trace_words.f k a0_0 (⟨#[114, 117, 110]⟩ : ByteArray) (([a0_2] : List Int))).bind fun t126 => (some t126)) else (if a0_1 = 2 then ((trace_words.f k a0_0 (⟨#[114, 101, 112, 108, 121]⟩ : ByteArray) (([a0_2, a0_3, a0_4, a0_5] : List Int))).bind fun t130 => (some t130)) else (some (⟨#[]⟩ : ByteArray)))
theorem trace_Line.mono : ∀ a0 a1 a2 a3 a4 a5 k, LeO (trace_Line.f k a0 a1 a2 a3 a4 a5) (trace_Line.f (k + 1) a0 a1 a2 a3 a4 a5) := by
 intro a0 a1 a2 a3 a4 a5 k
 unfold trace_Line.f
 repeat' first
   | (with_reducible exact trace_words.mono _ _ _ _)
   | (with_reducible exact LeO.refl _)
   | (with_reducible exact LeO.none _)
   | (with_reducible refine LeO.ite ?_ ?_)
   | (with_reducible refine LeO.bind ?_ (fun _ => ?_))
   | exact trace_words.mono _ _ _ _
   | exact LeO.none _
   | refine LeO.ite ?_ ?_
   | refine LeO.bind ?_ (fun _ => ?_)
set_option maxHeartbeats 8000000 in
set_option maxRecDepth 100000 in
theorem trace_Line.calls (k : Nat) (a0_0 : Int) (a0_1 : Int) (a0_2 : Int) (a0_3 : Int) (a0_4 : Int) (a0_5 : Int) (r : ByteArray) (w : World) (hld : Lib.TabIs Tryd.prog w "internal/strconv.uint64pow10" .u64 Lib.pow10Tab) (h : trace_Line.f k a0_0 a0_1 a0_2 a0_3 a0_4 a0_5 = some r) :
    Calls Tryd.prog 9 #[.agg #[.int .i64 a0_0, .int .i64 a0_1, .int .i64 a0_2, .int .i64 a0_3, .int .i64 a0_4, .int .i64 a0_5]] w fun e w' => e = .returned (.string r) ∧ Below w.heap.size w w' := by
 have hu35 := Tryd.underlying35
 have HB := Goto.m0 (Below.refl w.heap.size w)
 have HLD := Goto.m0 hld
 clear hld
 have H : (if a0_1 = 1 then ((trace_words.f k a0_0 (⟨#[114, 117, 110]⟩ : ByteArray) (([a0_2] : List Int))).bind fun t126 => (some t126)) else (if a0_1 = 2 then ((trace_words.f k a0_0 (⟨#[114, 101, 112, 108, 121]⟩ : ByteArray) (([a0_2, a0_3, a0_4, a0_5] : List Int))).bind fun t130 => (some t130)) else (some (⟨#[]⟩ : ByteArray)))) = some r := h
 clear h
 by_cases c2 : a0_1 = 1
 ·
  rw [if_pos c2] at H
  have c2b0 : (a0_1 == 1) = true := beq_iff_eq.mpr c2
  have c2b1 : (a0_1 != 1) = false := bne_eq_false_iff_eq.mpr c2
  clear c2
  obtain ⟨y123, hy123⟩ : ∃ y_ : List Int, y_ = (([a0_2] : List Int)) := ⟨_, rfl⟩
  replace H : ((trace_words.f k a0_0 (⟨#[114, 117, 110]⟩ : ByteArray) y123).bind fun t126 => (some t126)) = some r := by first | (rw [hy123]; with_reducible exact H) | (have H2_ := (Option.bind_some _ _).symm.trans H; rw [hy123]; with_reducible exact H2_) | (have H2_ := (Option.bind_some _ _).symm.trans H; with_reducible exact H2_) | with_reducible exact H | (rw [hy123]; exact H) | exact H
  have Ny123 := Goto.m0 hy123
  clear hy123
  replace H := Option.bind_eq_some_iff.mp H
  obtain ⟨t126, A30, H⟩ := H
  have A3 := Goto.m0 A30
  clear A30
  obtain rfl := Option.some.inj H
  go_enter Tryd.func9, Tryd.ntmps9
  go_wp2_with (first | ((with_reducible refine gate_dst (N := 1) rfl ?_); refine box_event ?hg (N := 1) ?hd (cs := #[.int .i64 a0_0, .int .i64 a0_1, .int .i64 a0_2, .int .i64 a0_3, .int .i64 a0_4, .int .i64 a0_5]) (t := 35) ?hr ?_; (case hd => rfl); (case hg => rfl); (case hr => first | (go_simp; done) | (go_simp; rfl)); intro gb122 hg w4 hbox hb; have BK122 := Goto.m0 (hbox); have GW122 := Goto.gs HB hg; have GE122 := Goto.gs HB hg; replace HB := Goto.hs HB hb; clear hb hbox hg; have hcz5_0 := Goto.bc0 BK122; have hcz5_1 := Goto.bc1 BK122; have hcz5_2 := Goto.bc2 BK122; have hcz5_3 := Goto.bc3 BK122; have hcz5_4 := Goto.bc4 BK122; have hcz5_5 := Goto.bc5 BK122; have hfz5_0 := Goto.bf BK122 0; have hfz5_1 := Goto.bf BK122 1; have hfz5_2 := Goto.bf BK122 2; have hfz5_3 := Goto.bf BK122 3; have hfz5_4 := Goto.bf BK122 4; have hfz5_5 := Goto.bf BK122 5) | ((with_reducible refine gate_dst (N := 11) rfl ?_); refine Kd.R_lit (Kd.int .i64) _ 3 ?hg (N := 11) ?hd (xs := ([a0_2] : List Int)) (inner := [.int .i64 a0_2]) (ok := fun _ => True) (okp := fun _ => True) ?hr ?hp (fun _ hk => hk) trivial (Below.refl _ _) (Nat.le_refl _) (by simp) ?_; (case hd => rfl); (case hg => rfl); (case hr => first | (go_simp; done) | (go_simp; rfl)); (case hp => exact (Reps.one (show Kd.M (Kd.int .i64) _ _ _ a0_2 [.int .i64 a0_2] from rfl) (Reps.none _ _))); intro v124 w6 ho7 hb hg_ hnew_; clear hg_ hnew_; (first | rw [← Ny123.out] at ho7 | (simp only [Int.reduceToNat] at ho7; rw [← Ny123.out] at ho7)); have HO125 := Goto.m0 (Kd.R_lower ho7 (below_size (Goto.hx HB))); replace BK122 := Goto.bb BK122 hb; replace HB := Goto.hs HB hb; clear hb ho7; obtain ⟨Ao8, co8, eo8⟩ := Kd.R_slice HO125.out; subst eo8) | ((with_reducible refine gate_callee (f := 26) rfl ?_); refine goesL_ (some 12) rfl rfl Tryd.func26 (by kernel_rfl) rfl #[.int .i64 a0_0, .string (⟨#[114, 117, 110]⟩ : ByteArray), .slice Ao8 y123.length co8] rfl (by (try simp only [List.map_toArray, List.map_cons, List.map_nil]); first | done | rfl | (simp only [List.length_drop, List.length_take]; rfl)) ?_; (with_reducible refine (trace_words.calls k a0_0 (⟨#[114, 117, 110]⟩ : ByteArray) _ _ y123 t126 _ (Goto.kt (Goto.hx HB) HLD.out) ?side1 ?side2 A3.out).mono ?_); (case side1 => repeat (first | exact (Kd.R_reads' HO125.out).2.2 | (with_reducible refine Kd.C_alloc ?_ _) | (with_reducible refine Kd.C_drewN ?_ _) | (with_reducible refine Kd.C_drew ?_))); (case side2 => exact (Kd.R_reads' HO125.out).2.1); rintro e w9 ⟨rfl, hb⟩; refine ⟨_, rfl, ?_⟩; replace HO125 := Goto.m0 (Kd.R_below (Goto.rk HO125) hb); replace BK122 := Goto.bb BK122 hb; replace HB := Goto.hs HB hb; (try clear hb); (try clear hb2); (try clear hk); (try clear hi)))
  go_ret
  exact ⟨Goto.er, by repeat (first | (with_reducible first | exact HB.out | apply below_alloc | apply pw_below_drewN | apply below_drew1 | refine below_set ?_ GE122.out) | exact HB.out)⟩
 ·
  rw [if_neg c2] at H
  have c2b0 : (a0_1 == 1) = false := beq_eq_false_iff_ne.mpr c2
  have c2b1 : (a0_1 != 1) = true := bne_iff_ne.mpr c2
  by_cases c10 : a0_1 = 2
  ·
   rw [if_pos c10] at H
   have c10b0 : (a0_1 == 2) = true := beq_iff_eq.mpr c10
   have c10b1 : (a0_1 != 2) = false := bne_eq_false_iff_eq.mpr c10
   clear c10
   obtain ⟨y127, hy127⟩ : ∃ y_ : List Int, y_ = (([a0_2, a0_3, a0_4, a0_5] : List Int)) := ⟨_, rfl⟩
   replace H : ((trace_words.f k a0_0 (⟨#[114, 101, 112, 108, 121]⟩ : ByteArray) y127).bind fun t130 => (some t130)) = some r := by first | (rw [hy127]; with_reducible exact H) | (have H2_ := (Option.bind_some _ _).symm.trans H; rw [hy127]; with_reducible exact H2_) | (have H2_ := (Option.bind_some _ _).symm.trans H; with_reducible exact H2_) | with_reducible exact H | (rw [hy127]; exact H) | exact H
   have Ny127 := Goto.m0 hy127
   clear hy127
   replace H := Option.bind_eq_some_iff.mp H
   obtain ⟨t130, A110, H⟩ := H
   have A11 := Goto.m0 A110
   clear A110
   obtain rfl := Option.some.inj H
   go_enter Tryd.func9, Tryd.ntmps9
   go_wp2_with (first | ((with_reducible refine gate_dst (N := 1) rfl ?_); refine box_event ?hg (N := 1) ?hd (cs := #[.int .i64 a0_0, .int .i64 a0_1, .int .i64 a0_2, .int .i64 a0_3, .int .i64 a0_4, .int .i64 a0_5]) (t := 35) ?hr ?_; (case hd => rfl); (case hg => rfl); (case hr => first | (go_simp; done) | (go_simp; rfl)); intro gb122 hg w12 hbox hb; have BK122 := Goto.m0 (hbox); have GW122 := Goto.gs HB hg; have GE122 := Goto.gs HB hg; replace HB := Goto.hs HB hb; clear hb hbox hg; have hcz13_0 := Goto.bc0 BK122; have hcz13_1 := Goto.bc1 BK122; have hcz13_2 := Goto.bc2 BK122; have hcz13_3 := Goto.bc3 BK122; have hcz13_4 := Goto.bc4 BK122; have hcz13_5 := Goto.bc5 BK122; have hfz13_0 := Goto.bf BK122 0; have hfz13_1 := Goto.bf BK122 1; have hfz13_2 := Goto.bf BK122 2; have hfz13_3 := Goto.bf BK122 3; have hfz13_4 := Goto.bf BK122 4; have hfz13_5 := Goto.bf BK122 5) | ((with_reducible refine gate_dst (N := 25) rfl ?_); refine Kd.R_lit (Kd.int .i64) _ 3 ?hg (N := 25) ?hd (xs := ([a0_2, a0_3, a0_4, a0_5] : List Int)) (inner := [.int .i64 a0_2, .int .i64 a0_3, .int .i64 a0_4, .int .i64 a0_5]) (ok := fun _ => True) (okp := fun _ => True) ?hr ?hp (fun _ hk => hk) trivial (Below.refl _ _) (Nat.le_refl _) (by simp) ?_; (case hd => rfl); (case hg => rfl); (case hr => first | (go_simp; done) | (go_simp; rfl)); (case hp => exact (Reps.one (show Kd.M (Kd.int .i64) _ _ _ a0_2 [.int .i64 a0_2] from rfl) (Reps.one (show Kd.M (Kd.int .i64) _ _ _ a0_3 [.int .i64 a0_3] from rfl) (Reps.one (show Kd.M (Kd.int .i64) _ _ _ a0_4 [.int .i64 a0_4] from rfl) (Reps.one (show Kd.M (Kd.int .i64) _ _ _ a0_5 [.int .i64 a0_5] from rfl) (Reps.none _ _)))))); intro v128 w14 ho15 hb hg_ hnew_; clear hg_ hnew_; (first | rw [← Ny127.out] at ho15 | (simp only [Int.reduceToNat] at ho15; rw [← Ny127.out] at ho15)); have HO129 := Goto.m0 (Kd.R_lower ho15 (below_size (Goto.hx HB))); replace BK122 := Goto.bb BK122 hb; replace HB := Goto.hs HB hb; clear hb ho15; obtain ⟨Ao16, co16, eo16⟩ := Kd.R_slice HO129.out; subst eo16) | ((with_reducible refine gate_callee (f := 26) rfl ?_); refine goesL_ (some 26) rfl rfl Tryd.func26 (by kernel_rfl) rfl #[.int .i64 a0_0, .string (⟨#[114, 101, 112, 108, 121]⟩ : ByteArray), .slice Ao16 y127.length co16] rfl (by (try simp only [List.map_toArray, List.map_cons, List.map_nil]); first | done | rfl | (simp only [List.length_drop, List.length_take]; rfl)) ?_; (with_reducible refine (trace_words.calls k a0_0 (⟨#[114, 101, 112, 108, 121]⟩ : ByteArray) _ _ y127 t130 _ (Goto.kt (Goto.hx HB) HLD.out) ?side1 ?side2 A11.out).mono ?_); (case side1 => repeat (first | exact (Kd.R_reads' HO129.out).2.2 | (with_reducible refine Kd.C_alloc ?_ _) | (with_reducible refine Kd.C_drewN ?_ _) | (with_reducible refine Kd.C_drew ?_))); (case side2 => exact (Kd.R_reads' HO129.out).2.1); rintro e w17 ⟨rfl, hb⟩; refine ⟨_, rfl, ?_⟩; replace HO129 := Goto.m0 (Kd.R_below (Goto.rk HO129) hb); replace BK122 := Goto.bb BK122 hb; replace HB := Goto.hs HB hb; (try clear hb); (try clear hb2); (try clear hk); (try clear hi)))
   go_ret
   exact ⟨Goto.er, by repeat (first | (with_reducible first | exact HB.out | apply below_alloc | apply pw_below_drewN | apply below_drew1 | refine below_set ?_ GE122.out) | exact HB.out)⟩
  ·
   rw [if_neg c10] at H
   have c10b0 : (a0_1 == 2) = false := beq_eq_false_iff_ne.mpr c10
   have c10b1 : (a0_1 != 2) = true := bne_iff_ne.mpr c10
   obtain rfl := Option.some.inj H
   go_enter Tryd.func9, Tryd.ntmps9
   go_wp2_with (first | ((with_reducible refine gate_dst (N := 1) rfl ?_); refine box_event ?hg (N := 1) ?hd (cs := #[.int .i64 a0_0, .int .i64 a0_1, .int .i64 a0_2, .int .i64 a0_3, .int .i64 a0_4, .int .i64 a0_5]) (t := 35) ?hr ?_; (case hd => rfl); (case hg => rfl); (case hr => first | (go_simp; done) | (go_simp; rfl)); intro gb122 hg w18 hbox hb; have BK122 := Goto.m0 (hbox); have GW122 := Goto.gs HB hg; have GE122 := Goto.gs HB hg; replace HB := Goto.hs HB hb; clear hb hbox hg; have hcz19_0 := Goto.bc0 BK122; have hcz19_1 := Goto.bc1 BK122; have hcz19_2 := Goto.bc2 BK122; have hcz19_3 := Goto.bc3 BK122; have hcz19_4 := Goto.bc4 BK122; have hcz19_5 := Goto.bc5 BK122; have hfz19_0 := Goto.bf BK122 0; have hfz19_1 := Goto.bf BK122 1; have hfz19_2 := Goto.bf BK122 2; have hfz19_3 := Goto.bf BK122 3; have hfz19_4 := Goto.bf BK122 4; have hfz19_5 := Goto.bf BK122 5))
   go_ret
   exact ⟨Goto.er, by repeat (first | (with_reducible first | exact HB.out | apply below_alloc | apply pw_below_drewN | apply below_drew1 | refine below_set ?_ GE122.out) | exact HB.out)⟩

-- NOT PRINTED: function 28 (trace_many)

/-! ### api_Obs: function 29 -/
def api_Obs.l0 : Nat → List (S35) → List (S35) → Int → Int → Option (Bool)
  | 0, _, _, _, _ => none
  | k + 1, x0, x1, x12, x13 => if x13 < x12 then (if 0 ≤ x13 then (if x13 < (x0.length : Int) then (if x13 < (x1.length : Int) then (if (!(((rd_T35 x0 x13).f0) == ((rd_T35 x1 x13).f0)) || (!(((rd_T35 x0 x13).f1) == ((rd_T35 x1 x13).f1)) || (!(((rd_T35 x0 x13).f2) == ((rd_T35 x1 x13).f2)) || (!(((rd_T35 x0 x13).f3) == ((rd_T35 x1 x13).f3)) || (!(((rd_T35 x0 x13).f4) == ((rd_T35 x1 x13).f4)) || (!(((rd_T35 x0 x13).f5) == ((rd_T35 x1 x13).f5)))))))) = true then (some false) else (api_Obs.l0 k x0 x1 x12 (wrap64 (x13 + 1)))) else (none)) else (none)) else (none)) else (some true)
def api_Obs.f (k : Nat) (l0 : List (S35)) (l1 : List (S35)) : Option (Bool) := if (l0.length : Int) = (l1.length : Int) then (api_Obs.l0 k l0 l1 (l0.length : Int) 0) else (some false)
theorem api_Obs.mono_l : ∀ k, (∀ y0 y1 y2 y3, LeO (api_Obs.l0 k y0 y1 y2 y3) (api_Obs.l0 (k + 1) y0 y1 y2 y3))
  | 0 => fun _ _ _ _ r h => by simp [api_Obs.l0] at h
  | k + 1 => by
    have ih0 := api_Obs.mono_l k
    · intro y0 y1 y2 y3
      unfold api_Obs.l0
      repeat' first
      | (with_reducible exact ih0 _ _ _ _)
      | (with_reducible exact LeO.refl _)
      | (with_reducible exact LeO.none _)
      | (with_reducible refine LeO.ite ?_ ?_)
      | (with_reducible refine LeO.bind ?_ (fun _ => ?_))
      | exact ih0 _ _ _ _
      | exact LeO.none _
      | refine LeO.ite ?_ ?_
      | refine LeO.bind ?_ (fun _ => ?_)
theorem api_Obs.mono : ∀ a0 a1 k, LeO (api_Obs.f k a0 a1) (api_Obs.f (k + 1) a0 a1) := by
 intro a0 a1 k
 have ih0 := api_Obs.mono_l k
 unfold api_Obs.f
 repeat' first
   | (with_reducible exact ih0 _ _ _ _)
   | (with_reducible exact LeO.refl _)
   | (with_reducible exact LeO.none _)
   | (with_reducible refine LeO.ite ?_ ?_)
   | (with_reducible refine LeO.bind ?_ (fun _ => ?_))
   | exact ih0 _ _ _ _
   | exact LeO.none _
   | refine LeO.ite ?_ ?_
   | refine LeO.bind ?_ (fun _ => ?_)
set_option maxHeartbeats 8000000 in
set_option maxRecDepth 100000 in
theorem api_Obs.calls (k : Nat) (A0 : Option Addr) (c0 : Nat) (l0 : List (S35)) (A1 : Option Addr) (c1 : Nat) (l1 : List (S35)) (r : Bool) (w : World) (hr0 : Kd.C k35 w A0 l0.length l0) (hc0 : l0.length ≤ c0) (hr1 : Kd.C k35 w A1 l1.length l1) (hc1 : l1.length ≤ c1) (h : api_Obs.f k l0 l1 = some r) :
    Calls Tryd.prog 29 #[.slice A0 l0.length c0, .slice A1 l1.length c1] w fun e w' => e = .returned (.bool r) ∧ Drawn0 w w' := by
 have hu35 := Tryd.underlying35
 have HR0 := Goto.m0 hr0
 have HC0 := Goto.m0 hc0
 clear hr0 hc0
 have HR1 := Goto.m0 hr1
 have HC1 := Goto.m0 hc1
 clear hr1 hc1
 have H : (if (l0.length : Int) = (l1.length : Int) then (api_Obs.l0 k l0 l1 (l0.length : Int) 0) else (some false)) = some r := h
 clear h
 by_cases c3 : (l0.length : Int) = (l1.length : Int)
 ·
  rw [if_pos c3] at H
  have c3b0 : ((l0.length : Int) == (l1.length : Int)) = true := beq_iff_eq.mpr c3
  have c3b1 : ((l0.length : Int) != (l1.length : Int)) = false := bne_eq_false_iff_eq.mpr c3
  have c3b2 : (l0.length == l1.length) = true := by first | simpa using c3 | (simp at c3 ⊢; omega)
  clear c3
  have H' := Goto.m0 H
  clear H
  go_enter Tryd.func29, Tryd.ntmps29
  go_wp2
  repeat (go_quiet (fail); try go_wp2)
  go_loopg [13] k (fun kq v13 w' => ∃ (x13_1 : Int), v13 = .int .i64 x13_1 ∧ Aside0 (api_Obs.l0 kq l0 l1 (l0.length : Int) x13_1 = some r) ∧ Aside0 (kq ≤ k) ∧ Drawn0 w w')
  case atStart => exact ⟨(0), (by first | rfl | (simp; done) | (simp [*]; done)), H', ⟨Nat.le_refl _⟩, by repeat (first | exact Drawn0.refl _ | apply Drawn0.step)⟩
  case round =>
   clear H'
   try clear c1; try clear c2; try clear p2; try clear c3; try clear c3b0; try clear c3b1; try clear c3b2
   obtain ⟨x13_1, rfl, HA, HK1, ⟨m1, rfl⟩⟩ := hrel
   cases gk with
   | zero => exact absurd HA.out (by simp [api_Obs.l0])
   | succ k1 =>
    have H := HA.out; clear HA
    simp only [api_Obs.l0] at H
    by_cases c4 : x13_1 < (l0.length : Int)
    ·
     rw [if_pos c4] at H
     have c4b0 : decide (x13_1 < (l0.length : Int)) = true := decide_eq_true c4
     clear c4
     by_cases c5 : 0 ≤ x13_1
     ·
      rw [if_pos c5] at H
      have c5b0 : decide (0 ≤ x13_1) = true := decide_eq_true c5
      clear c5
      by_cases c6 : x13_1 < (l0.length : Int)
      ·
       rw [if_pos c6] at H
       have c6b0 : decide (x13_1 < (l0.length : Int)) = true := decide_eq_true c6
       clear c6
       by_cases c7 : x13_1 < (l1.length : Int)
       ·
        rw [if_pos c7] at H
        have c7b0 : decide (x13_1 < (l1.length : Int)) = true := decide_eq_true c7
        clear c7
        by_cases c8 : (!(((rd_T35 l0 x13_1).f0) == ((rd_T35 l1 x13_1).f0)) || (!(((rd_T35 l0 x13_1).f1) == ((rd_T35 l1 x13_1).f1)) || (!(((rd_T35 l0 x13_1).f2) == ((rd_T35 l1 x13_1).f2)) || (!(((rd_T35 l0 x13_1).f3) == ((rd_T35 l1 x13_1).f3)) || (!(((rd_T35 l0 x13_1).f4) == ((rd_T35 l1 x13_1).f4)) || (!(((rd_T35 l0 x13_1).f5) == ((rd_T35 l1 x13_1).f5)))))))) = true
        ·
         rw [if_pos c8] at H
         have c8b0 : (!(((rd_T35 l0 x13_1).f0) == ((rd_T35 l1 x13_1).f0)) || (!(((rd_T35 l0 x13_1).f1) == ((rd_T35 l1 x13_1).f1)) || (!(((rd_T35 l0 x13_1).f2) == ((rd_T35 l1 x13_1).f2)) || (!(((rd_T35 l0 x13_1).f3) == ((rd_T35 l1 x13_1).f3)) || (!(((rd_T35 l0 x13_1).f4) == ((rd_T35 l1 x13_1).f4)) || (!(((rd_T35 l0 x13_1).f5) == ((rd_T35 l1 x13_1).f5)))))))) = true := c8
         clear c8
         obtain rfl := Option.some.inj H
         have p131 : 0 ≤ (x13_1 : Int) := Goto.od
         have q131 : x13_1 < (l0.length : Int) := Goto.od
         obtain ⟨ad131, e131, hx131_0, hx131_1, hx131_2, hx131_3, hx131_4, hx131_5⟩ := at_T35 HR0.out x13_1 p131 q131
         cases e131
         replace p131 := eq_true p131; replace q131 := eq_true q131
         have p132 : 0 ≤ (x13_1 : Int) := Goto.od
         have q132 : x13_1 < (l1.length : Int) := Goto.od
         obtain ⟨ad132, e132, hx132_0, hx132_1, hx132_2, hx132_3, hx132_4, hx132_5⟩ := at_T35 HR1.out x13_1 p132 q132
         cases e132
         replace p132 := eq_true p132; replace q132 := eq_true q132
         go_wp2
         repeat (go_quiet (fail); try go_wp2)
         go_ret
         exact ⟨by first | rfl | (simp; done) | (simp [*]; done), by repeat (first | exact Drawn0.refl _ | apply Drawn0.step)⟩
        ·
         rw [if_neg c8] at H
         have c8b0 : (!(((rd_T35 l0 x13_1).f0) == ((rd_T35 l1 x13_1).f0)) || (!(((rd_T35 l0 x13_1).f1) == ((rd_T35 l1 x13_1).f1)) || (!(((rd_T35 l0 x13_1).f2) == ((rd_T35 l1 x13_1).f2)) || (!(((rd_T35 l0 x13_1).f3) == ((rd_T35 l1 x13_1).f3)) || (!(((rd_T35 l0 x13_1).f4) == ((rd_T35 l1 x13_1).f4)) || (!(((rd_T35 l0 x13_1).f5) == ((rd_T35 l1 x13_1).f5)))))))) = false := by simpa using c8
         clear c8
         have H' := Goto.m0 H
         clear H
         have p131 : 0 ≤ (x13_1 : Int) := Goto.od
         have q131 : x13_1 < (l0.length : Int) := Goto.od
         obtain ⟨ad131, e131, hx131_0, hx131_1, hx131_2, hx131_3, hx131_4, hx131_5⟩ := at_T35 HR0.out x13_1 p131 q131
         cases e131
         replace p131 := eq_true p131; replace q131 := eq_true q131
         have p132 : 0 ≤ (x13_1 : Int) := Goto.od
         have q132 : x13_1 < (l1.length : Int) := Goto.od
         obtain ⟨ad132, e132, hx132_0, hx132_1, hx132_2, hx132_3, hx132_4, hx132_5⟩ := at_T35 HR1.out x13_1 p132 q132
         cases e132
         replace p132 := eq_true p132; replace q132 := eq_true q132
         go_wp2
         repeat (go_quiet (fail); try go_wp2)
         go_roundg k1
         case measure => have := HK1.out; omega
         case rel => exact ⟨(wrap64 (x13_1 + 1)), (by first | rfl | (simp; done) | (simp [*]; done)), H', ⟨by have := HK1.out; omega⟩, by repeat (first | exact Drawn0.refl _ | apply Drawn0.step)⟩
       ·
        rw [if_neg c7] at H
        exact absurd H (by simp)
      ·
       rw [if_neg c6] at H
       exact absurd H (by simp)
     ·
      rw [if_neg c5] at H
      exact absurd H (by simp)
    ·
     rw [if_neg c4] at H
     have c4b0 : decide (x13_1 < (l0.length : Int)) = false := decide_eq_false c4
     clear c4
     obtain rfl := Option.some.inj H
     go_wp2
     repeat (go_quiet (fail); try go_wp2)
     go_ret
     exact ⟨by first | rfl | (simp; done) | (simp [*]; done), by repeat (first | exact Drawn0.refl _ | apply Drawn0.step)⟩
 ·
  rw [if_neg c3] at H
  have c3b0 : ((l0.length : Int) == (l1.length : Int)) = false := beq_eq_false_iff_ne.mpr c3
  have c3b1 : ((l0.length : Int) != (l1.length : Int)) = true := bne_iff_ne.mpr c3
  have c3b2 : (l0.length == l1.length) = false := by first | simpa using c3 | (simp at c3 ⊢; omega)
  obtain rfl := Option.some.inj H
  go_enter Tryd.func29, Tryd.ntmps29
  go_wp2
  repeat (go_quiet (fail); try go_wp2)
  go_ret
  exact ⟨by first | rfl | (simp; done) | (simp [*]; done), by repeat (first | exact Drawn0.refl _ | apply Drawn0.step)⟩

end Go.Proofs.YtlmllmbbdlkknaaDoor.P
