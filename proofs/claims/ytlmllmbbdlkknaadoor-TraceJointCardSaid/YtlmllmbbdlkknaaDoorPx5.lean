/- Printed by a program of this workplace (a turned copy of the kit's optional print), out of the translation; not trusted: Lean checks it. -/
import Derived.Test.YtlmllmbbdlkknaaDoorPx0
namespace Go.Proofs.YtlmllmbbdlkknaaDoor.P
open Go.RowKit Go.Proofs.YtlmllmbbdlkknaaDoorW.PrintWords Go.Proofs.YtlmllmbbdlkknaaDoorW.PrintLast Go.Proofs.YtlmllmbbdlkknaaDoorW.PrintMore
attribute [local go_sem] max2_int min2_int max_two min_two max_three min_three max_four min_four   -- for this text's walks alone
set_option linter.unusedVariables false
set_option linter.unusedSimpArgs false

/-! ### tontineref1_SameInts: function 15 -/
def tontineref1_SameInts.l0 : Nat → List Int → List Int → Int → Option (Bool)
  | 0, _, _, _ => none
  | k + 1, x0, x1, x5 => if x5 < (x0.length : Int) then (if 0 ≤ x5 then (if x5 < (x1.length : Int) then (if (rd x0 x5) = (rd x1 x5) then (tontineref1_SameInts.l0 k x0 x1 (wrap64 (x5 + 1))) else (some false)) else (none)) else (none)) else (some true)
def tontineref1_SameInts.f (k : Nat) (l0 : List Int) (l1 : List Int) : Option (Bool) := if (l0.length : Int) = (l1.length : Int) then (tontineref1_SameInts.l0 k l0 l1 0) else (some false)
theorem tontineref1_SameInts.mono_l : ∀ k, (∀ y0 y1 y2, LeO (tontineref1_SameInts.l0 k y0 y1 y2) (tontineref1_SameInts.l0 (k + 1) y0 y1 y2))
  | 0 => fun _ _ _ r h => by simp [tontineref1_SameInts.l0] at h
  | k + 1 => by
    have ih0 := tontineref1_SameInts.mono_l k
    · intro y0 y1 y2
      unfold tontineref1_SameInts.l0
      repeat' first
      | (with_reducible exact ih0 _ _ _)
      | (with_reducible exact LeO.refl _)
      | (with_reducible exact LeO.none _)
      | (with_reducible refine LeO.ite ?_ ?_)
      | (with_reducible refine LeO.bind ?_ (fun _ => ?_))
      | exact ih0 _ _ _
      | exact LeO.none _
      | refine LeO.ite ?_ ?_
      | refine LeO.bind ?_ (fun _ => ?_)
theorem tontineref1_SameInts.mono : ∀ a0 a1 k, LeO (tontineref1_SameInts.f k a0 a1) (tontineref1_SameInts.f (k + 1) a0 a1) := by
 intro a0 a1 k
 have ih0 := tontineref1_SameInts.mono_l k
 unfold tontineref1_SameInts.f
 repeat' first
   | (with_reducible exact ih0 _ _ _)
   | (with_reducible exact LeO.refl _)
   | (with_reducible exact LeO.none _)
   | (with_reducible refine LeO.ite ?_ ?_)
   | (with_reducible refine LeO.bind ?_ (fun _ => ?_))
   | exact ih0 _ _ _
   | exact LeO.none _
   | refine LeO.ite ?_ ?_
   | refine LeO.bind ?_ (fun _ => ?_)
set_option maxHeartbeats 8000000 in
set_option maxRecDepth 100000 in
theorem tontineref1_SameInts.calls (k : Nat) (A0 : Option Addr) (c0 : Nat) (l0 : List Int) (A1 : Option Addr) (c1 : Nat) (l1 : List Int) (r : Bool) (w : World) (hr0 : Kd.C (Kd.int .i64) w A0 l0.length l0) (hc0 : l0.length ≤ c0) (hr1 : Kd.C (Kd.int .i64) w A1 l1.length l1) (hc1 : l1.length ≤ c1) (h : tontineref1_SameInts.f k l0 l1 = some r) :
    Calls Tryd.prog 15 #[.slice A0 l0.length c0, .slice A1 l1.length c1] w fun e w' => e = .returned (.bool r) ∧ Drawn0 w w' := by
 have HR0 := Goto.m0 hr0
 have HC0 := Goto.m0 hc0
 clear hr0 hc0
 have HR1 := Goto.m0 hr1
 have HC1 := Goto.m0 hc1
 clear hr1 hc1
 have H : (if (l0.length : Int) = (l1.length : Int) then (tontineref1_SameInts.l0 k l0 l1 0) else (some false)) = some r := h
 clear h
 by_cases c3 : (l0.length : Int) = (l1.length : Int)
 ·
  rw [if_pos c3] at H
  have c3b0 : ((l0.length : Int) == (l1.length : Int)) = true := beq_iff_eq.mpr c3
  have c3b1 : ((l0.length : Int) != (l1.length : Int)) = false := bne_eq_false_iff_eq.mpr c3
  have c3b2 : (l0.length == l1.length) = true := by first | simpa using c3 | (simp at c3 ⊢; omega)
  clear c3
  have H' := Goto.m0 H
  clear H
  go_enter Tryd.func15, Tryd.ntmps15
  go_wp2
  repeat (go_quiet (fail); try go_wp2)
  go_loopg [5] k (fun kq v5 w' => ∃ (x5_1 : Int), v5 = .int .i64 x5_1 ∧ Aside0 (tontineref1_SameInts.l0 kq l0 l1 x5_1 = some r) ∧ Aside0 (kq ≤ k) ∧ Drawn0 w w')
  case atStart => exact ⟨(0), (by first | rfl | (simp; done) | (simp [*]; done)), H', ⟨Nat.le_refl _⟩, by repeat (first | exact Drawn0.refl _ | apply Drawn0.step)⟩
  case round =>
   clear H'
   try clear c1; try clear p2; try clear c3; try clear c3b0; try clear c3b1; try clear c3b2
   obtain ⟨x5_1, rfl, HA, HK1, ⟨m1, rfl⟩⟩ := hrel
   cases gk with
   | zero => exact absurd HA.out (by simp [tontineref1_SameInts.l0])
   | succ k1 =>
    have H := HA.out; clear HA
    simp only [tontineref1_SameInts.l0] at H
    by_cases c4 : x5_1 < (l0.length : Int)
    ·
     rw [if_pos c4] at H
     have c4b0 : decide (x5_1 < (l0.length : Int)) = true := decide_eq_true c4
     clear c4
     by_cases c5 : 0 ≤ x5_1
     ·
      rw [if_pos c5] at H
      have c5b0 : decide (0 ≤ x5_1) = true := decide_eq_true c5
      clear c5
      by_cases c6 : x5_1 < (l1.length : Int)
      ·
       rw [if_pos c6] at H
       have c6b0 : decide (x5_1 < (l1.length : Int)) = true := decide_eq_true c6
       clear c6
       by_cases c7 : (rd l0 x5_1) = (rd l1 x5_1)
       ·
        rw [if_pos c7] at H
        have c7b0 : ((rd l0 x5_1) == (rd l1 x5_1)) = true := beq_iff_eq.mpr c7
        have c7b1 : ((rd l0 x5_1) != (rd l1 x5_1)) = false := bne_eq_false_iff_eq.mpr c7
        clear c7
        have H' := Goto.m0 H
        clear H
        have p133 : 0 ≤ (x5_1 : Int) := Goto.od
        have q133 : x5_1 < (l0.length : Int) := Goto.od
        obtain ⟨ad133, e133, hx133_0⟩ := Kd.at_int HR0.out x5_1 p133 q133
        cases e133
        replace p133 := eq_true p133; replace q133 := eq_true q133
        have p134 : 0 ≤ (x5_1 : Int) := Goto.od
        have q134 : x5_1 < (l1.length : Int) := Goto.od
        obtain ⟨ad134, e134, hx134_0⟩ := Kd.at_int HR1.out x5_1 p134 q134
        cases e134
        replace p134 := eq_true p134; replace q134 := eq_true q134
        go_wp2
        repeat (go_quiet (fail); try go_wp2)
        go_roundg k1
        case measure => have := HK1.out; omega
        case rel => exact ⟨(wrap64 (x5_1 + 1)), (by first | rfl | (simp; done) | (simp [*]; done)), H', ⟨by have := HK1.out; omega⟩, by repeat (first | exact Drawn0.refl _ | apply Drawn0.step)⟩
       ·
        rw [if_neg c7] at H
        have c7b0 : ((rd l0 x5_1) == (rd l1 x5_1)) = false := beq_eq_false_iff_ne.mpr c7
        have c7b1 : ((rd l0 x5_1) != (rd l1 x5_1)) = true := bne_iff_ne.mpr c7
        obtain rfl := Option.some.inj H
        have p133 : 0 ≤ (x5_1 : Int) := Goto.od
        have q133 : x5_1 < (l0.length : Int) := Goto.od
        obtain ⟨ad133, e133, hx133_0⟩ := Kd.at_int HR0.out x5_1 p133 q133
        cases e133
        replace p133 := eq_true p133; replace q133 := eq_true q133
        have p134 : 0 ≤ (x5_1 : Int) := Goto.od
        have q134 : x5_1 < (l1.length : Int) := Goto.od
        obtain ⟨ad134, e134, hx134_0⟩ := Kd.at_int HR1.out x5_1 p134 q134
        cases e134
        replace p134 := eq_true p134; replace q134 := eq_true q134
        go_wp2
        repeat (go_quiet (fail); try go_wp2)
        go_ret
        exact ⟨by first | rfl | (simp; done) | (simp [*]; done), by repeat (first | exact Drawn0.refl _ | apply Drawn0.step)⟩
      ·
       rw [if_neg c6] at H
       exact absurd H (by simp)
     ·
      rw [if_neg c5] at H
      exact absurd H (by simp)
    ·
     rw [if_neg c4] at H
     have c4b0 : decide (x5_1 < (l0.length : Int)) = false := decide_eq_false c4
     clear c4
     obtain rfl := Option.some.inj H
     go_wp2
     repeat (go_quiet (fail); try go_wp2)
     go_ret
     exact ⟨by first | rfl | (simp; done) | (simp [*]; done), by repeat (first | exact Drawn0.refl _ | apply Drawn0.step)⟩
 ·
  rw [if_neg c3] at H
  have c3b0 : ((l0.length : Int) == (l1.length : Int)) = false := beq_eq_false_iff_ne.mpr c3
  have c3b1 : ((l0.length : Int) != (l1.length : Int)) = true := bne_iff_ne.mpr c3
  have c3b2 : (l0.length == l1.length) = false := by first | simpa using c3 | (simp at c3 ⊢; omega)
  obtain rfl := Option.some.inj H
  go_enter Tryd.func15, Tryd.ntmps15
  go_wp2
  repeat (go_quiet (fail); try go_wp2)
  go_ret
  exact ⟨by first | rfl | (simp; done) | (simp [*]; done), by repeat (first | exact Drawn0.refl _ | apply Drawn0.step)⟩

/-! ### label_Leq: function 32 -/
def label_Leq.f (a0_0 : Int) (a0_1 : Int) (a1_0 : Int) (a1_1 : Int) : Option (Bool) := if a0_0 ≤ a1_0 then (some ((Go.bits .andNot .u64 a0_1 a1_1) == 0)) else (some false)
set_option maxHeartbeats 8000000 in
set_option maxRecDepth 100000 in
theorem label_Leq.calls (a0_0 : Int) (a0_1 : Int) (a1_0 : Int) (a1_1 : Int) (r : Bool) (w : World) (h : label_Leq.f a0_0 a0_1 a1_0 a1_1 = some r) :
    Calls Tryd.prog 32 #[.agg #[.int .i64 a0_0, .int .u64 a0_1], .agg #[.int .i64 a1_0, .int .u64 a1_1]] w fun e w' => e = .returned (.bool r) ∧ Below w.heap.size w w' := by
 have hu30 := Tryd.underlying30
 have HB := Goto.m0 (Below.refl w.heap.size w)
 have H : (if a0_0 ≤ a1_0 then (some ((Go.bits .andNot .u64 a0_1 a1_1) == 0)) else (some false)) = some r := h
 clear h
 by_cases c3 : a0_0 ≤ a1_0
 ·
  rw [if_pos c3] at H
  have c3b0 : decide (a0_0 ≤ a1_0) = true := decide_eq_true c3
  clear c3
  obtain rfl := Option.some.inj H
  go_enter Tryd.func32, Tryd.ntmps32
  go_wp2_with (first | ((with_reducible refine gate_dst (N := 2) rfl ?_); refine box_event ?hg (N := 2) ?hd (cs := #[.int .i64 a0_0, .int .u64 a0_1]) (t := 30) ?hr ?_; (case hd => rfl); (case hg => rfl); (case hr => first | (go_simp; done) | (go_simp; rfl)); intro gb135 hg w4 hbox hb; have BK135 := Goto.m0 (hbox); have GW135 := Goto.gs HB hg; have GE135 := Goto.gs HB hg; replace HB := Goto.hs HB hb; clear hb hbox hg) | ((with_reducible refine gate_dst (N := 3) rfl ?_); refine box_event ?hg (N := 3) ?hd (cs := #[.int .i64 a1_0, .int .u64 a1_1]) (t := 30) ?hr ?_; (case hd => rfl); (case hg => rfl); (case hr => first | (go_simp; done) | (go_simp; rfl)); intro gb136 hg w5 hbox hb; have BK136 := Goto.m0 (hbox); have GW136 := Goto.gs HB hg; have GE136 := Goto.gs HB hg; have NB135_136 := Goto.nl BK135 hg; have NB136_135 := Goto.nr BK135 hg; replace BK135 := Goto.bb BK135 hb; replace HB := Goto.hs HB hb; clear hb hbox hg; have hnb6 := NB135_136.out; have hnc6 := NB136_135.out; have hcz7_0 := Goto.bc0 BK135; have hcz7_1 := Goto.bc1 BK135; have hfz7_0 := Goto.bf BK135 0; have hfz7_1 := Goto.bf BK135 1; have hcz8_0 := Goto.bc0 BK136; have hcz8_1 := Goto.bc1 BK136; have hfz8_0 := Goto.bf BK136 0; have hfz8_1 := Goto.bf BK136 1))
  go_ret
  exact ⟨Goto.er, by repeat (first | (with_reducible first | exact HB.out | apply below_alloc | apply pw_below_drewN | apply below_drew1 | refine below_set ?_ GE135.out | refine below_set ?_ GE136.out) | exact HB.out)⟩
 ·
  rw [if_neg c3] at H
  have c3b0 : decide (a0_0 ≤ a1_0) = false := decide_eq_false c3
  clear c3
  obtain rfl := Option.some.inj H
  go_enter Tryd.func32, Tryd.ntmps32
  go_wp2_with (first | ((with_reducible refine gate_dst (N := 2) rfl ?_); refine box_event ?hg (N := 2) ?hd (cs := #[.int .i64 a0_0, .int .u64 a0_1]) (t := 30) ?hr ?_; (case hd => rfl); (case hg => rfl); (case hr => first | (go_simp; done) | (go_simp; rfl)); intro gb135 hg w9 hbox hb; have BK135 := Goto.m0 (hbox); have GW135 := Goto.gs HB hg; have GE135 := Goto.gs HB hg; replace HB := Goto.hs HB hb; clear hb hbox hg) | ((with_reducible refine gate_dst (N := 3) rfl ?_); refine box_event ?hg (N := 3) ?hd (cs := #[.int .i64 a1_0, .int .u64 a1_1]) (t := 30) ?hr ?_; (case hd => rfl); (case hg => rfl); (case hr => first | (go_simp; done) | (go_simp; rfl)); intro gb136 hg w10 hbox hb; have BK136 := Goto.m0 (hbox); have GW136 := Goto.gs HB hg; have GE136 := Goto.gs HB hg; have NB135_136 := Goto.nl BK135 hg; have NB136_135 := Goto.nr BK135 hg; replace BK135 := Goto.bb BK135 hb; replace HB := Goto.hs HB hb; clear hb hbox hg; have hnb11 := NB135_136.out; have hnc11 := NB136_135.out; have hcz12_0 := Goto.bc0 BK135; have hcz12_1 := Goto.bc1 BK135; have hfz12_0 := Goto.bf BK135 0; have hfz12_1 := Goto.bf BK135 1; have hcz13_0 := Goto.bc0 BK136; have hcz13_1 := Goto.bc1 BK136; have hfz13_0 := Goto.bf BK136 0; have hfz13_1 := Goto.bf BK136 1))
  go_ret
  exact ⟨Goto.er, by repeat (first | (with_reducible first | exact HB.out | apply below_alloc | apply pw_below_drewN | apply below_drew1 | refine below_set ?_ GE135.out | refine below_set ?_ GE136.out) | exact HB.out)⟩

/-! ### trace_Below: function 16 -/
def trace_Below.l0 : Nat → List Int → Int → Int → Int → Int → List (List Int) → List (S46) → Int → Int → Option (List Int)
  | 0, _, _, _, _, _, _, _, _, _ => none
  | k + 1, x7, x14, x15, x138000, x138001, x138002, x138003, x139000, x139001 => if x15 < x14 then (if 0 ≤ x15 then (if x15 < (x138003.length : Int) then ((label_Leq.f ((rd_T46 x138003 x15).f0.f0) ((rd_T46 x138003 x15).f0.f1) x139000 x139001).bind fun t140 => (if t140 = true then (if x7.length < 17592186044416 then (trace_Below.l0 k (x7 ++ [x15]) x14 (wrap64 (x15 + 1)) x138000 x138001 x138002 x138003 x139000 x139001) else (none)) else (trace_Below.l0 k x7 x14 (wrap64 (x15 + 1)) x138000 x138001 x138002 x138003 x139000 x139001))) else (none)) else (none)) else (some x7)
def trace_Below.f (k : Nat) (a0_0 : Int) (a0_1 : Int) (l0_2 : List (List Int)) (l0_3 : List (S46)) (l1 : List (List (S35))) (a2_0 : Int) (a2_1 : Int) : Option (List Int) := trace_Below.l0 k ([] : List Int) (mn (l0_3.length : Int) (l1.length : Int)) 0 a0_0 a0_1 l0_2 l0_3 a2_0 a2_1
theorem trace_Below.mono_l : ∀ k, (∀ y0 y1 y2 y3 y4 y5 y6 y7 y8, LeO (trace_Below.l0 k y0 y1 y2 y3 y4 y5 y6 y7 y8) (trace_Below.l0 (k + 1) y0 y1 y2 y3 y4 y5 y6 y7 y8))
  | 0 => fun _ _ _ _ _ _ _ _ _ r h => by simp [trace_Below.l0] at h
  | k + 1 => by
    have ih0 := trace_Below.mono_l k
    · intro y0 y1 y2 y3 y4 y5 y6 y7 y8
      unfold trace_Below.l0
      repeat' first
      | (with_reducible exact ih0 _ _ _ _ _ _ _ _ _)
      | (with_reducible exact LeO.refl _)
      | (with_reducible exact LeO.none _)
      | (with_reducible refine LeO.ite ?_ ?_)
      | (with_reducible refine LeO.bind ?_ (fun _ => ?_))
      | exact ih0 _ _ _ _ _ _ _ _ _
      | exact LeO.none _
      | refine LeO.ite ?_ ?_
      | refine LeO.bind ?_ (fun _ => ?_)
theorem trace_Below.mono : ∀ a0 a1 a2 a3 a4 a5 a6 k, LeO (trace_Below.f k a0 a1 a2 a3 a4 a5 a6) (trace_Below.f (k + 1) a0 a1 a2 a3 a4 a5 a6) := by
 intro a0 a1 a2 a3 a4 a5 a6 k
 have ih0 := trace_Below.mono_l k
 unfold trace_Below.f
 repeat' first
   | (with_reducible exact ih0 _ _ _ _ _ _ _ _ _)
   | (with_reducible exact LeO.refl _)
   | (with_reducible exact LeO.none _)
   | (with_reducible refine LeO.ite ?_ ?_)
   | (with_reducible refine LeO.bind ?_ (fun _ => ?_))
   | exact ih0 _ _ _ _ _ _ _ _ _
   | exact LeO.none _
   | refine LeO.ite ?_ ?_
   | refine LeO.bind ?_ (fun _ => ?_)
def trace_Below.T5 : Bool × List (List Nat × List Nat) := (true, [([], []), ([0], [0]), ([], []), ([1, 2], [1, 2]), ([3], [3]), ([4], [4]), ([], []), ([5, 6], [5, 6])])
def trace_Below.B5 : List Nat := [0, 1, 0, 7, 15, 31, 0, 127]
theorem trace_Below.tab5 : rtab .any (opsOf Tryd.f16 5) = trace_Below.T5 := by kernel_rfl
theorem trace_Below.bits5 : waitsOk trace_Below.T5.2 trace_Below.B5 = true := by kernel_rfl
set_option maxHeartbeats 8000000 in
set_option maxRecDepth 100000 in
theorem trace_Below.calls (k : Nat) (a0_0 : Int) (a0_1 : Int) (A0_2 : Option Addr) (c0_2 : Nat) (l0_2 : List (List Int)) (A0_3 : Option Addr) (c0_3 : Nat) (l0_3 : List (S46)) (A1 : Option Addr) (c1 : Nat) (l1 : List (List (S35))) (a2_0 : Int) (a2_1 : Int) (r : List Int) (w : World) (hr0_2 : Kd.C (Kd.slice 3 (Kd.int .i64)) w A0_2 l0_2.length l0_2) (hc0_2 : l0_2.length ≤ c0_2) (hr0_3 : Kd.C k46 w A0_3 l0_3.length l0_3) (hc0_3 : l0_3.length ≤ c0_3) (hr1 : Kd.C (Kd.slice 35 k35) w A1 l1.length l1) (hc1 : l1.length ≤ c1) (h : trace_Below.f k a0_0 a0_1 l0_2 l0_3 l1 a2_0 a2_1 = some r) :
    Calls Tryd.prog 16 #[.agg #[.int .i64 a0_0, .int .i64 a0_1, .slice A0_2 l0_2.length c0_2, .slice A0_3 l0_3.length c0_3], .slice A1 l1.length c1, .agg #[.int .i64 a2_0, .int .u64 a2_1]] w fun e w' => ∃ v0_ : Value, e = .returned (v0_) ∧ Kd.R (Kd.int .i64) 3 w' w.heap.size (fun _ => True) v0_ r ∧ Below w.heap.size w w' := by
 have hu25 := Tryd.underlying25; have hu30 := Tryd.underlying30
 have HR0_2 := Goto.m0 hr0_2
 have HC0_2 := Goto.m0 hc0_2
 clear hr0_2 hc0_2
 have HR0_3 := Goto.m0 hr0_3
 have HC0_3 := Goto.m0 hc0_3
 clear hr0_3 hc0_3
 have HR1 := Goto.m0 hr1
 have HC1 := Goto.m0 hc1
 clear hr1 hc1
 have HB := Goto.m0 (Below.refl w.heap.size w)
 have H : (trace_Below.l0 k ([] : List Int) (mn (l0_3.length : Int) (l1.length : Int)) 0 a0_0 a0_1 l0_2 l0_3 a2_0 a2_1) = some r := h
 clear h
 obtain ⟨ji4, hji4⟩ : ∃ j_ : Int, (mn (l0_3.length : Int) (l1.length : Int)) = j_ := ⟨_, rfl⟩
 replace H : (trace_Below.l0 k ([] : List Int) ji4 0 a0_0 a0_1 l0_2 l0_3 a2_0 a2_1) = some r := by first | (rw [hji4] at H; exact H) | (simp only [hji4] at H ⊢; exact H)
 (try (have hji4l : 0 ≤ ji4 := by (rw [← hji4]; unfold mn; (repeat' split) <;> omega)))
 (try (have hji4m : 0 ≤ ji4 := by omega))
 have hji4_ : (if (l1.length : Int) < (l0_3.length : Int) then (l1.length : Int) else (l0_3.length : Int)) = ji4 := hji4
 (try (have hji4n := hji4_; simp only [Int.ofNat_lt] at hji4n))
 have H' := Goto.m0 H
 clear H
 go_enter Tryd.func16, Tryd.ntmps16
 go_wp2_with (first | ((with_reducible refine gate_dst (N := 3) rfl ?_); refine box_event ?hg (N := 3) ?hd (cs := #[.int .i64 a0_0, .int .i64 a0_1, .slice A0_2 l0_2.length c0_2, .slice A0_3 l0_3.length c0_3]) (t := 25) ?hr ?_; (case hd => rfl); (case hg => rfl); (case hr => first | (go_simp; done) | (go_simp; rfl)); intro gb137 hg w5 hbox hb; have BK137 := Goto.m0 (hbox); have GW137 := Goto.gs HB hg; have GE137 := Goto.gs HB hg; replace HB := Goto.hs HB hb; clear hb hbox hg) | ((with_reducible refine gate_dst (N := 5) rfl ?_); refine box_event ?hg (N := 5) ?hd (cs := #[.int .i64 a2_0, .int .u64 a2_1]) (t := 30) ?hr ?_; (case hd => rfl); (case hg => rfl); (case hr => first | (go_simp; done) | (go_simp; rfl)); intro gb138 hg w6 hbox hb; have BK138 := Goto.m0 (hbox); have GW138 := Goto.gs HB hg; have GE138 := Goto.gs HB hg; have NB137_138 := Goto.nl BK137 hg; have NB138_137 := Goto.nr BK137 hg; replace BK137 := Goto.bb BK137 hb; replace HB := Goto.hs HB hb; clear hb hbox hg; have hnb7 := NB137_138.out; have hnc7 := NB138_137.out; have hcz8_0 := Goto.bc0 BK137; have hcz8_1 := Goto.bc1 BK137; have hcz8_2 := Goto.bc2 BK137; have hcz8_3 := Goto.bc3 BK137; have hfz8_0 := Goto.bf BK137 0; have hfz8_1 := Goto.bf BK137 1; have hfz8_2 := Goto.bf BK137 2; have hfz8_3 := Goto.bf BK137 3))
 go_loopg [7, 15] k (fun kq v7 v15 w' => ∃ (x7_1 : List Int) (x15_1 : Int), v15 = .int .i64 x15_1 ∧ Aside0 (trace_Below.l0 kq x7_1 ji4 x15_1 a0_0 a0_1 l0_2 l0_3 a2_0 a2_1 = some r) ∧ Aside0 (kq ≤ k) ∧ Aside0 (Kd.R (Kd.int .i64) 3 w' w.heap.size (fun _ => True) v7 x7_1) ∧ Aside0 (w'.heap[gb137]? = some (.cells #[.int .i64 a0_0, .int .i64 a0_1, (.slice A0_2 l0_2.length c0_2), (.slice A0_3 l0_3.length c0_3)] 25 (0, 0))) ∧ Aside0 (w'.heap[gb138]? = some (.cells #[.int .i64 a2_0, .int .u64 a2_1] 30 (0, 0))) ∧ Aside0 (Below w.heap.size w w'))
 case atStart => exact ⟨(([] : List Int)), (0), (by first | rfl | (simp; done) | (simp [*]; done)), H', ⟨Nat.le_refl _⟩, ⟨by first | exact Kd.R_nil _ _ _ _ _ | exact Kd.N_nil _ _ _ _ _ | exact Kd.V_nil _ _ _ _ _ | exact Kd.Q_nil _ _ _ _ _ | exact Kd.S_nil _ _ _ _ _⟩, ⟨Goto.bx BK137⟩, ⟨Goto.bx BK138⟩, ⟨Goto.hx HB⟩⟩
 case round =>
  clear H'
  try clear c1; try clear p2; try clear c7; try clear hcz8_0; try clear hcz8_1; try clear hcz8_2; try clear hcz8_3; try clear hfz8_0; try clear hfz8_1; try clear hfz8_2; try clear hfz8_3
  obtain ⟨x7_1, x15_1, rfl, HA, HK1, HO_7, BK137, BK138, HB⟩ := hrel
  cases gk with
  | zero => exact absurd HA.out (by simp [trace_Below.l0])
  | succ k1 =>
   have H := HA.out; clear HA
   simp only [trace_Below.l0] at H
   by_cases c9 : x15_1 < ji4
   ·
    rw [if_pos c9] at H
    have c9b0 : decide (x15_1 < ji4) = true := decide_eq_true c9
    clear c9
    by_cases c10 : 0 ≤ x15_1
    ·
     rw [if_pos c10] at H
     have c10b0 : decide (0 ≤ x15_1) = true := decide_eq_true c10
     clear c10
     by_cases c11 : x15_1 < (l0_3.length : Int)
     ·
      rw [if_pos c11] at H
      have c11b0 : decide (x15_1 < (l0_3.length : Int)) = true := decide_eq_true c11
      clear c11
      replace H := Option.bind_eq_some_iff.mp H
      obtain ⟨t140, A120, H⟩ := H
      have A12 := Goto.m0 A120
      clear A120
      by_cases c13 : t140 = true
      ·
       subst c13
       rw [if_pos rfl] at H
       by_cases c14 : x7_1.length < 17592186044416
       ·
        rw [if_pos c14] at H
        have LMc14 := Goto.m0 c14
        clear c14
        obtain ⟨y141, hy141⟩ : ∃ y_ : List Int, y_ = (x7_1 ++ [x15_1]) := ⟨_, rfl⟩
        replace H : (trace_Below.l0 k1 y141 ji4 (wrap64 (x15_1 + 1)) a0_0 a0_1 l0_2 l0_3 a2_0 a2_1) = some r := by first | (rw [hy141]; with_reducible exact H) | (have H2_ := (Option.bind_some _ _).symm.trans H; rw [hy141]; with_reducible exact H2_) | (have H2_ := (Option.bind_some _ _).symm.trans H; with_reducible exact H2_) | with_reducible exact H | (rw [hy141]; exact H) | exact H
        have Ny141 := Goto.m0 hy141
        clear hy141
        have H' := Goto.m0 H
        clear H
        try go_wp2
        replace HO_7 := Goto.m0 (Kd.R_drew HO_7.out); replace BK137 := Goto.m0 (blk_drew BK137.out); replace BK138 := Goto.m0 (blk_drew BK138.out); replace HB := Goto.m0 (below_drew1 HB.out)
        have p139 : 0 ≤ (x15_1 : Int) := Goto.od
        have q139 : x15_1 < (l0_3.length : Int) := Goto.od
        obtain ⟨ad139, A139_2, c139_2, A139_3, c139_3, e139, hx139_0, hx139_1, hx139_2, hx139_3, hx139_4, hx139_5, hx139_6, hx139_7, hx139_8, hx139_9, hl139_2, hi139_2, hl139_3, hi139_3⟩ := at_T46 HR0_3.out x15_1 p139 q139
        have hw139_9 := hx139_9; have hw139_8 := hx139_8; have hw139_7 := hx139_7; have hw139_6 := hx139_6; have hw139_5 := hx139_5; have hw139_4 := hx139_4; have hw139_3 := hx139_3; have hw139_2 := hx139_2; have hw139_1 := hx139_1; have hw139_0 := hx139_0
        cases e139
        replace hx139_0 := Goto.kc HB.out hx139_0
        replace hx139_1 := Goto.kc HB.out hx139_1
        replace hx139_2 := Goto.kc HB.out hx139_2
        replace hx139_3 := Goto.kc HB.out hx139_3
        replace hx139_4 := Goto.kc HB.out hx139_4
        replace hx139_5 := Goto.kc HB.out hx139_5
        replace hx139_6 := Goto.kc HB.out hx139_6
        replace hx139_7 := Goto.kc HB.out hx139_7
        replace hx139_8 := Goto.kc HB.out hx139_8
        replace hx139_9 := Goto.kc HB.out hx139_9
        have HR139_2 := Goto.m0 hi139_2
        have HC139_2 := Goto.m0 hl139_2
        clear hi139_2 hl139_2
        have HR139_3 := Goto.m0 hi139_3
        have HC139_3 := Goto.m0 hl139_3
        clear hi139_3 hl139_3; replace p139 := eq_true p139; replace q139 := eq_true q139
        refine start_ (n := 8) (S := fun w' => w'.cell? ⟨gb137, 0, none⟩ = some (.int .i64 a0_0) ∧ w'.cell? ⟨gb137, 1, none⟩ = some (.int .i64 a0_1) ∧ w'.cell? ⟨gb137, 2, none⟩ = some (.slice A0_2 l0_2.length c0_2) ∧ w'.cell? ⟨gb137, 3, none⟩ = some (.slice (some ad139) l0_3.length c0_3) ∧ w'.cell? ⟨gb138, 0, none⟩ = some (.int .i64 a2_0) ∧ w'.cell? ⟨gb138, 1, none⟩ = some (.int .u64 a2_1) ∧ w'.cell? (ad139.add ((x15_1).toNat * 10)) = some (.int .i64 ((rd_T46 l0_3 x15_1).f0.f0)) ∧ w'.cell? ⟨(ad139.add ((x15_1).toNat * 10)).block, (ad139.add ((x15_1).toNat * 10)).off + 1, none⟩ = some (.int .u64 ((rd_T46 l0_3 x15_1).f0.f1)) ∧ w'.cell? ⟨(ad139.add ((x15_1).toNat * 10)).block, (ad139.add ((x15_1).toNat * 10)).off + 2, none⟩ = some (.slice A139_2 ((rd_T46 l0_3 x15_1).f1).length c139_2) ∧ w'.cell? ⟨(ad139.add ((x15_1).toNat * 10)).block, (ad139.add ((x15_1).toNat * 10)).off + 3, none⟩ = some (.slice A139_3 ((rd_T46 l0_3 x15_1).f2).length c139_3) ∧ w'.cell? ⟨(ad139.add ((x15_1).toNat * 10)).block, (ad139.add ((x15_1).toNat * 10)).off + 4, none⟩ = some (.int .i64 ((rd_T46 l0_3 x15_1).f3)) ∧ w'.cell? ⟨(ad139.add ((x15_1).toNat * 10)).block, (ad139.add ((x15_1).toNat * 10)).off + 5, none⟩ = some (.int .i64 ((rd_T46 l0_3 x15_1).f4)) ∧ w'.cell? ⟨(ad139.add ((x15_1).toNat * 10)).block, (ad139.add ((x15_1).toNat * 10)).off + 6, none⟩ = some (.int .i64 ((rd_T46 l0_3 x15_1).f5)) ∧ w'.cell? ⟨(ad139.add ((x15_1).toNat * 10)).block, (ad139.add ((x15_1).toNat * 10)).off + 7, none⟩ = some (.int .i64 ((rd_T46 l0_3 x15_1).f6)) ∧ w'.cell? ⟨(ad139.add ((x15_1).toNat * 10)).block, (ad139.add ((x15_1).toNat * 10)).off + 8, none⟩ = some (.int .i64 ((rd_T46 l0_3 x15_1).f7)) ∧ w'.cell? ⟨(ad139.add ((x15_1).toNat * 10)).block, (ad139.add ((x15_1).toNat * 10)).off + 9, none⟩ = some (.int .i64 ((rd_T46 l0_3 x15_1).f8))) (ds := []) (.replicate 8 false) (by kernel_rfl) rfl rfl ⟨(blk_cell BK137.out 0).trans rfl, (blk_cell BK137.out 1).trans rfl, (blk_cell BK137.out 2).trans rfl, (blk_cell BK137.out 3).trans rfl, (blk_cell BK138.out 0).trans rfl, (blk_cell BK138.out 1).trans rfl, (Goto.kc HB.out hw139_0), (Goto.kc HB.out hw139_1), (Goto.kc HB.out hw139_2), (Goto.kc HB.out hw139_3), (Goto.kc HB.out hw139_4), (Goto.kc HB.out hw139_5), (Goto.kc HB.out hw139_6), (Goto.kc HB.out hw139_7), (Goto.kc HB.out hw139_8), (Goto.kc HB.out hw139_9)⟩ (fun hHeld => ?_); refine with_tabW trace_Below.tab5 trace_Below.bits5 (fun HT_ HW_ => ?_)
        generalize wr.drew = w15 at HO_7 BK137 BK138 HB HR139_2 HR139_3 hx139_0 hx139_1 hx139_2 hx139_3 hx139_4 hx139_5 hx139_6 hx139_7 hx139_8 hx139_9 hHeld ⊢
        refine Goto.pu 0 18 8 1 ?_
        refine Goto.pu 2 20 8 5 ?_
        refine take_ (i := 1) (N := some 19) (v := ?_) (a' := ?_) (Goto.bs 8 7) rfl rfl (take_ofW HT_.out HW_.out (by kernel_rfl)) (fun _ _ _ h => h) (Or.inl ⟨by rfl, ?_⟩) hHeld ?_ ?_
        rotate_left
        ·
         rintro w' ⟨s0, s1, s2, s3, s4, s5, s6, s7, s8, s9, s10, s11, s12, s13, s14, s15⟩
         go_simp
         with_reducible rfl
        rotate_left
        ·
         exact Goto.ap
        refine Goto.pu 3 21 8 15 ?_
        refine Goto.pu 4 22 8 31 ?_
        refine take_ (i := 5) (N := some 23) (v := ?_) (a' := ?_) (Goto.bs 8 63) rfl rfl (take_ofW HT_.out HW_.out (by kernel_rfl)) (fun _ _ _ h => h) (Or.inl ⟨by rfl, ?_⟩) hHeld ?_ ?_
        rotate_left
        ·
         rintro w' ⟨s0, s1, s2, s3, s4, s5, s6, s7, s8, s9, s10, s11, s12, s13, s14, s15⟩
         go_simp
         with_reducible rfl
        rotate_left
        ·
         exact Goto.ap
        refine take_ (i := 6) (N := some 24) (v := ?_) (a' := ?_) (Goto.bs 8 127) rfl rfl (take_ofW HT_.out HW_.out (by kernel_rfl)) (fun _ _ _ h => h) (Or.inl ⟨by rfl, ?_⟩) hHeld ?_ ?_
        rotate_left
        ·
         rintro w' ⟨s0, s1, s2, s3, s4, s5, s6, s7, s8, s9, s10, s11, s12, s13, s14, s15⟩
         go_simp
         with_reducible rfl
        rotate_left
        ·
         exact Goto.ap
        refine one_ (i := 7) (N := some 25) (Goto.bs 8 255) rfl rfl (one_of HT_.out (by kernel_rfl)) (by decide) (fun K hK => ?_)
        refine goes_ Tryd.func32 (by kernel_rfl) rfl #[.agg #[.int .i64 ((rd_T46 l0_3 x15_1).f0.f0), .int .u64 ((rd_T46 l0_3 x15_1).f0.f1)], .agg #[.int .i64 a2_0, .int .u64 a2_1]] (by rfl) rfl rfl (by (try simp only [List.map_toArray, List.map_cons, List.map_nil]); first | done | rfl | (simp only [List.length_drop, List.length_take]; rfl)) ?_
        with_reducible refine (label_Leq.calls ((rd_T46 l0_3 x15_1).f0.f0) ((rd_T46 l0_3 x15_1).f0.f1) a2_0 a2_1 true _ A12.out).mono ?_
        rintro e w16 ⟨rfl, hb⟩
        refine ⟨_, rfl, ?_⟩
        replace HO_7 := Goto.m0 (Kd.R_below (Goto.rk HO_7) hb); replace BK137 := Goto.bb BK137 hb; replace BK138 := Goto.bb BK138 hb; replace HB := Goto.hs HB hb
        (try clear hb)
        (try clear hb2)
        (try clear hk)
        (try clear hi)
        refine hK.out _ _ ⟨(blk_cell BK137.out 0).trans rfl, (blk_cell BK137.out 1).trans rfl, (blk_cell BK137.out 2).trans rfl, (blk_cell BK137.out 3).trans rfl, (blk_cell BK138.out 0).trans rfl, (blk_cell BK138.out 1).trans rfl, (Goto.kc HB.out hw139_0), (Goto.kc HB.out hw139_1), (Goto.kc HB.out hw139_2), (Goto.kc HB.out hw139_3), (Goto.kc HB.out hw139_4), (Goto.kc HB.out hw139_5), (Goto.kc HB.out hw139_6), (Goto.kc HB.out hw139_7), (Goto.kc HB.out hw139_8), (Goto.kc HB.out hw139_9)⟩ (fun hHeld => ?_)
        clear hK K
        refine norm_ (a' := ?_) ?_ ?_
        rotate_left
        ·
         show Act.put _ (some 25) _ = _
         exact Goto.ap
        refine done_ (done_of HT_.out (by kernel_rfl)) ?_
        try go_wp2_with (first | ((with_reducible refine gate_builtin (b := .append) (xs := #[.tmp 26, .tmp 28]) rfl ?_); at_builtin; refine Kd.R_append (Kd.int .i64) (w0 := w) w.heap.size rfl (.tmp 26) (.tmp 28) 39 3 (.int .i64 0) 8 rfl Tryd.underlying39 info3 rfl (by decide) (by omega) u7 x7_1 x15_1 [.int .i64 x15_1] (fun _ => True) (fun _ => False) rfl rfl ?aP (fun _ hk => hk.elim) ?aF ?aO ?aB ?aS ?aL ?_; (case aP => exact rfl); (case aB => exact (Goto.hx HB)); (case aF => exact (fun _ _ => trivial)); (case aO => exact (Goto.rk HO_7)); (case aS => exact (below_size (Goto.hx HB))); (case aL => have := LMc14.out; omega); intro v142 w17 ho hb hg hat; rw [← Ny141.out] at ho; have n0_ := Goto.m0 (blk_grown (g := gb137) (o := .cells #[.int .i64 a0_0, .int .i64 a0_1, .slice A0_2 l0_2.length c0_2, .slice (some ad139) l0_3.length c0_3] 25 (0, 0)) (Goto.bx BK137) hg (Kd.R_ne HO_7.out BK137.out (by decide))); have n1_ := Goto.m0 (blk_grown (g := gb138) (o := .cells #[.int .i64 a2_0, .int .u64 a2_1] 30 (0, 0)) (Goto.bx BK138) hg (Kd.R_ne HO_7.out BK138.out (by decide))); have n2_ := Goto.m0 (hb); have n3_ := Goto.m0 (ho); clear BK137; clear BK138; clear HB; clear HO_7; have BK137 := n0_; have BK138 := n1_; have HB := n2_; have HO143 := n3_; clear n0_ n1_ n2_ n3_; clear ho hb hg hat))
        go_roundg k1
        case measure => have := HK1.out; omega
        case rel => exact ⟨(y141), (wrap64 (x15_1 + 1)), (by first | rfl | (simp; done) | (simp [*]; done)), H', ⟨by have := HK1.out; omega⟩, ⟨Goto.rk HO143⟩, ⟨Goto.bx BK137⟩, ⟨Goto.bx BK138⟩, ⟨Goto.hx HB⟩⟩
       ·
        rw [if_neg c14] at H
        exact absurd H (by simp)
      ·
       replace c13 := Bool.eq_false_iff.mpr c13
       subst c13
       rw [if_neg (show ¬ (false = true) by decide)] at H
       have H' := Goto.m0 H
       clear H
       try go_wp2
       replace HO_7 := Goto.m0 (Kd.R_drew HO_7.out); replace BK137 := Goto.m0 (blk_drew BK137.out); replace BK138 := Goto.m0 (blk_drew BK138.out); replace HB := Goto.m0 (below_drew1 HB.out)
       have p139 : 0 ≤ (x15_1 : Int) := Goto.od
       have q139 : x15_1 < (l0_3.length : Int) := Goto.od
       obtain ⟨ad139, A139_2, c139_2, A139_3, c139_3, e139, hx139_0, hx139_1, hx139_2, hx139_3, hx139_4, hx139_5, hx139_6, hx139_7, hx139_8, hx139_9, hl139_2, hi139_2, hl139_3, hi139_3⟩ := at_T46 HR0_3.out x15_1 p139 q139
       have hw139_9 := hx139_9; have hw139_8 := hx139_8; have hw139_7 := hx139_7; have hw139_6 := hx139_6; have hw139_5 := hx139_5; have hw139_4 := hx139_4; have hw139_3 := hx139_3; have hw139_2 := hx139_2; have hw139_1 := hx139_1; have hw139_0 := hx139_0
       cases e139
       replace hx139_0 := Goto.kc HB.out hx139_0
       replace hx139_1 := Goto.kc HB.out hx139_1
       replace hx139_2 := Goto.kc HB.out hx139_2
       replace hx139_3 := Goto.kc HB.out hx139_3
       replace hx139_4 := Goto.kc HB.out hx139_4
       replace hx139_5 := Goto.kc HB.out hx139_5
       replace hx139_6 := Goto.kc HB.out hx139_6
       replace hx139_7 := Goto.kc HB.out hx139_7
       replace hx139_8 := Goto.kc HB.out hx139_8
       replace hx139_9 := Goto.kc HB.out hx139_9
       have HR139_2 := Goto.m0 hi139_2
       have HC139_2 := Goto.m0 hl139_2
       clear hi139_2 hl139_2
       have HR139_3 := Goto.m0 hi139_3
       have HC139_3 := Goto.m0 hl139_3
       clear hi139_3 hl139_3; replace p139 := eq_true p139; replace q139 := eq_true q139
       refine start_ (n := 8) (S := fun w' => w'.cell? ⟨gb137, 0, none⟩ = some (.int .i64 a0_0) ∧ w'.cell? ⟨gb137, 1, none⟩ = some (.int .i64 a0_1) ∧ w'.cell? ⟨gb137, 2, none⟩ = some (.slice A0_2 l0_2.length c0_2) ∧ w'.cell? ⟨gb137, 3, none⟩ = some (.slice (some ad139) l0_3.length c0_3) ∧ w'.cell? ⟨gb138, 0, none⟩ = some (.int .i64 a2_0) ∧ w'.cell? ⟨gb138, 1, none⟩ = some (.int .u64 a2_1) ∧ w'.cell? (ad139.add ((x15_1).toNat * 10)) = some (.int .i64 ((rd_T46 l0_3 x15_1).f0.f0)) ∧ w'.cell? ⟨(ad139.add ((x15_1).toNat * 10)).block, (ad139.add ((x15_1).toNat * 10)).off + 1, none⟩ = some (.int .u64 ((rd_T46 l0_3 x15_1).f0.f1)) ∧ w'.cell? ⟨(ad139.add ((x15_1).toNat * 10)).block, (ad139.add ((x15_1).toNat * 10)).off + 2, none⟩ = some (.slice A139_2 ((rd_T46 l0_3 x15_1).f1).length c139_2) ∧ w'.cell? ⟨(ad139.add ((x15_1).toNat * 10)).block, (ad139.add ((x15_1).toNat * 10)).off + 3, none⟩ = some (.slice A139_3 ((rd_T46 l0_3 x15_1).f2).length c139_3) ∧ w'.cell? ⟨(ad139.add ((x15_1).toNat * 10)).block, (ad139.add ((x15_1).toNat * 10)).off + 4, none⟩ = some (.int .i64 ((rd_T46 l0_3 x15_1).f3)) ∧ w'.cell? ⟨(ad139.add ((x15_1).toNat * 10)).block, (ad139.add ((x15_1).toNat * 10)).off + 5, none⟩ = some (.int .i64 ((rd_T46 l0_3 x15_1).f4)) ∧ w'.cell? ⟨(ad139.add ((x15_1).toNat * 10)).block, (ad139.add ((x15_1).toNat * 10)).off + 6, none⟩ = some (.int .i64 ((rd_T46 l0_3 x15_1).f5)) ∧ w'.cell? ⟨(ad139.add ((x15_1).toNat * 10)).block, (ad139.add ((x15_1).toNat * 10)).off + 7, none⟩ = some (.int .i64 ((rd_T46 l0_3 x15_1).f6)) ∧ w'.cell? ⟨(ad139.add ((x15_1).toNat * 10)).block, (ad139.add ((x15_1).toNat * 10)).off + 8, none⟩ = some (.int .i64 ((rd_T46 l0_3 x15_1).f7)) ∧ w'.cell? ⟨(ad139.add ((x15_1).toNat * 10)).block, (ad139.add ((x15_1).toNat * 10)).off + 9, none⟩ = some (.int .i64 ((rd_T46 l0_3 x15_1).f8))) (ds := []) (.replicate 8 false) (by kernel_rfl) rfl rfl ⟨(blk_cell BK137.out 0).trans rfl, (blk_cell BK137.out 1).trans rfl, (blk_cell BK137.out 2).trans rfl, (blk_cell BK137.out 3).trans rfl, (blk_cell BK138.out 0).trans rfl, (blk_cell BK138.out 1).trans rfl, (Goto.kc HB.out hw139_0), (Goto.kc HB.out hw139_1), (Goto.kc HB.out hw139_2), (Goto.kc HB.out hw139_3), (Goto.kc HB.out hw139_4), (Goto.kc HB.out hw139_5), (Goto.kc HB.out hw139_6), (Goto.kc HB.out hw139_7), (Goto.kc HB.out hw139_8), (Goto.kc HB.out hw139_9)⟩ (fun hHeld => ?_); refine with_tabW trace_Below.tab5 trace_Below.bits5 (fun HT_ HW_ => ?_)
       generalize wr.drew = w18 at HO_7 BK137 BK138 HB HR139_2 HR139_3 hx139_0 hx139_1 hx139_2 hx139_3 hx139_4 hx139_5 hx139_6 hx139_7 hx139_8 hx139_9 hHeld ⊢
       refine Goto.pu 0 18 8 1 ?_
       refine Goto.pu 2 20 8 5 ?_
       refine take_ (i := 1) (N := some 19) (v := ?_) (a' := ?_) (Goto.bs 8 7) rfl rfl (take_ofW HT_.out HW_.out (by kernel_rfl)) (fun _ _ _ h => h) (Or.inl ⟨by rfl, ?_⟩) hHeld ?_ ?_
       rotate_left
       ·
        rintro w' ⟨s0, s1, s2, s3, s4, s5, s6, s7, s8, s9, s10, s11, s12, s13, s14, s15⟩
        go_simp
        with_reducible rfl
       rotate_left
       ·
        exact Goto.ap
       refine Goto.pu 3 21 8 15 ?_
       refine Goto.pu 4 22 8 31 ?_
       refine take_ (i := 5) (N := some 23) (v := ?_) (a' := ?_) (Goto.bs 8 63) rfl rfl (take_ofW HT_.out HW_.out (by kernel_rfl)) (fun _ _ _ h => h) (Or.inl ⟨by rfl, ?_⟩) hHeld ?_ ?_
       rotate_left
       ·
        rintro w' ⟨s0, s1, s2, s3, s4, s5, s6, s7, s8, s9, s10, s11, s12, s13, s14, s15⟩
        go_simp
        with_reducible rfl
       rotate_left
       ·
        exact Goto.ap
       refine take_ (i := 6) (N := some 24) (v := ?_) (a' := ?_) (Goto.bs 8 127) rfl rfl (take_ofW HT_.out HW_.out (by kernel_rfl)) (fun _ _ _ h => h) (Or.inl ⟨by rfl, ?_⟩) hHeld ?_ ?_
       rotate_left
       ·
        rintro w' ⟨s0, s1, s2, s3, s4, s5, s6, s7, s8, s9, s10, s11, s12, s13, s14, s15⟩
        go_simp
        with_reducible rfl
       rotate_left
       ·
        exact Goto.ap
       refine one_ (i := 7) (N := some 25) (Goto.bs 8 255) rfl rfl (one_of HT_.out (by kernel_rfl)) (by decide) (fun K hK => ?_)
       refine goes_ Tryd.func32 (by kernel_rfl) rfl #[.agg #[.int .i64 ((rd_T46 l0_3 x15_1).f0.f0), .int .u64 ((rd_T46 l0_3 x15_1).f0.f1)], .agg #[.int .i64 a2_0, .int .u64 a2_1]] (by rfl) rfl rfl (by (try simp only [List.map_toArray, List.map_cons, List.map_nil]); first | done | rfl | (simp only [List.length_drop, List.length_take]; rfl)) ?_
       with_reducible refine (label_Leq.calls ((rd_T46 l0_3 x15_1).f0.f0) ((rd_T46 l0_3 x15_1).f0.f1) a2_0 a2_1 false _ A12.out).mono ?_
       rintro e w19 ⟨rfl, hb⟩
       refine ⟨_, rfl, ?_⟩
       replace HO_7 := Goto.m0 (Kd.R_below (Goto.rk HO_7) hb); replace BK137 := Goto.bb BK137 hb; replace BK138 := Goto.bb BK138 hb; replace HB := Goto.hs HB hb
       (try clear hb)
       (try clear hb2)
       (try clear hk)
       (try clear hi)
       refine hK.out _ _ ⟨(blk_cell BK137.out 0).trans rfl, (blk_cell BK137.out 1).trans rfl, (blk_cell BK137.out 2).trans rfl, (blk_cell BK137.out 3).trans rfl, (blk_cell BK138.out 0).trans rfl, (blk_cell BK138.out 1).trans rfl, (Goto.kc HB.out hw139_0), (Goto.kc HB.out hw139_1), (Goto.kc HB.out hw139_2), (Goto.kc HB.out hw139_3), (Goto.kc HB.out hw139_4), (Goto.kc HB.out hw139_5), (Goto.kc HB.out hw139_6), (Goto.kc HB.out hw139_7), (Goto.kc HB.out hw139_8), (Goto.kc HB.out hw139_9)⟩ (fun hHeld => ?_)
       clear hK K
       refine norm_ (a' := ?_) ?_ ?_
       rotate_left
       ·
        show Act.put _ (some 25) _ = _
        exact Goto.ap
       refine done_ (done_of HT_.out (by kernel_rfl)) ?_
       try go_wp2
       go_roundg k1
       case measure => have := HK1.out; omega
       case rel => exact ⟨(x7_1), (wrap64 (x15_1 + 1)), (by first | rfl | (simp; done) | (simp [*]; done)), H', ⟨by have := HK1.out; omega⟩, ⟨Goto.rk HO_7⟩, ⟨Goto.bx BK137⟩, ⟨Goto.bx BK138⟩, ⟨Goto.hx HB⟩⟩
     ·
      rw [if_neg c11] at H
      exact absurd H (by simp)
    ·
     rw [if_neg c10] at H
     exact absurd H (by simp)
   ·
    rw [if_neg c9] at H
    have c9b0 : decide (x15_1 < ji4) = false := decide_eq_false c9
    clear c9
    obtain rfl := Option.some.inj H
    go_wp2
    go_ret
    exact ⟨_, by first | rfl | (simp [errW_none, errW_some] <;> rfl) | (simp only [← hji4]; first | rfl | (simp [errW_none, errW_some] <;> rfl)) | (simp [*, errW_none, errW_some] <;> rfl), Goto.rk HO_7, by repeat (first | (with_reducible first | exact HB.out | apply below_alloc | apply pw_below_drewN | apply below_drew1 | refine below_set ?_ GE137.out | refine below_set ?_ GE138.out) | exact HB.out)⟩

end Go.Proofs.YtlmllmbbdlkknaaDoor.P
