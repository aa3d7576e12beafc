/- Printed by a program of this workplace (a turned copy of the kit's optional print), out of the translation; not trusted: Lean checks it. -/
import Derived.Test.YtpbcamdjcnokfaaPx0
import Derived.Test.YtpbcamdjcnokfaaPx1
namespace Go.Proofs.Ytpbcamdjcnokfaa.P
open Go.RowKit Go.Proofs.YtpbcamdjcnokfaaW.PrintWords Go.Proofs.YtpbcamdjcnokfaaW.PrintLast Go.Proofs.YtpbcamdjcnokfaaW.PrintMore
attribute [local go_sem] max2_int min2_int max_two min_two max_three min_three max_four min_four   -- for this text's walks alone
set_option linter.unusedVariables false
set_option linter.unusedSimpArgs false

attribute [local go_sem high] eqA43
/-! ### tontineref15_SameRecords: function 31 -/
def tontineref15_SameRecords.l0 : Nat → List (S43) → List (S43) → Int → Option (Bool)
  | 0, _, _, _ => none
  | k + 1, x0, x1, x5 => if x5 < (x0.length : Int) then (if 0 ≤ x5 then (if x5 < (x1.length : Int) then (if (!(((rd_T43 x0 x5).f0) == ((rd_T43 x1 x5).f0)) || (!(((rd_T43 x0 x5).f1) == ((rd_T43 x1 x5).f1)) || (!(((rd_T43 x0 x5).f2) == ((rd_T43 x1 x5).f2)) || (!(((rd_T43 x0 x5).f3) == ((rd_T43 x1 x5).f3)))))) = true then (some false) else (tontineref15_SameRecords.l0 k x0 x1 (wrap64 (x5 + 1)))) else (none)) else (none)) else (some true)
def tontineref15_SameRecords.f (k : Nat) (l0 : List (S43)) (l1 : List (S43)) : Option (Bool) := if (l0.length : Int) = (l1.length : Int) then (tontineref15_SameRecords.l0 k l0 l1 0) else (some false)
theorem tontineref15_SameRecords.mono_l : ∀ k, (∀ y0 y1 y2, LeO (tontineref15_SameRecords.l0 k y0 y1 y2) (tontineref15_SameRecords.l0 (k + 1) y0 y1 y2))
  | 0 => fun _ _ _ r h => by simp [tontineref15_SameRecords.l0] at h
  | k + 1 => by
    have ih0 := tontineref15_SameRecords.mono_l k
    · intro y0 y1 y2
      unfold tontineref15_SameRecords.l0
      repeat' first
      | (with_reducible exact ih0 _ _ _)
      | (with_reducible exact LeO.refl _)
      | (with_reducible exact LeO.none _)
      | (with_reducible refine LeO.ite ?_ ?_)
      | (with_reducible refine LeO.bind ?_ (fun _ => ?_))
      | exact ih0 _ _ _
      | exact LeO.none _
      | refine LeO.ite ?_ ?_
      | refine LeO.bind ?_ (fun _ => ?_)
theorem tontineref15_SameRecords.mono : ∀ a0 a1 k, LeO (tontineref15_SameRecords.f k a0 a1) (tontineref15_SameRecords.f (k + 1) a0 a1) := by
 intro a0 a1 k
 have ih0 := tontineref15_SameRecords.mono_l k
 unfold tontineref15_SameRecords.f
 repeat' first
   | (with_reducible exact ih0 _ _ _)
   | (with_reducible exact LeO.refl _)
   | (with_reducible exact LeO.none _)
   | (with_reducible refine LeO.ite ?_ ?_)
   | (with_reducible refine LeO.bind ?_ (fun _ => ?_))
   | exact ih0 _ _ _
   | exact LeO.none _
   | refine LeO.ite ?_ ?_
   | refine LeO.bind ?_ (fun _ => ?_)
set_option maxHeartbeats 8000000 in
set_option maxRecDepth 100000 in
theorem tontineref15_SameRecords.calls (k : Nat) (A0 : Option Addr) (c0 : Nat) (l0 : List (S43)) (A1 : Option Addr) (c1 : Nat) (l1 : List (S43)) (r : Bool) (w : World) (hr0 : Kd.C k43 w A0 l0.length l0) (hc0 : l0.length ≤ c0) (hr1 : Kd.C k43 w A1 l1.length l1) (hc1 : l1.length ≤ c1) (h : tontineref15_SameRecords.f k l0 l1 = some r) :
    Calls Try.prog 31 #[.slice A0 l0.length c0, .slice A1 l1.length c1] w fun e w' => e = .returned (.bool r) ∧ Drawn0 w w' := by
 have hu43 := Try.underlying43
 have HR0 := Goto.m0 hr0
 have HC0 := Goto.m0 hc0
 clear hr0 hc0
 have HR1 := Goto.m0 hr1
 have HC1 := Goto.m0 hc1
 clear hr1 hc1
 have H : (if (l0.length : Int) = (l1.length : Int) then (tontineref15_SameRecords.l0 k l0 l1 0) else (some false)) = some r := h
 clear h
 by_cases c3 : (l0.length : Int) = (l1.length : Int)
 ·
  rw [if_pos c3] at H
  have c3b0 : ((l0.length : Int) == (l1.length : Int)) = true := beq_iff_eq.mpr c3
  have c3b1 : ((l0.length : Int) != (l1.length : Int)) = false := bne_eq_false_iff_eq.mpr c3
  have c3b2 : (l0.length == l1.length) = true := by first | simpa using c3 | (simp at c3 ⊢; omega)
  clear c3
  have H' := Goto.m0 H
  clear H
  go_enter Try.func31, Try.ntmps31
  go_wp2
  repeat (go_quiet (fail); try go_wp2)
  go_loopg [5] k (fun kq v5 w' => ∃ (x5_1 : Int), v5 = .int .i64 x5_1 ∧ Aside0 (tontineref15_SameRecords.l0 kq l0 l1 x5_1 = some r) ∧ Aside0 (kq ≤ k) ∧ Drawn0 w w')
  case atStart => exact ⟨(0), (by first | rfl | (simp; done) | (simp [*]; done)), H', ⟨Nat.le_refl _⟩, by repeat (first | exact Drawn0.refl _ | apply Drawn0.step)⟩
  case round =>
   clear H'
   try clear c1; try clear p2; try clear c3; try clear c3b0; try clear c3b1; try clear c3b2
   obtain ⟨x5_1, rfl, HA, HK1, ⟨m1, rfl⟩⟩ := hrel
   cases gk with
   | zero => exact absurd HA.out (by simp [tontineref15_SameRecords.l0])
   | succ k1 =>
    have H := HA.out; clear HA
    simp only [tontineref15_SameRecords.l0] at H
    by_cases c4 : x5_1 < (l0.length : Int)
    ·
     rw [if_pos c4] at H
     have c4b0 : decide (x5_1 < (l0.length : Int)) = true := decide_eq_true c4
     clear c4
     by_cases c5 : 0 ≤ x5_1
     ·
      rw [if_pos c5] at H
      have c5b0 : decide (0 ≤ x5_1) = true := decide_eq_true c5
      clear c5
      by_cases c6 : x5_1 < (l1.length : Int)
      ·
       rw [if_pos c6] at H
       have c6b0 : decide (x5_1 < (l1.length : Int)) = true := decide_eq_true c6
       clear c6
       by_cases c7 : (!(((rd_T43 l0 x5_1).f0) == ((rd_T43 l1 x5_1).f0)) || (!(((rd_T43 l0 x5_1).f1) == ((rd_T43 l1 x5_1).f1)) || (!(((rd_T43 l0 x5_1).f2) == ((rd_T43 l1 x5_1).f2)) || (!(((rd_T43 l0 x5_1).f3) == ((rd_T43 l1 x5_1).f3)))))) = true
       ·
        rw [if_pos c7] at H
        have c7b0 : (!(((rd_T43 l0 x5_1).f0) == ((rd_T43 l1 x5_1).f0)) || (!(((rd_T43 l0 x5_1).f1) == ((rd_T43 l1 x5_1).f1)) || (!(((rd_T43 l0 x5_1).f2) == ((rd_T43 l1 x5_1).f2)) || (!(((rd_T43 l0 x5_1).f3) == ((rd_T43 l1 x5_1).f3)))))) = true := c7
        clear c7
        obtain rfl := Option.some.inj H
        have p212 : 0 ≤ (x5_1 : Int) := of_decide_eq_true (by first | (with_reducible assumption) | assumption)
        have q212 : x5_1 < (l0.length : Int) := of_decide_eq_true (by first | (with_reducible assumption) | assumption)
        obtain ⟨ad212, e212, hx212_0, hx212_1, hx212_2, hx212_3⟩ := at_T43 HR0.out x5_1 p212 q212
        cases e212
        replace p212 := eq_true p212; replace q212 := eq_true q212
        have p213 : 0 ≤ (x5_1 : Int) := of_decide_eq_true (by first | (with_reducible assumption) | assumption)
        have q213 : x5_1 < (l1.length : Int) := of_decide_eq_true (by first | (with_reducible assumption) | assumption)
        obtain ⟨ad213, e213, hx213_0, hx213_1, hx213_2, hx213_3⟩ := at_T43 HR1.out x5_1 p213 q213
        cases e213
        replace p213 := eq_true p213; replace q213 := eq_true q213
        go_wp2
        repeat (go_quiet (fail); try go_wp2)
        go_ret
        exact ⟨by first | rfl | (simp; done) | (simp [*]; done), by repeat (first | exact Drawn0.refl _ | apply Drawn0.step)⟩
       ·
        rw [if_neg c7] at H
        have c7b0 : (!(((rd_T43 l0 x5_1).f0) == ((rd_T43 l1 x5_1).f0)) || (!(((rd_T43 l0 x5_1).f1) == ((rd_T43 l1 x5_1).f1)) || (!(((rd_T43 l0 x5_1).f2) == ((rd_T43 l1 x5_1).f2)) || (!(((rd_T43 l0 x5_1).f3) == ((rd_T43 l1 x5_1).f3)))))) = false := by simpa using c7
        clear c7
        have H' := Goto.m0 H
        clear H
        have p212 : 0 ≤ (x5_1 : Int) := of_decide_eq_true (by first | (with_reducible assumption) | assumption)
        have q212 : x5_1 < (l0.length : Int) := of_decide_eq_true (by first | (with_reducible assumption) | assumption)
        obtain ⟨ad212, e212, hx212_0, hx212_1, hx212_2, hx212_3⟩ := at_T43 HR0.out x5_1 p212 q212
        cases e212
        replace p212 := eq_true p212; replace q212 := eq_true q212
        have p213 : 0 ≤ (x5_1 : Int) := of_decide_eq_true (by first | (with_reducible assumption) | assumption)
        have q213 : x5_1 < (l1.length : Int) := of_decide_eq_true (by first | (with_reducible assumption) | assumption)
        obtain ⟨ad213, e213, hx213_0, hx213_1, hx213_2, hx213_3⟩ := at_T43 HR1.out x5_1 p213 q213
        cases e213
        replace p213 := eq_true p213; replace q213 := eq_true q213
        go_wp2
        repeat (go_quiet (fail); try go_wp2)
        go_roundg k1
        case measure => have := HK1.out; omega
        case rel => exact ⟨(wrap64 (x5_1 + 1)), (by first | rfl | (simp; done) | (simp [*]; done)), H', ⟨by have := HK1.out; omega⟩, by repeat (first | exact Drawn0.refl _ | apply Drawn0.step)⟩
      ·
       rw [if_neg c6] at H
       exact absurd H (by simp)
     ·
      rw [if_neg c5] at H
      exact absurd H (by simp)
    ·
     rw [if_neg c4] at H
     have c4b0 : decide (x5_1 < (l0.length : Int)) = false := decide_eq_false c4
     clear c4
     obtain rfl := Option.some.inj H
     go_wp2
     repeat (go_quiet (fail); try go_wp2)
     go_ret
     exact ⟨by first | rfl | (simp; done) | (simp [*]; done), by repeat (first | exact Drawn0.refl _ | apply Drawn0.step)⟩
 ·
  rw [if_neg c3] at H
  have c3b0 : ((l0.length : Int) == (l1.length : Int)) = false := beq_eq_false_iff_ne.mpr c3
  have c3b1 : ((l0.length : Int) != (l1.length : Int)) = true := bne_iff_ne.mpr c3
  have c3b2 : (l0.length == l1.length) = false := by first | simpa using c3 | (simp at c3 ⊢; omega)
  obtain rfl := Option.some.inj H
  go_enter Try.func31, Try.ntmps31
  go_wp2
  repeat (go_quiet (fail); try go_wp2)
  go_ret
  exact ⟨by first | rfl | (simp; done) | (simp [*]; done), by repeat (first | exact Drawn0.refl _ | apply Drawn0.step)⟩

/-! ### tontineref15_Ring_From: function 36 -/
def tontineref15_Ring_From.l0 : Nat → Int → Int → Int → List (S43) → Int → Option (Int × Int × Int × Int × Bool × Int × (List (S43)) × Int)
  | 0, _, _, _, _, _ => none
  | k + 1, x1, x6, x1000, x1001, x1002 => if x6 < (x1001.length : Int) then (if 0 ≤ x6 then (if ((rd_T43 x1001 x6).f0) ≥ x1 then (some ((rd_T43 x1001 x6).f0, (rd_T43 x1001 x6).f1, (rd_T43 x1001 x6).f2, (rd_T43 x1001 x6).f3, true, x1000, x1001, x1002)) else (tontineref15_Ring_From.l0 k x1 (wrap64 (x6 + 1)) x1000 x1001 x1002)) else (none)) else (some (0, 0, 0, 0, false, x1000, x1001, x1002))
def tontineref15_Ring_From.f (k : Nat) (a0_0 : Int) (l0_1 : List (S43)) (a0_2 : Int) (a1 : Int) : Option (Int × Int × Int × Int × Bool × Int × (List (S43)) × Int) := tontineref15_Ring_From.l0 k a1 0 a0_0 l0_1 a0_2
theorem tontineref15_Ring_From.mono_l : ∀ k, (∀ y0 y1 y2 y3 y4, LeO (tontineref15_Ring_From.l0 k y0 y1 y2 y3 y4) (tontineref15_Ring_From.l0 (k + 1) y0 y1 y2 y3 y4))
  | 0 => fun _ _ _ _ _ r h => by simp [tontineref15_Ring_From.l0] at h
  | k + 1 => by
    have ih0 := tontineref15_Ring_From.mono_l k
    · intro y0 y1 y2 y3 y4
      unfold tontineref15_Ring_From.l0
      repeat' first
      | (with_reducible exact ih0 _ _ _ _ _)
      | (with_reducible exact LeO.refl _)
      | (with_reducible exact LeO.none _)
      | (with_reducible refine LeO.ite ?_ ?_)
      | (with_reducible refine LeO.bind ?_ (fun _ => ?_))
      | exact ih0 _ _ _ _ _
      | exact LeO.none _
      | refine LeO.ite ?_ ?_
      | refine LeO.bind ?_ (fun _ => ?_)
theorem tontineref15_Ring_From.mono : ∀ a0 a1 a2 a3 k, LeO (tontineref15_Ring_From.f k a0 a1 a2 a3) (tontineref15_Ring_From.f (k + 1) a0 a1 a2 a3) := by
 intro a0 a1 a2 a3 k
 have ih0 := tontineref15_Ring_From.mono_l k
 unfold tontineref15_Ring_From.f
 repeat' first
   | (with_reducible exact ih0 _ _ _ _ _)
   | (with_reducible exact LeO.refl _)
   | (with_reducible exact LeO.none _)
   | (with_reducible refine LeO.ite ?_ ?_)
   | (with_reducible refine LeO.bind ?_ (fun _ => ?_))
   | exact ih0 _ _ _ _ _
   | exact LeO.none _
   | refine LeO.ite ?_ ?_
   | refine LeO.bind ?_ (fun _ => ?_)
set_option maxHeartbeats 8000000 in
set_option maxRecDepth 100000 in
theorem tontineref15_Ring_From.calls (k : Nat) (g : Nat) (a0_0 : Int) (P0_1_ : Nat → Prop) (u9000_ : Value) (l0_1 : List (S43)) (a0_2 : Int) (a1 : Int) (r1 : Int) (r2 : Int) (r3 : Int) (r4 : Int) (r5 : Bool) (r6 : Int) (r7 : List (S43)) (r8 : Int) (w0 w : World) (hI : w.heap[g]? = some (.cells #[.int .i64 a0_0, u9000_, .int .i64 a0_2] 47 (0, 0))) (hG : w0.heap.size ≤ g) (hB : Below w0.heap.size w0 w) (ho0_1 : Kd.Q k43 43 w w0.heap.size P0_1_ u9000_ l0_1) (h : tontineref15_Ring_From.f k a0_0 l0_1 a0_2 a1 = some (r1, r2, r3, r4, r5, r6, r7, r8)) :
    Calls Try.prog 36 #[.pointer (some ⟨g, 0, none⟩), .int .i64 a1] w fun e w' => ∃ v6_ : Value, e = .returned (.tuple #[.agg #[.int .i64 r1, .int .i64 r2, .int .i64 r3, .int .i64 r4], .bool r5]) ∧ Kd.Q k43 43 w' w0.heap.size (fun k_ => (P0_1_ k_ ∨ w.heap.size ≤ k_)) v6_ r7 ∧ w'.heap[g]? = some (.cells #[.int .i64 r6, v6_, .int .i64 r8] 47 (0, 0)) ∧ Below w0.heap.size w0 w' ∧ Kept w w' (fun k_ => (P0_1_ k_) ∨ k_ = g) := by
 have hu43 := Try.underlying43
 have HO0_1 := Goto.m0 (show Kd.Q k43 43 w w0.heap.size (fun k_ => (P0_1_ k_ ∨ w.heap.size ≤ k_)) u9000_ l0_1 from Kd.Q_mono ho0_1 (fun k_ hk => (.inl hk)))
 have BK0 := Goto.m0 hI
 have GE0 := Goto.m0 hG
 clear hI hG
 have HK := Goto.m0 (Kept.refl w (fun k_ => (P0_1_ k_) ∨ k_ = g))
 have HW0 := Goto.m0 hB.size
 have HB := Goto.m0 hB
 clear hB
 have H : (tontineref15_Ring_From.l0 k a1 0 a0_0 l0_1 a0_2) = some (r1, r2, r3, r4, r5, r6, r7, r8) := h
 clear h
 have H' := Goto.m0 H
 clear H
 go_enter Try.func36, Try.ntmps36
 go_wp2_with (first | ((with_reducible refine gate_dst (N := 4) rfl ?_); refine box_event ?hg (N := 4) ?hd (cs := #[.int .i64 0, .int .i64 0, .int .i64 0, .int .i64 0]) (t := 43) ?hr ?_; (case hd => rfl); (case hg => rfl); (case hr => first | (go_simp; done) | (go_simp; rfl)); intro gb214 hg w3 hbox hb; have BK214 := Goto.m0 (hbox); have GW214 := Goto.m0 ((by rw [hg]; exact (by first | exact HK.out.1 | exact (show Kept w _ (fun k_ => (P0_1_ k_) ∨ k_ = g) from by repeat (first | (with_reducible first | exact HK.out | apply Kept.alloc | apply Kept.drewN | apply Kept.drew | refine Kept.setCell ?_ (.inl (.inr rfl)) _) | exact HK.out)).1) : w.heap.size ≤ gb214)); have GE214 := Goto.m0 ((by rw [hg]; exact (below_size (Goto.hx HB)) : w0.heap.size ≤ gb214)); have NB0_214 := Goto.nl BK0 hg; have NB214_0 := Goto.nr BK0 hg; replace HO0_1 := Goto.m0 (Kd.Q_below (Kd.Q_elderB (by (with_reducible repeat (first | apply Kd.Q_alloc | apply Kd.Q_drewN | apply Kd.Q_drew)); exact HO0_1.out) gb214 (Nat.le_of_eq hg.symm)) hb); replace BK0 := Goto.bb BK0 hb; replace HK := Goto.m0 (Kept.below (S := (fun k_ => (P0_1_ k_) ∨ k_ = g)) (by repeat (first | (with_reducible first | exact HK.out | apply Kept.alloc | apply Kept.drewN | apply Kept.drew | refine Kept.setCell ?_ (.inl (.inr rfl)) _) | exact HK.out)) hb); replace HB := Goto.hs HB hb; clear hb hbox hg))
 go_loopg [6] k (fun kq v6 w' => ∃ (x6_1 : Int) (x215000_1 : Int) (x215001_1 : Int) (x215002_1 : Int) (x215003_1 : Int), v6 = .int .i64 x6_1 ∧ Aside0 (tontineref15_Ring_From.l0 kq a1 x6_1 a0_0 l0_1 a0_2 = some (r1, r2, r3, r4, r5, r6, r7, r8)) ∧ Aside0 (kq ≤ k) ∧ Aside0 (Kd.Q k43 43 w' w0.heap.size (fun k_ => (P0_1_ k_ ∨ w.heap.size ≤ k_) ∧ k_ ≠ gb214) u9000_ l0_1) ∧ Aside0 (w'.heap[g]? = some (.cells #[.int .i64 a0_0, u9000_, .int .i64 a0_2] 47 (0, 0))) ∧ Aside0 (w'.heap[gb214]? = some (.cells #[.int .i64 x215000_1, .int .i64 x215001_1, .int .i64 x215002_1, .int .i64 x215003_1] 43 (0, 0))) ∧ Aside0 (Kept w w' (fun k_ => (P0_1_ k_) ∨ k_ = g)) ∧ Aside0 (Below w0.heap.size w0 w'))
 case atStart => exact ⟨(0), (0), (0), (0), (0), (by first | rfl | (simp; done) | (simp [*]; done)), H', ⟨Nat.le_refl _⟩, ⟨by (with_reducible repeat (first | apply Kd.Q_alloc | apply Kd.Q_drewN | apply Kd.Q_drew)); exact HO0_1.out⟩, ⟨Goto.bx BK0⟩, ⟨Goto.bx BK214⟩, ⟨by repeat (first | (with_reducible first | exact HK.out | apply Kept.alloc | apply Kept.drewN | apply Kept.drew | refine Kept.setCell ?_ (.inl (.inr rfl)) _ | refine Kept.setCell ?_ (.inr GW214.out) _) | exact HK.out)⟩, ⟨Goto.hx HB⟩⟩
 case round =>
  clear H'
  try clear p2; try clear c3
  obtain ⟨x6_1, x215000_1, x215001_1, x215002_1, x215003_1, rfl, HA, HK1, HO_1001, BK0, BK214, HK, HB⟩ := hrel
  cases gk with
  | zero => exact absurd HA.out (by simp [tontineref15_Ring_From.l0])
  | succ k1 =>
   have H := HA.out; clear HA
   simp only [tontineref15_Ring_From.l0] at H
   by_cases c4 : x6_1 < (l0_1.length : Int)
   ·
    rw [if_pos c4] at H
    have c4b0 : decide (x6_1 < (l0_1.length : Int)) = true := decide_eq_true c4
    clear c4
    by_cases c5 : 0 ≤ x6_1
    ·
     rw [if_pos c5] at H
     have c5b0 : decide (0 ≤ x6_1) = true := decide_eq_true c5
     clear c5
     by_cases c6 : ((rd_T43 l0_1 x6_1).f0) ≥ a1
     ·
      rw [if_pos c6] at H
      have c6b0 : decide (a1 ≤ ((rd_T43 l0_1 x6_1).f0)) = true := decide_eq_true c6
      clear c6
      simp only [Option.some.injEq, Prod.mk.injEq] at H
      obtain ⟨rfl, rfl, rfl, rfl, rfl, rfl, rfl, rfl⟩ := H
      have hnb7 := NB0_214.out; have hnc7 := NB214_0.out; have hcz8_0 : wr.cell? ⟨g, 0, none⟩ = some (.int .i64 a0_0) := (blk_cell BK0.out 0).trans rfl; have hcz8_1 : wr.cell? ⟨g, 1, none⟩ = some (u9000_) := (blk_cell BK0.out 1).trans rfl; have hcz8_2 : wr.cell? ⟨g, 2, none⟩ = some (.int .i64 a0_2) := (blk_cell BK0.out 2).trans rfl; have hfz8_0 := blk_frozen BK0.out 0; have hfz8_1 := blk_frozen BK0.out 1; have hfz8_2 := blk_frozen BK0.out 2
      obtain ⟨Ao9, co9, eo9, _⟩ := Kd.Q_slice HO_1001.out
      subst eo9
      have p215 : 0 ≤ (x6_1 : Int) := of_decide_eq_true (by first | (with_reducible assumption) | assumption)
      have q215 : x6_1 < (l0_1.length : Int) := of_decide_eq_true (by first | (with_reducible assumption) | assumption)
      obtain ⟨ad215, e215, hx215_0, hx215_1, hx215_2, hx215_3⟩ := at_T43 (Kd.Q_reads' HO_1001.out).2.2 x6_1 p215 q215
      cases e215
      replace p215 := eq_true p215; replace q215 := eq_true q215
      have p216 : 0 ≤ (x6_1 : Int) := of_decide_eq_true (by first | (with_reducible assumption) | assumption)
      have q216 : x6_1 < (l0_1.length : Int) := of_decide_eq_true (by first | (with_reducible assumption) | assumption)
      obtain ⟨ad216, e216, hx216_0, hx216_1, hx216_2, hx216_3⟩ := at_T43 (Kd.Q_reads' HO_1001.out).2.2 x6_1 p216 q216
      obtain rfl : ad215 = ad216 := (by injection e216)
      replace p216 := eq_true p216; replace q216 := eq_true q216; have hcz10_0 : wr.cell? ⟨gb214, 0, none⟩ = some (.int .i64 x215000_1) := (blk_cell BK214.out 0).trans rfl; have hcz10_1 : wr.cell? ⟨gb214, 1, none⟩ = some (.int .i64 x215001_1) := (blk_cell BK214.out 1).trans rfl; have hcz10_2 : wr.cell? ⟨gb214, 2, none⟩ = some (.int .i64 x215002_1) := (blk_cell BK214.out 2).trans rfl; have hcz10_3 : wr.cell? ⟨gb214, 3, none⟩ = some (.int .i64 x215003_1) := (blk_cell BK214.out 3).trans rfl; have hfz10_0 := blk_frozen BK214.out 0; have hfz10_1 := blk_frozen BK214.out 1; have hfz10_2 := blk_frozen BK214.out 2; have hfz10_3 := blk_frozen BK214.out 3
      go_wp2
      refine bodyPost_ret (results_ct rfl _ _ gb214 43 #[.int .i64 ((rd_T43 l0_1 x6_1).f0), .int .i64 ((rd_T43 l0_1 x6_1).f1), .int .i64 ((rd_T43 l0_1 x6_1).f2), .int .i64 ((rd_T43 l0_1 x6_1).f3)] (0, 0) _ rfl (Goto.bx BK214) Try.underlying43 rfl (by kernel_rfl)) rfl ?_
      (try simp only [← exists_and_left])
      exact ⟨_, by first | rfl | (simp [errW_none, errW_some] <;> rfl) | (simp [*, errW_none, errW_some] <;> rfl), by (with_reducible repeat (first | apply Kd.Q_alloc | apply Kd.Q_drewN | apply Kd.Q_drew)); exact Kd.Q_mono (Kd.Q_far (p := ⟨gb214, 3, none⟩) (Kd.Q_far (p := ⟨gb214, 2, none⟩) (Kd.Q_far (p := ⟨gb214, 1, none⟩) (Kd.Q_far (p := ⟨gb214, 0, none⟩) (Kd.Q_mono HO_1001.out (fun k_ hk => (⟨hk, hk.2⟩ : _ ∧ k_ ≠ gb214))) (fun _ hk => hk.2) (.int .i64 ((rd_T43 l0_1 x6_1).f0))) (fun _ hk => hk.2) (.int .i64 ((rd_T43 l0_1 x6_1).f1))) (fun _ hk => hk.2) (.int .i64 ((rd_T43 l0_1 x6_1).f2))) (fun _ hk => hk.2) (.int .i64 ((rd_T43 l0_1 x6_1).f3))) (fun _ hk => hk.1.1), by (iterate 4 ((with_reducible repeat first | refine blk_drewN ?_ _ | refine blk_drew ?_ | refine blk_alloc ?_ _); refine blk_far ?_ NB0_214.out _)); (with_reducible repeat first | refine blk_drewN ?_ _ | refine blk_drew ?_ | refine blk_alloc ?_ _); exact BK0.out, by repeat (first | (with_reducible first | exact HB.out | apply below_alloc | apply pw_below_drewN | apply below_drew1 | refine below_set ?_ GE0.out | refine below_set ?_ GE214.out) | exact HB.out), by repeat (first | (with_reducible first | exact HK.out | apply Kept.alloc | apply Kept.drewN | apply Kept.drew | refine Kept.setCell ?_ (.inl (.inr rfl)) _ | refine Kept.setCell ?_ (.inr GW214.out) _) | exact HK.out)⟩
     ·
      rw [if_neg c6] at H
      have c6b0 : decide (a1 ≤ ((rd_T43 l0_1 x6_1).f0)) = false := decide_eq_false c6
      clear c6
      have H' := Goto.m0 H
      clear H; have hnb11 := NB0_214.out; have hnc11 := NB214_0.out; have hcz12_0 : wr.cell? ⟨g, 0, none⟩ = some (.int .i64 a0_0) := (blk_cell BK0.out 0).trans rfl; have hcz12_1 : wr.cell? ⟨g, 1, none⟩ = some (u9000_) := (blk_cell BK0.out 1).trans rfl; have hcz12_2 : wr.cell? ⟨g, 2, none⟩ = some (.int .i64 a0_2) := (blk_cell BK0.out 2).trans rfl; have hfz12_0 := blk_frozen BK0.out 0; have hfz12_1 := blk_frozen BK0.out 1; have hfz12_2 := blk_frozen BK0.out 2
      obtain ⟨Ao13, co13, eo13, _⟩ := Kd.Q_slice HO_1001.out
      subst eo13
      have p215 : 0 ≤ (x6_1 : Int) := of_decide_eq_true (by first | (with_reducible assumption) | assumption)
      have q215 : x6_1 < (l0_1.length : Int) := of_decide_eq_true (by first | (with_reducible assumption) | assumption)
      obtain ⟨ad215, e215, hx215_0, hx215_1, hx215_2, hx215_3⟩ := at_T43 (Kd.Q_reads' HO_1001.out).2.2 x6_1 p215 q215
      cases e215
      replace p215 := eq_true p215; replace q215 := eq_true q215
      go_wp2
      go_roundg k1
      case measure => have := HK1.out; omega
      case rel => exact ⟨(wrap64 (x6_1 + 1)), (x215000_1), (x215001_1), (x215002_1), (x215003_1), (by first | rfl | (simp; done) | (simp [*]; done)), H', ⟨by have := HK1.out; omega⟩, ⟨by (with_reducible repeat (first | apply Kd.Q_alloc | apply Kd.Q_drewN | apply Kd.Q_drew)); exact HO_1001.out⟩, ⟨Goto.bx BK0⟩, ⟨Goto.bx BK214⟩, ⟨by repeat (first | (with_reducible first | exact HK.out | apply Kept.alloc | apply Kept.drewN | apply Kept.drew | refine Kept.setCell ?_ (.inl (.inr rfl)) _ | refine Kept.setCell ?_ (.inr GW214.out) _) | exact HK.out)⟩, ⟨Goto.hx HB⟩⟩
    ·
     rw [if_neg c5] at H
     exact absurd H (by simp)
   ·
    rw [if_neg c4] at H
    have c4b0 : decide (x6_1 < (l0_1.length : Int)) = false := decide_eq_false c4
    clear c4
    simp only [Option.some.injEq, Prod.mk.injEq] at H
    obtain ⟨rfl, rfl, rfl, rfl, rfl, rfl, rfl, rfl⟩ := H
    have hnb14 := NB0_214.out; have hnc14 := NB214_0.out; have hcz15_0 : wr.cell? ⟨g, 0, none⟩ = some (.int .i64 a0_0) := (blk_cell BK0.out 0).trans rfl; have hcz15_1 : wr.cell? ⟨g, 1, none⟩ = some (u9000_) := (blk_cell BK0.out 1).trans rfl; have hcz15_2 : wr.cell? ⟨g, 2, none⟩ = some (.int .i64 a0_2) := (blk_cell BK0.out 2).trans rfl; have hfz15_0 := blk_frozen BK0.out 0; have hfz15_1 := blk_frozen BK0.out 1; have hfz15_2 := blk_frozen BK0.out 2
    obtain ⟨Ao16, co16, eo16, _⟩ := Kd.Q_slice HO_1001.out
    subst eo16
    have hcz17_0 : wr.cell? ⟨gb214, 0, none⟩ = some (.int .i64 x215000_1) := (blk_cell BK214.out 0).trans rfl; have hcz17_1 : wr.cell? ⟨gb214, 1, none⟩ = some (.int .i64 x215001_1) := (blk_cell BK214.out 1).trans rfl; have hcz17_2 : wr.cell? ⟨gb214, 2, none⟩ = some (.int .i64 x215002_1) := (blk_cell BK214.out 2).trans rfl; have hcz17_3 : wr.cell? ⟨gb214, 3, none⟩ = some (.int .i64 x215003_1) := (blk_cell BK214.out 3).trans rfl; have hfz17_0 := blk_frozen BK214.out 0; have hfz17_1 := blk_frozen BK214.out 1; have hfz17_2 := blk_frozen BK214.out 2; have hfz17_3 := blk_frozen BK214.out 3
    go_wp2
    refine bodyPost_ret (results_ct rfl _ _ gb214 43 #[.int .i64 0, .int .i64 0, .int .i64 0, .int .i64 0] (0, 0) _ rfl (Goto.bx BK214) Try.underlying43 rfl (by kernel_rfl)) rfl ?_
    (try simp only [← exists_and_left])
    exact ⟨_, by first | rfl | (simp [errW_none, errW_some] <;> rfl) | (simp [*, errW_none, errW_some] <;> rfl), by (with_reducible repeat (first | apply Kd.Q_alloc | apply Kd.Q_drewN | apply Kd.Q_drew)); exact Kd.Q_mono (Kd.Q_far (p := ⟨gb214, 3, none⟩) (Kd.Q_far (p := ⟨gb214, 2, none⟩) (Kd.Q_far (p := ⟨gb214, 1, none⟩) (Kd.Q_far (p := ⟨gb214, 0, none⟩) (Kd.Q_mono HO_1001.out (fun k_ hk => (⟨hk, hk.2⟩ : _ ∧ k_ ≠ gb214))) (fun _ hk => hk.2) (.int .i64 0)) (fun _ hk => hk.2) (.int .i64 0)) (fun _ hk => hk.2) (.int .i64 0)) (fun _ hk => hk.2) (.int .i64 0)) (fun _ hk => hk.1.1), by (iterate 4 ((with_reducible repeat first | refine blk_drewN ?_ _ | refine blk_drew ?_ | refine blk_alloc ?_ _); refine blk_far ?_ NB0_214.out _)); (with_reducible repeat first | refine blk_drewN ?_ _ | refine blk_drew ?_ | refine blk_alloc ?_ _); exact BK0.out, by repeat (first | (with_reducible first | exact HB.out | apply below_alloc | apply pw_below_drewN | apply below_drew1 | refine below_set ?_ GE0.out | refine below_set ?_ GE214.out) | exact HB.out), by repeat (first | (with_reducible first | exact HK.out | apply Kept.alloc | apply Kept.drewN | apply Kept.drew | refine Kept.setCell ?_ (.inl (.inr rfl)) _ | refine Kept.setCell ?_ (.inr GW214.out) _) | exact HK.out)⟩

end Go.Proofs.Ytpbcamdjcnokfaa.P
