/- Printed by a program of this workplace (a turned copy of the kit's optional print), out of the translation; not trusted: Lean checks it. -/
import Derived.Test.YtpbcamdjcnokfaaPx0
import Derived.Test.YtpbcamdjcnokfaaPx1
import Derived.Test.YtpbcamdjcnokfaaPx2
import Derived.Test.YtpbcamdjcnokfaaPx3
namespace Go.Proofs.Ytpbcamdjcnokfaa.P
open Go.RowKit Go.Proofs.YtpbcamdjcnokfaaW.PrintWords Go.Proofs.YtpbcamdjcnokfaaW.PrintLast Go.Proofs.YtpbcamdjcnokfaaW.PrintMore
attribute [local go_sem] max2_int min2_int max_two min_two max_three min_three max_four min_four   -- for this text's walks alone
set_option linter.unusedVariables false
set_option linter.unusedSimpArgs false

attribute [local go_sem high] eqA24
/-! ### tontinelaw1_LabelOrder: function 4 -/
def tontinelaw1_LabelOrder.j0 : Nat → Bool → Int → Int → Int → Int → Int → Int → Option (Bool)
  | 0, _, _, _, _, _, _, _ => none
  | k + 1, x27, x171000, x171001, x172000, x172001, x173000, x173001 => if x27 = true then (some false) else ((label_Leq.f x171000 x171001 x172000 x172001).bind fun t177 => (if t177 = true then ((label_Leq.f x172000 x172001 x173000 x173001).bind fun t178 => (if t178 = true then ((label_Leq.f x171000 x171001 x173000 x173001).bind fun t179 => (some t179)) else (some true))) else (some true)))
def tontinelaw1_LabelOrder.f (k : Nat) (a0_0 : Int) (a0_1 : Int) (a1_0 : Int) (a1_1 : Int) (a2_0 : Int) (a2_1 : Int) : Option (Bool) := (tontinelaw1_known.f k).bind fun t173 => (if t173 = true then ((label_Leq.f a0_0 a0_1 a0_0 a0_1).bind fun t174 => (if t174 = true then ((label_Leq.f a0_0 a0_1 a1_0 a1_1).bind fun t175 => (if t175 = true then ((label_Leq.f a1_0 a1_1 a0_0 a0_1).bind fun t176 => (if t176 = true then (tontinelaw1_LabelOrder.j0 k (!(a0_0 == a1_0) || (!(a0_1 == a1_1))) a0_0 a0_1 a1_0 a1_1 a2_0 a2_1) else (tontinelaw1_LabelOrder.j0 k false a0_0 a0_1 a1_0 a1_1 a2_0 a2_1))) else (tontinelaw1_LabelOrder.j0 k false a0_0 a0_1 a1_0 a1_1 a2_0 a2_1))) else (tontinelaw1_LabelOrder.j0 k true a0_0 a0_1 a1_0 a1_1 a2_0 a2_1))) else (some false))
theorem tontinelaw1_LabelOrder.mono_l : ∀ k, (∀ y0 y1 y2 y3 y4 y5 y6, LeO (tontinelaw1_LabelOrder.j0 k y0 y1 y2 y3 y4 y5 y6) (tontinelaw1_LabelOrder.j0 (k + 1) y0 y1 y2 y3 y4 y5 y6))
  | 0 => fun _ _ _ _ _ _ _ r h => by simp [tontinelaw1_LabelOrder.j0] at h
  | k + 1 => by
    have ih0 := tontinelaw1_LabelOrder.mono_l k
    · intro y0 y1 y2 y3 y4 y5 y6
      unfold tontinelaw1_LabelOrder.j0
      repeat' first
      | (with_reducible exact ih0 _ _ _ _ _ _ _)
      | (with_reducible exact tontinelaw1_known.mono _)
      | (with_reducible exact LeO.refl _)
      | (with_reducible exact LeO.none _)
      | (with_reducible refine LeO.ite ?_ ?_)
      | (with_reducible refine LeO.bind ?_ (fun _ => ?_))
      | exact ih0 _ _ _ _ _ _ _
      | exact tontinelaw1_known.mono _
      | exact LeO.none _
      | refine LeO.ite ?_ ?_
      | refine LeO.bind ?_ (fun _ => ?_)
theorem tontinelaw1_LabelOrder.mono : ∀ a0 a1 a2 a3 a4 a5 k, LeO (tontinelaw1_LabelOrder.f k a0 a1 a2 a3 a4 a5) (tontinelaw1_LabelOrder.f (k + 1) a0 a1 a2 a3 a4 a5) := by
  intro a0 a1 a2 a3 a4 a5 k
  have ih0 := tontinelaw1_LabelOrder.mono_l k
  unfold tontinelaw1_LabelOrder.f
  repeat' first
      | (with_reducible exact ih0 _ _ _ _ _ _ _)
      | (with_reducible exact tontinelaw1_known.mono _)
      | (with_reducible exact LeO.refl _)
      | (with_reducible exact LeO.none _)
      | (with_reducible refine LeO.ite ?_ ?_)
      | (with_reducible refine LeO.bind ?_ (fun _ => ?_))
      | exact ih0 _ _ _ _ _ _ _
      | exact tontinelaw1_known.mono _
      | exact LeO.none _
      | refine LeO.ite ?_ ?_
      | refine LeO.bind ?_ (fun _ => ?_)
set_option maxHeartbeats 8000000 in
set_option maxRecDepth 100000 in
theorem tontinelaw1_LabelOrder.calls (k : Nat) (a0_0 : Int) (a0_1 : Int) (a1_0 : Int) (a1_1 : Int) (a2_0 : Int) (a2_1 : Int) (r : Bool) (hrt : r = true) (w : World) (h : tontinelaw1_LabelOrder.f k a0_0 a0_1 a1_0 a1_1 a2_0 a2_1 = some r) :
    Calls Try.prog 4 #[.agg #[.int .i64 a0_0, .int .u64 a0_1], .agg #[.int .i64 a1_0, .int .u64 a1_1], .agg #[.int .i64 a2_0, .int .u64 a2_1]] w fun e w' => e = .returned (.bool r) ∧ Below w.heap.size w w' := by
  have hu24 := Try.underlying24
  have HB := Aside0.mk (Below.refl w.heap.size w)
  have HRT := Aside0.mk hrt
  clear hrt
  have H : ((tontinelaw1_known.f k).bind fun t173 => (if t173 = true then ((label_Leq.f a0_0 a0_1 a0_0 a0_1).bind fun t174 => (if t174 = true then ((label_Leq.f a0_0 a0_1 a1_0 a1_1).bind fun t175 => (if t175 = true then ((label_Leq.f a1_0 a1_1 a0_0 a0_1).bind fun t176 => (if t176 = true then (tontinelaw1_LabelOrder.j0 k (!(a0_0 == a1_0) || (!(a0_1 == a1_1))) a0_0 a0_1 a1_0 a1_1 a2_0 a2_1) else (tontinelaw1_LabelOrder.j0 k false a0_0 a0_1 a1_0 a1_1 a2_0 a2_1))) else (tontinelaw1_LabelOrder.j0 k false a0_0 a0_1 a1_0 a1_1 a2_0 a2_1))) else (tontinelaw1_LabelOrder.j0 k true a0_0 a0_1 a1_0 a1_1 a2_0 a2_1))) else (some false))) = some r := h
  clear h
  replace H := Option.bind_eq_some_iff.mp H
  obtain ⟨t173, A40, H⟩ := H
  replace H : (if t173 = true then ((label_Leq.f a0_0 a0_1 a0_0 a0_1).bind fun t174 => (if t174 = true then ((label_Leq.f a0_0 a0_1 a1_0 a1_1).bind fun t175 => (if t175 = true then ((label_Leq.f a1_0 a1_1 a0_0 a0_1).bind fun t176 => (if t176 = true then (tontinelaw1_LabelOrder.j0 k (!(a0_0 == a1_0) || (!(a0_1 == a1_1))) a0_0 a0_1 a1_0 a1_1 a2_0 a2_1) else (tontinelaw1_LabelOrder.j0 k false a0_0 a0_1 a1_0 a1_1 a2_0 a2_1))) else (tontinelaw1_LabelOrder.j0 k false a0_0 a0_1 a1_0 a1_1 a2_0 a2_1))) else (tontinelaw1_LabelOrder.j0 k true a0_0 a0_1 a1_0 a1_1 a2_0 a2_1))) else (some false)) = some r := H
  have A4 := Aside0.mk A40
  clear A40
  by_cases c5 : t173 = true
  · subst c5
    have H1 : ((label_Leq.f a0_0 a0_1 a0_0 a0_1).bind fun t174 => (if t174 = true then ((label_Leq.f a0_0 a0_1 a1_0 a1_1).bind fun t175 => (if t175 = true then ((label_Leq.f a1_0 a1_1 a0_0 a0_1).bind fun t176 => (if t176 = true then (tontinelaw1_LabelOrder.j0 k (!(a0_0 == a1_0) || (!(a0_1 == a1_1))) a0_0 a0_1 a1_0 a1_1 a2_0 a2_1) else (tontinelaw1_LabelOrder.j0 k false a0_0 a0_1 a1_0 a1_1 a2_0 a2_1))) else (tontinelaw1_LabelOrder.j0 k false a0_0 a0_1 a1_0 a1_1 a2_0 a2_1))) else (tontinelaw1_LabelOrder.j0 k true a0_0 a0_1 a1_0 a1_1 a2_0 a2_1))) = some r := by rw [if_pos rfl] at H; exact H
    clear H
    have H := H1
    clear H1
    have HC6 := Aside0.mk H
    clear H
    go_enter Try.func4, Try.ntmps4
    go_upto_region 3 with (first | ((with_reducible refine gate_dst (N := 3) rfl ?_); refine box_event ?hg (N := 3) ?hd (cs := #[.int .i64 a0_0, .int .u64 a0_1]) (t := 24) ?hr ?_; (case hd => rfl); (case hg => rfl); (case hr => first | (go_simp; done) | (go_simp; rfl)); intro gb170 hg w7 hbox hb; have n0_ := Aside0.mk (below_step (by repeat (first | (with_reducible first | exact HB.out | apply below_alloc | apply pw_below_drewN | apply below_drew1) | exact HB.out)) hb); have n1_ := Aside0.mk (hbox); have n2_ := Aside0.mk ((by rw [hg]; exact (below_size (by repeat (first | (with_reducible first | exact HB.out | apply below_alloc | apply pw_below_drewN | apply below_drew1) | exact HB.out))) : w.heap.size ≤ gb170)); have n3_ := Aside0.mk ((by rw [hg]; exact (below_size (by repeat (first | (with_reducible first | exact HB.out | apply below_alloc | apply pw_below_drewN | apply below_drew1) | exact HB.out))) : w.heap.size ≤ gb170)); clear HB; have HB := n0_; have BK170 := n1_; have GW170 := n2_; have GE170 := n3_; clear n0_ n1_ n2_ n3_; clear hb hbox hg) | ((with_reducible refine gate_dst (N := 4) rfl ?_); refine box_event ?hg (N := 4) ?hd (cs := #[.int .i64 a1_0, .int .u64 a1_1]) (t := 24) ?hr ?_; (case hd => rfl); (case hg => rfl); (case hr => first | (go_simp; done) | (go_simp; rfl)); intro gb171 hg w8 hbox hb; have n0_ := Aside0.mk (blk_below (g := gb170) (o := .cells #[.int .i64 a0_0, .int .u64 a0_1] 24 (0, 0)) (by (with_reducible repeat (first | refine blk_drewN ?_ _ | refine blk_drew ?_ | refine blk_alloc ?_ _)); exact BK170.out) hb); have n1_ := Aside0.mk (below_step (by repeat (first | (with_reducible first | exact HB.out | apply below_alloc | apply pw_below_drewN | apply below_drew1 | refine below_set ?_ GE170.out) | exact HB.out)) hb); have n2_ := Aside0.mk (hbox); have n3_ := Aside0.mk ((by rw [hg]; exact (below_size (by repeat (first | (with_reducible first | exact HB.out | apply below_alloc | apply pw_below_drewN | apply below_drew1 | refine below_set ?_ GE170.out) | exact HB.out))) : w.heap.size ≤ gb171)); have n4_ := Aside0.mk ((by rw [hg]; exact (below_size (by repeat (first | (with_reducible first | exact HB.out | apply below_alloc | apply pw_below_drewN | apply below_drew1 | refine below_set ?_ GE170.out) | exact HB.out))) : w.heap.size ≤ gb171)); have n5_ := Aside0.mk ((by rw [hg]; exact Nat.ne_of_lt (blk_lt (g := gb170) (o := .cells #[.int .i64 a0_0, .int .u64 a0_1] 24 (0, 0)) (by (with_reducible repeat (first | refine blk_drewN ?_ _ | refine blk_drew ?_ | refine blk_alloc ?_ _)); exact BK170.out)) : gb170 ≠ gb171)); have n6_ := Aside0.mk ((by rw [hg]; exact Nat.ne_of_gt (blk_lt (g := gb170) (o := .cells #[.int .i64 a0_0, .int .u64 a0_1] 24 (0, 0)) (by (with_reducible repeat (first | refine blk_drewN ?_ _ | refine blk_drew ?_ | refine blk_alloc ?_ _)); exact BK170.out)) : gb171 ≠ gb170)); clear BK170; clear HB; have BK170 := n0_; have HB := n1_; have BK171 := n2_; have GW171 := n3_; have GE171 := n4_; have NB170_171 := n5_; have NB171_170 := n6_; clear n0_ n1_ n2_ n3_ n4_ n5_ n6_; clear hb hbox hg) | ((with_reducible refine gate_dst (N := 5) rfl ?_); refine box_event ?hg (N := 5) ?hd (cs := #[.int .i64 a2_0, .int .u64 a2_1]) (t := 24) ?hr ?_; (case hd => rfl); (case hg => rfl); (case hr => first | (go_simp; done) | (go_simp; rfl)); intro gb172 hg w9 hbox hb; have n0_ := Aside0.mk (blk_below (g := gb170) (o := .cells #[.int .i64 a0_0, .int .u64 a0_1] 24 (0, 0)) (by (with_reducible repeat (first | refine blk_drewN ?_ _ | refine blk_drew ?_ | refine blk_alloc ?_ _)); exact BK170.out) hb); have n1_ := Aside0.mk (blk_below (g := gb171) (o := .cells #[.int .i64 a1_0, .int .u64 a1_1] 24 (0, 0)) (by (with_reducible repeat (first | refine blk_drewN ?_ _ | refine blk_drew ?_ | refine blk_alloc ?_ _)); exact BK171.out) hb); have n2_ := Aside0.mk (below_step (by repeat (first | (with_reducible first | exact HB.out | apply below_alloc | apply pw_below_drewN | apply below_drew1 | refine below_set ?_ GE170.out | refine below_set ?_ GE171.out) | exact HB.out)) hb); have n3_ := Aside0.mk (hbox); have n4_ := Aside0.mk ((by rw [hg]; exact (below_size (by repeat (first | (with_reducible first | exact HB.out | apply below_alloc | apply pw_below_drewN | apply below_drew1 | refine below_set ?_ GE170.out | refine below_set ?_ GE171.out) | exact HB.out))) : w.heap.size ≤ gb172)); have n5_ := Aside0.mk ((by rw [hg]; exact (below_size (by repeat (first | (with_reducible first | exact HB.out | apply below_alloc | apply pw_below_drewN | apply below_drew1 | refine below_set ?_ GE170.out | refine below_set ?_ GE171.out) | exact HB.out))) : w.heap.size ≤ gb172)); have n6_ := Aside0.mk ((by rw [hg]; exact Nat.ne_of_lt (blk_lt (g := gb170) (o := .cells #[.int .i64 a0_0, .int .u64 a0_1] 24 (0, 0)) (by (with_reducible repeat (first | refine blk_drewN ?_ _ | refine blk_drew ?_ | refine blk_alloc ?_ _)); exact BK170.out)) : gb170 ≠ gb172)); have n7_ := Aside0.mk ((by rw [hg]; exact Nat.ne_of_gt (blk_lt (g := gb170) (o := .cells #[.int .i64 a0_0, .int .u64 a0_1] 24 (0, 0)) (by (with_reducible repeat (first | refine blk_drewN ?_ _ | refine blk_drew ?_ | refine blk_alloc ?_ _)); exact BK170.out)) : gb172 ≠ gb170)); have n8_ := Aside0.mk ((by rw [hg]; exact Nat.ne_of_lt (blk_lt (g := gb171) (o := .cells #[.int .i64 a1_0, .int .u64 a1_1] 24 (0, 0)) (by (with_reducible repeat (first | refine blk_drewN ?_ _ | refine blk_drew ?_ | refine blk_alloc ?_ _)); exact BK171.out)) : gb171 ≠ gb172)); have n9_ := Aside0.mk ((by rw [hg]; exact Nat.ne_of_gt (blk_lt (g := gb171) (o := .cells #[.int .i64 a1_0, .int .u64 a1_1] 24 (0, 0)) (by (with_reducible repeat (first | refine blk_drewN ?_ _ | refine blk_drew ?_ | refine blk_alloc ?_ _)); exact BK171.out)) : gb172 ≠ gb171)); clear BK170; clear BK171; clear HB; have BK170 := n0_; have BK171 := n1_; have HB := n2_; have BK172 := n3_; have GW172 := n4_; have GE172 := n5_; have NB170_172 := n6_; have NB172_170 := n7_; have NB171_172 := n8_; have NB172_171 := n9_; clear n0_ n1_ n2_ n3_ n4_ n5_ n6_ n7_ n8_ n9_; clear hb hbox hg) | ((with_reducible refine gate_callee (f := 15) rfl ?_); refine goesL_ (some 7) rfl rfl Try.func15 (by kernel_rfl) rfl #[] rfl (by (try simp only [List.map_toArray, List.map_cons, List.map_nil]); first | done | rfl | (simp only [List.length_drop, List.length_take]; rfl)) ?_; (with_reducible refine (tontinelaw1_known.calls k  true (by first | rfl | assumption | (simp only [Bool.not_eq_true, Bool.not_eq_false] at *; assumption)) _ A4.out).mono ?_); rintro e w10 ⟨rfl, hb⟩; refine ⟨_, rfl, ?_⟩; have n0_ := Aside0.mk (blk_below (g := gb170) (o := .cells #[.int .i64 a0_0, .int .u64 a0_1] 24 (0, 0)) (by (with_reducible repeat (first | refine blk_drewN ?_ _ | refine blk_drew ?_ | refine blk_alloc ?_ _)); exact BK170.out) hb); have n1_ := Aside0.mk (blk_below (g := gb171) (o := .cells #[.int .i64 a1_0, .int .u64 a1_1] 24 (0, 0)) (by (with_reducible repeat (first | refine blk_drewN ?_ _ | refine blk_drew ?_ | refine blk_alloc ?_ _)); exact BK171.out) hb); have n2_ := Aside0.mk (blk_below (g := gb172) (o := .cells #[.int .i64 a2_0, .int .u64 a2_1] 24 (0, 0)) (by (with_reducible repeat (first | refine blk_drewN ?_ _ | refine blk_drew ?_ | refine blk_alloc ?_ _)); exact BK172.out) hb); have n3_ := Aside0.mk (below_step (by repeat (first | (with_reducible first | exact HB.out | apply below_alloc | apply pw_below_drewN | apply below_drew1 | refine below_set ?_ GE170.out | refine below_set ?_ GE171.out | refine below_set ?_ GE172.out) | exact HB.out)) hb); clear BK170; clear BK171; clear BK172; clear HB; have BK170 := n0_; have BK171 := n1_; have BK172 := n2_; have HB := n3_; clear n0_ n1_ n2_ n3_; (try clear hb); (try clear hb2); (try clear hk); (try clear hi)))
    (try simp only [Act.put, List.setIfInBounds_toArray, List.set_cons_zero, List.set_cons_succ])
    go_cut [27] (fun v27 wc => ∃ (kq : Nat) (x27_5 : Bool), v27 = .bool x27_5 ∧ Aside0 (tontinelaw1_LabelOrder.j0 kq x27_5 a0_0 a0_1 a1_0 a1_1 a2_0 a2_1 = some r) ∧ Aside0 (kq ≤ k) ∧ Aside0 (wc.heap[gb170]? = some (.cells #[.int .i64 a0_0, .int .u64 a0_1] 24 (0, 0))) ∧ Aside0 (wc.heap[gb171]? = some (.cells #[.int .i64 a1_0, .int .u64 a1_1] 24 (0, 0))) ∧ Aside0 (wc.heap[gb172]? = some (.cells #[.int .i64 a2_0, .int .u64 a2_1] 24 (0, 0))) ∧ Aside0 (Below w.heap.size w wc))
    case first =>
      have H := HC6.out
      clear HC6
      replace H := Option.bind_eq_some_iff.mp H
      obtain ⟨t174, A110, H⟩ := H
      replace H : (if t174 = true then ((label_Leq.f a0_0 a0_1 a1_0 a1_1).bind fun t175 => (if t175 = true then ((label_Leq.f a1_0 a1_1 a0_0 a0_1).bind fun t176 => (if t176 = true then (tontinelaw1_LabelOrder.j0 k (!(a0_0 == a1_0) || (!(a0_1 == a1_1))) a0_0 a0_1 a1_0 a1_1 a2_0 a2_1) else (tontinelaw1_LabelOrder.j0 k false a0_0 a0_1 a1_0 a1_1 a2_0 a2_1))) else (tontinelaw1_LabelOrder.j0 k false a0_0 a0_1 a1_0 a1_1 a2_0 a2_1))) else (tontinelaw1_LabelOrder.j0 k true a0_0 a0_1 a1_0 a1_1 a2_0 a2_1)) = some r := H
      have A11 := Aside0.mk A110
      clear A110
      by_cases c12 : t174 = true
      · subst c12
        have H1 : ((label_Leq.f a0_0 a0_1 a1_0 a1_1).bind fun t175 => (if t175 = true then ((label_Leq.f a1_0 a1_1 a0_0 a0_1).bind fun t176 => (if t176 = true then (tontinelaw1_LabelOrder.j0 k (!(a0_0 == a1_0) || (!(a0_1 == a1_1))) a0_0 a0_1 a1_0 a1_1 a2_0 a2_1) else (tontinelaw1_LabelOrder.j0 k false a0_0 a0_1 a1_0 a1_1 a2_0 a2_1))) else (tontinelaw1_LabelOrder.j0 k false a0_0 a0_1 a1_0 a1_1 a2_0 a2_1))) = some r := by rw [if_pos rfl] at H; exact H
        clear H
        have H := H1
        clear H1
        replace H := Option.bind_eq_some_iff.mp H
        obtain ⟨t175, A130, H⟩ := H
        replace H : (if t175 = true then ((label_Leq.f a1_0 a1_1 a0_0 a0_1).bind fun t176 => (if t176 = true then (tontinelaw1_LabelOrder.j0 k (!(a0_0 == a1_0) || (!(a0_1 == a1_1))) a0_0 a0_1 a1_0 a1_1 a2_0 a2_1) else (tontinelaw1_LabelOrder.j0 k false a0_0 a0_1 a1_0 a1_1 a2_0 a2_1))) else (tontinelaw1_LabelOrder.j0 k false a0_0 a0_1 a1_0 a1_1 a2_0 a2_1)) = some r := H
        have A13 := Aside0.mk A130
        clear A130
        by_cases c14 : t175 = true
        · subst c14
          have H1 : ((label_Leq.f a1_0 a1_1 a0_0 a0_1).bind fun t176 => (if t176 = true then (tontinelaw1_LabelOrder.j0 k (!(a0_0 == a1_0) || (!(a0_1 == a1_1))) a0_0 a0_1 a1_0 a1_1 a2_0 a2_1) else (tontinelaw1_LabelOrder.j0 k false a0_0 a0_1 a1_0 a1_1 a2_0 a2_1))) = some r := by rw [if_pos rfl] at H; exact H
          clear H
          have H := H1
          clear H1
          replace H := Option.bind_eq_some_iff.mp H
          obtain ⟨t176, A150, H⟩ := H
          replace H : (if t176 = true then (tontinelaw1_LabelOrder.j0 k (!(a0_0 == a1_0) || (!(a0_1 == a1_1))) a0_0 a0_1 a1_0 a1_1 a2_0 a2_1) else (tontinelaw1_LabelOrder.j0 k false a0_0 a0_1 a1_0 a1_1 a2_0 a2_1)) = some r := H
          have A15 := Aside0.mk A150
          clear A150
          by_cases c16 : t176 = true
          · subst c16
            have H1 : (tontinelaw1_LabelOrder.j0 k (!(a0_0 == a1_0) || (!(a0_1 == a1_1))) a0_0 a0_1 a1_0 a1_1 a2_0 a2_1) = some r := by rw [if_pos rfl] at H; exact H
            clear H
            have H := H1
            clear H1
            have H' := Aside0.mk H
            clear H
            have hnb17 := NB170_171.out
            have hnc17 := NB171_170.out
            have hnb18 := NB170_172.out
            have hnc18 := NB172_170.out
            have hcz19_0 : w10.cell? ⟨gb170, 0, none⟩ = some (.int .i64 a0_0) := (blk_cell BK170.out 0).trans rfl
            have hcz19_1 : w10.cell? ⟨gb170, 1, none⟩ = some (.int .u64 a0_1) := (blk_cell BK170.out 1).trans rfl
            have hfz19_0 := blk_frozen BK170.out 0
            have hfz19_1 := blk_frozen BK170.out 1
            go_wp2_with (first | ((with_reducible refine gate_callee (f := 18) rfl ?_); refine goesL_ (some 11) rfl rfl Try.func18 (by kernel_rfl) rfl #[.agg #[.int .i64 a0_0, .int .u64 a0_1], .agg #[.int .i64 a0_0, .int .u64 a0_1]] rfl (by (try simp only [List.map_toArray, List.map_cons, List.map_nil]); first | done | rfl | (simp only [List.length_drop, List.length_take]; rfl)) ?_; (with_reducible refine (label_Leq.calls a0_0 a0_1 a0_0 a0_1 true _ A11.out).mono ?_); rintro e w20 ⟨rfl, hb⟩; refine ⟨_, rfl, ?_⟩; have n0_ := Aside0.mk (blk_below (g := gb170) (o := .cells #[.int .i64 a0_0, .int .u64 a0_1] 24 (0, 0)) (by (with_reducible repeat (first | refine blk_drewN ?_ _ | refine blk_drew ?_ | refine blk_alloc ?_ _)); exact BK170.out) hb); have n1_ := Aside0.mk (blk_below (g := gb171) (o := .cells #[.int .i64 a1_0, .int .u64 a1_1] 24 (0, 0)) (by (with_reducible repeat (first | refine blk_drewN ?_ _ | refine blk_drew ?_ | refine blk_alloc ?_ _)); exact BK171.out) hb); have n2_ := Aside0.mk (blk_below (g := gb172) (o := .cells #[.int .i64 a2_0, .int .u64 a2_1] 24 (0, 0)) (by (with_reducible repeat (first | refine blk_drewN ?_ _ | refine blk_drew ?_ | refine blk_alloc ?_ _)); exact BK172.out) hb); have n3_ := Aside0.mk (below_step (by repeat (first | (with_reducible first | exact HB.out | apply below_alloc | apply pw_below_drewN | apply below_drew1 | refine below_set ?_ GE170.out | refine below_set ?_ GE171.out | refine below_set ?_ GE172.out) | exact HB.out)) hb); clear BK170; clear BK171; clear BK172; clear HB; have BK170 := n0_; have BK171 := n1_; have BK172 := n2_; have HB := n3_; clear n0_ n1_ n2_ n3_; (try clear hb); (try clear hb2); (try clear hk); (try clear hi); have hcz21_0 : w20.cell? ⟨gb170, 0, none⟩ = some (.int .i64 a0_0) := (blk_cell BK170.out 0).trans rfl; have hcz21_1 : w20.cell? ⟨gb170, 1, none⟩ = some (.int .u64 a0_1) := (blk_cell BK170.out 1).trans rfl; have hfz21_0 := blk_frozen BK170.out 0; have hfz21_1 := blk_frozen BK170.out 1; have hnb22 := NB171_172.out; have hnc22 := NB172_171.out; have hcz23_0 : w20.cell? ⟨gb171, 0, none⟩ = some (.int .i64 a1_0) := (blk_cell BK171.out 0).trans rfl; have hcz23_1 : w20.cell? ⟨gb171, 1, none⟩ = some (.int .u64 a1_1) := (blk_cell BK171.out 1).trans rfl; have hfz23_0 := blk_frozen BK171.out 0; have hfz23_1 := blk_frozen BK171.out 1) | (go_at_call 18; (with_reducible refine (label_Leq.calls a0_0 a0_1 a1_0 a1_1 true _ A13.out).mono ?_); rintro e w24 ⟨rfl, hb⟩; have n0_ := Aside0.mk (blk_below (g := gb170) (o := .cells #[.int .i64 a0_0, .int .u64 a0_1] 24 (0, 0)) (by (with_reducible repeat (first | refine blk_drewN ?_ _ | refine blk_drew ?_ | refine blk_alloc ?_ _)); exact BK170.out) hb); have n1_ := Aside0.mk (blk_below (g := gb171) (o := .cells #[.int .i64 a1_0, .int .u64 a1_1] 24 (0, 0)) (by (with_reducible repeat (first | refine blk_drewN ?_ _ | refine blk_drew ?_ | refine blk_alloc ?_ _)); exact BK171.out) hb); have n2_ := Aside0.mk (blk_below (g := gb172) (o := .cells #[.int .i64 a2_0, .int .u64 a2_1] 24 (0, 0)) (by (with_reducible repeat (first | refine blk_drewN ?_ _ | refine blk_drew ?_ | refine blk_alloc ?_ _)); exact BK172.out) hb); have n3_ := Aside0.mk (below_step (by repeat (first | (with_reducible first | exact HB.out | apply below_alloc | apply pw_below_drewN | apply below_drew1 | refine below_set ?_ GE170.out | refine below_set ?_ GE171.out | refine below_set ?_ GE172.out) | exact HB.out)) hb); clear BK170; clear BK171; clear BK172; clear HB; have BK170 := n0_; have BK171 := n1_; have BK172 := n2_; have HB := n3_; clear n0_ n1_ n2_ n3_; (try clear hb); (try clear hb2); (try clear hk); (try clear hi); have hcz25_0 : w24.cell? ⟨gb171, 0, none⟩ = some (.int .i64 a1_0) := (blk_cell BK171.out 0).trans rfl; have hcz25_1 : w24.cell? ⟨gb171, 1, none⟩ = some (.int .u64 a1_1) := (blk_cell BK171.out 1).trans rfl; have hfz25_0 := blk_frozen BK171.out 0; have hfz25_1 := blk_frozen BK171.out 1; have hcz26_0 : w24.cell? ⟨gb170, 0, none⟩ = some (.int .i64 a0_0) := (blk_cell BK170.out 0).trans rfl; have hcz26_1 : w24.cell? ⟨gb170, 1, none⟩ = some (.int .u64 a0_1) := (blk_cell BK170.out 1).trans rfl; have hfz26_0 := blk_frozen BK170.out 0; have hfz26_1 := blk_frozen BK170.out 1) | (go_at_call 18; (with_reducible refine (label_Leq.calls a1_0 a1_1 a0_0 a0_1 true _ A15.out).mono ?_); rintro e w27 ⟨rfl, hb⟩; have n0_ := Aside0.mk (blk_below (g := gb170) (o := .cells #[.int .i64 a0_0, .int .u64 a0_1] 24 (0, 0)) (by (with_reducible repeat (first | refine blk_drewN ?_ _ | refine blk_drew ?_ | refine blk_alloc ?_ _)); exact BK170.out) hb); have n1_ := Aside0.mk (blk_below (g := gb171) (o := .cells #[.int .i64 a1_0, .int .u64 a1_1] 24 (0, 0)) (by (with_reducible repeat (first | refine blk_drewN ?_ _ | refine blk_drew ?_ | refine blk_alloc ?_ _)); exact BK171.out) hb); have n2_ := Aside0.mk (blk_below (g := gb172) (o := .cells #[.int .i64 a2_0, .int .u64 a2_1] 24 (0, 0)) (by (with_reducible repeat (first | refine blk_drewN ?_ _ | refine blk_drew ?_ | refine blk_alloc ?_ _)); exact BK172.out) hb); have n3_ := Aside0.mk (below_step (by repeat (first | (with_reducible first | exact HB.out | apply below_alloc | apply pw_below_drewN | apply below_drew1 | refine below_set ?_ GE170.out | refine below_set ?_ GE171.out | refine below_set ?_ GE172.out) | exact HB.out)) hb); clear BK170; clear BK171; clear BK172; clear HB; have BK170 := n0_; have BK171 := n1_; have BK172 := n2_; have HB := n3_; clear n0_ n1_ n2_ n3_; (try clear hb); (try clear hb2); (try clear hk); (try clear hi); have hcz28_0 : w27.cell? ⟨gb170, 0, none⟩ = some (.int .i64 a0_0) := (blk_cell BK170.out 0).trans rfl; have hcz28_1 : w27.cell? ⟨gb170, 1, none⟩ = some (.int .u64 a0_1) := (blk_cell BK170.out 1).trans rfl; have hfz28_0 := blk_frozen BK170.out 0; have hfz28_1 := blk_frozen BK170.out 1; have hcz29_0 : w27.cell? ⟨gb171, 0, none⟩ = some (.int .i64 a1_0) := (blk_cell BK171.out 0).trans rfl; have hcz29_1 : w27.cell? ⟨gb171, 1, none⟩ = some (.int .u64 a1_1) := (blk_cell BK171.out 1).trans rfl; have hfz29_0 := blk_frozen BK171.out 0; have hfz29_1 := blk_frozen BK171.out 1))
            go_meet
            case rel => exact ⟨_, ((!(a0_0 == a1_0) || (!(a0_1 == a1_1)))), (by first | rfl | (simp; done) | (simp [*]; done)), H', ⟨by first | omega | exact Nat.le_refl _⟩, ⟨by (with_reducible repeat (first | refine blk_drewN ?_ _ | refine blk_drew ?_ | refine blk_alloc ?_ _)); exact BK170.out⟩, ⟨by (with_reducible repeat (first | refine blk_drewN ?_ _ | refine blk_drew ?_ | refine blk_alloc ?_ _)); exact BK171.out⟩, ⟨by (with_reducible repeat (first | refine blk_drewN ?_ _ | refine blk_drew ?_ | refine blk_alloc ?_ _)); exact BK172.out⟩, ⟨by repeat (first | (with_reducible first | exact HB.out | apply below_alloc | apply pw_below_drewN | apply below_drew1 | refine below_set ?_ GE170.out | refine below_set ?_ GE171.out | refine below_set ?_ GE172.out) | exact HB.out)⟩⟩
          · replace c16 := Bool.eq_false_iff.mpr c16
            subst c16
            have H1 : (tontinelaw1_LabelOrder.j0 k false a0_0 a0_1 a1_0 a1_1 a2_0 a2_1) = some r := by rw [if_neg (show ¬ (false = true) by decide)] at H; exact H
            clear H
            have H := H1
            clear H1
            have H' := Aside0.mk H
            clear H
            have hnb30 := NB170_171.out
            have hnc30 := NB171_170.out
            have hnb31 := NB170_172.out
            have hnc31 := NB172_170.out
            have hcz32_0 : w10.cell? ⟨gb170, 0, none⟩ = some (.int .i64 a0_0) := (blk_cell BK170.out 0).trans rfl
            have hcz32_1 : w10.cell? ⟨gb170, 1, none⟩ = some (.int .u64 a0_1) := (blk_cell BK170.out 1).trans rfl
            have hfz32_0 := blk_frozen BK170.out 0
            have hfz32_1 := blk_frozen BK170.out 1
            go_wp2_with (first | ((with_reducible refine gate_callee (f := 18) rfl ?_); refine goesL_ (some 11) rfl rfl Try.func18 (by kernel_rfl) rfl #[.agg #[.int .i64 a0_0, .int .u64 a0_1], .agg #[.int .i64 a0_0, .int .u64 a0_1]] rfl (by (try simp only [List.map_toArray, List.map_cons, List.map_nil]); first | done | rfl | (simp only [List.length_drop, List.length_take]; rfl)) ?_; (with_reducible refine (label_Leq.calls a0_0 a0_1 a0_0 a0_1 true _ A11.out).mono ?_); rintro e w33 ⟨rfl, hb⟩; refine ⟨_, rfl, ?_⟩; have n0_ := Aside0.mk (blk_below (g := gb170) (o := .cells #[.int .i64 a0_0, .int .u64 a0_1] 24 (0, 0)) (by (with_reducible repeat (first | refine blk_drewN ?_ _ | refine blk_drew ?_ | refine blk_alloc ?_ _)); exact BK170.out) hb); have n1_ := Aside0.mk (blk_below (g := gb171) (o := .cells #[.int .i64 a1_0, .int .u64 a1_1] 24 (0, 0)) (by (with_reducible repeat (first | refine blk_drewN ?_ _ | refine blk_drew ?_ | refine blk_alloc ?_ _)); exact BK171.out) hb); have n2_ := Aside0.mk (blk_below (g := gb172) (o := .cells #[.int .i64 a2_0, .int .u64 a2_1] 24 (0, 0)) (by (with_reducible repeat (first | refine blk_drewN ?_ _ | refine blk_drew ?_ | refine blk_alloc ?_ _)); exact BK172.out) hb); have n3_ := Aside0.mk (below_step (by repeat (first | (with_reducible first | exact HB.out | apply below_alloc | apply pw_below_drewN | apply below_drew1 | refine below_set ?_ GE170.out | refine below_set ?_ GE171.out | refine below_set ?_ GE172.out) | exact HB.out)) hb); clear BK170; clear BK171; clear BK172; clear HB; have BK170 := n0_; have BK171 := n1_; have BK172 := n2_; have HB := n3_; clear n0_ n1_ n2_ n3_; (try clear hb); (try clear hb2); (try clear hk); (try clear hi); have hcz34_0 : w33.cell? ⟨gb170, 0, none⟩ = some (.int .i64 a0_0) := (blk_cell BK170.out 0).trans rfl; have hcz34_1 : w33.cell? ⟨gb170, 1, none⟩ = some (.int .u64 a0_1) := (blk_cell BK170.out 1).trans rfl; have hfz34_0 := blk_frozen BK170.out 0; have hfz34_1 := blk_frozen BK170.out 1; have hnb35 := NB171_172.out; have hnc35 := NB172_171.out; have hcz36_0 : w33.cell? ⟨gb171, 0, none⟩ = some (.int .i64 a1_0) := (blk_cell BK171.out 0).trans rfl; have hcz36_1 : w33.cell? ⟨gb171, 1, none⟩ = some (.int .u64 a1_1) := (blk_cell BK171.out 1).trans rfl; have hfz36_0 := blk_frozen BK171.out 0; have hfz36_1 := blk_frozen BK171.out 1) | (go_at_call 18; (with_reducible refine (label_Leq.calls a0_0 a0_1 a1_0 a1_1 true _ A13.out).mono ?_); rintro e w37 ⟨rfl, hb⟩; have n0_ := Aside0.mk (blk_below (g := gb170) (o := .cells #[.int .i64 a0_0, .int .u64 a0_1] 24 (0, 0)) (by (with_reducible repeat (first | refine blk_drewN ?_ _ | refine blk_drew ?_ | refine blk_alloc ?_ _)); exact BK170.out) hb); have n1_ := Aside0.mk (blk_below (g := gb171) (o := .cells #[.int .i64 a1_0, .int .u64 a1_1] 24 (0, 0)) (by (with_reducible repeat (first | refine blk_drewN ?_ _ | refine blk_drew ?_ | refine blk_alloc ?_ _)); exact BK171.out) hb); have n2_ := Aside0.mk (blk_below (g := gb172) (o := .cells #[.int .i64 a2_0, .int .u64 a2_1] 24 (0, 0)) (by (with_reducible repeat (first | refine blk_drewN ?_ _ | refine blk_drew ?_ | refine blk_alloc ?_ _)); exact BK172.out) hb); have n3_ := Aside0.mk (below_step (by repeat (first | (with_reducible first | exact HB.out | apply below_alloc | apply pw_below_drewN | apply below_drew1 | refine below_set ?_ GE170.out | refine below_set ?_ GE171.out | refine below_set ?_ GE172.out) | exact HB.out)) hb); clear BK170; clear BK171; clear BK172; clear HB; have BK170 := n0_; have BK171 := n1_; have BK172 := n2_; have HB := n3_; clear n0_ n1_ n2_ n3_; (try clear hb); (try clear hb2); (try clear hk); (try clear hi); have hcz38_0 : w37.cell? ⟨gb171, 0, none⟩ = some (.int .i64 a1_0) := (blk_cell BK171.out 0).trans rfl; have hcz38_1 : w37.cell? ⟨gb171, 1, none⟩ = some (.int .u64 a1_1) := (blk_cell BK171.out 1).trans rfl; have hfz38_0 := blk_frozen BK171.out 0; have hfz38_1 := blk_frozen BK171.out 1; have hcz39_0 : w37.cell? ⟨gb170, 0, none⟩ = some (.int .i64 a0_0) := (blk_cell BK170.out 0).trans rfl; have hcz39_1 : w37.cell? ⟨gb170, 1, none⟩ = some (.int .u64 a0_1) := (blk_cell BK170.out 1).trans rfl; have hfz39_0 := blk_frozen BK170.out 0; have hfz39_1 := blk_frozen BK170.out 1) | (go_at_call 18; (with_reducible refine (label_Leq.calls a1_0 a1_1 a0_0 a0_1 false _ A15.out).mono ?_); rintro e w40 ⟨rfl, hb⟩; have n0_ := Aside0.mk (blk_below (g := gb170) (o := .cells #[.int .i64 a0_0, .int .u64 a0_1] 24 (0, 0)) (by (with_reducible repeat (first | refine blk_drewN ?_ _ | refine blk_drew ?_ | refine blk_alloc ?_ _)); exact BK170.out) hb); have n1_ := Aside0.mk (blk_below (g := gb171) (o := .cells #[.int .i64 a1_0, .int .u64 a1_1] 24 (0, 0)) (by (with_reducible repeat (first | refine blk_drewN ?_ _ | refine blk_drew ?_ | refine blk_alloc ?_ _)); exact BK171.out) hb); have n2_ := Aside0.mk (blk_below (g := gb172) (o := .cells #[.int .i64 a2_0, .int .u64 a2_1] 24 (0, 0)) (by (with_reducible repeat (first | refine blk_drewN ?_ _ | refine blk_drew ?_ | refine blk_alloc ?_ _)); exact BK172.out) hb); have n3_ := Aside0.mk (below_step (by repeat (first | (with_reducible first | exact HB.out | apply below_alloc | apply pw_below_drewN | apply below_drew1 | refine below_set ?_ GE170.out | refine below_set ?_ GE171.out | refine below_set ?_ GE172.out) | exact HB.out)) hb); clear BK170; clear BK171; clear BK172; clear HB; have BK170 := n0_; have BK171 := n1_; have BK172 := n2_; have HB := n3_; clear n0_ n1_ n2_ n3_; (try clear hb); (try clear hb2); (try clear hk); (try clear hi)))
            go_meet
            case rel => exact ⟨_, (false), (by first | rfl | (simp; done) | (simp [*]; done)), H', ⟨by first | omega | exact Nat.le_refl _⟩, ⟨by (with_reducible repeat (first | refine blk_drewN ?_ _ | refine blk_drew ?_ | refine blk_alloc ?_ _)); exact BK170.out⟩, ⟨by (with_reducible repeat (first | refine blk_drewN ?_ _ | refine blk_drew ?_ | refine blk_alloc ?_ _)); exact BK171.out⟩, ⟨by (with_reducible repeat (first | refine blk_drewN ?_ _ | refine blk_drew ?_ | refine blk_alloc ?_ _)); exact BK172.out⟩, ⟨by repeat (first | (with_reducible first | exact HB.out | apply below_alloc | apply pw_below_drewN | apply below_drew1 | refine below_set ?_ GE170.out | refine below_set ?_ GE171.out | refine below_set ?_ GE172.out) | exact HB.out)⟩⟩
        · replace c14 := Bool.eq_false_iff.mpr c14
          subst c14
          have H1 : (tontinelaw1_LabelOrder.j0 k false a0_0 a0_1 a1_0 a1_1 a2_0 a2_1) = some r := by rw [if_neg (show ¬ (false = true) by decide)] at H; exact H
          clear H
          have H := H1
          clear H1
          have H' := Aside0.mk H
          clear H
          have hnb41 := NB170_171.out
          have hnc41 := NB171_170.out
          have hnb42 := NB170_172.out
          have hnc42 := NB172_170.out
          have hcz43_0 : w10.cell? ⟨gb170, 0, none⟩ = some (.int .i64 a0_0) := (blk_cell BK170.out 0).trans rfl
          have hcz43_1 : w10.cell? ⟨gb170, 1, none⟩ = some (.int .u64 a0_1) := (blk_cell BK170.out 1).trans rfl
          have hfz43_0 := blk_frozen BK170.out 0
          have hfz43_1 := blk_frozen BK170.out 1
          go_wp2_with (first | ((with_reducible refine gate_callee (f := 18) rfl ?_); refine goesL_ (some 11) rfl rfl Try.func18 (by kernel_rfl) rfl #[.agg #[.int .i64 a0_0, .int .u64 a0_1], .agg #[.int .i64 a0_0, .int .u64 a0_1]] rfl (by (try simp only [List.map_toArray, List.map_cons, List.map_nil]); first | done | rfl | (simp only [List.length_drop, List.length_take]; rfl)) ?_; (with_reducible refine (label_Leq.calls a0_0 a0_1 a0_0 a0_1 true _ A11.out).mono ?_); rintro e w44 ⟨rfl, hb⟩; refine ⟨_, rfl, ?_⟩; have n0_ := Aside0.mk (blk_below (g := gb170) (o := .cells #[.int .i64 a0_0, .int .u64 a0_1] 24 (0, 0)) (by (with_reducible repeat (first | refine blk_drewN ?_ _ | refine blk_drew ?_ | refine blk_alloc ?_ _)); exact BK170.out) hb); have n1_ := Aside0.mk (blk_below (g := gb171) (o := .cells #[.int .i64 a1_0, .int .u64 a1_1] 24 (0, 0)) (by (with_reducible repeat (first | refine blk_drewN ?_ _ | refine blk_drew ?_ | refine blk_alloc ?_ _)); exact BK171.out) hb); have n2_ := Aside0.mk (blk_below (g := gb172) (o := .cells #[.int .i64 a2_0, .int .u64 a2_1] 24 (0, 0)) (by (with_reducible repeat (first | refine blk_drewN ?_ _ | refine blk_drew ?_ | refine blk_alloc ?_ _)); exact BK172.out) hb); have n3_ := Aside0.mk (below_step (by repeat (first | (with_reducible first | exact HB.out | apply below_alloc | apply pw_below_drewN | apply below_drew1 | refine below_set ?_ GE170.out | refine below_set ?_ GE171.out | refine below_set ?_ GE172.out) | exact HB.out)) hb); clear BK170; clear BK171; clear BK172; clear HB; have BK170 := n0_; have BK171 := n1_; have BK172 := n2_; have HB := n3_; clear n0_ n1_ n2_ n3_; (try clear hb); (try clear hb2); (try clear hk); (try clear hi); have hcz45_0 : w44.cell? ⟨gb170, 0, none⟩ = some (.int .i64 a0_0) := (blk_cell BK170.out 0).trans rfl; have hcz45_1 : w44.cell? ⟨gb170, 1, none⟩ = some (.int .u64 a0_1) := (blk_cell BK170.out 1).trans rfl; have hfz45_0 := blk_frozen BK170.out 0; have hfz45_1 := blk_frozen BK170.out 1; have hnb46 := NB171_172.out; have hnc46 := NB172_171.out; have hcz47_0 : w44.cell? ⟨gb171, 0, none⟩ = some (.int .i64 a1_0) := (blk_cell BK171.out 0).trans rfl; have hcz47_1 : w44.cell? ⟨gb171, 1, none⟩ = some (.int .u64 a1_1) := (blk_cell BK171.out 1).trans rfl; have hfz47_0 := blk_frozen BK171.out 0; have hfz47_1 := blk_frozen BK171.out 1) | (go_at_call 18; (with_reducible refine (label_Leq.calls a0_0 a0_1 a1_0 a1_1 false _ A13.out).mono ?_); rintro e w48 ⟨rfl, hb⟩; have n0_ := Aside0.mk (blk_below (g := gb170) (o := .cells #[.int .i64 a0_0, .int .u64 a0_1] 24 (0, 0)) (by (with_reducible repeat (first | refine blk_drewN ?_ _ | refine blk_drew ?_ | refine blk_alloc ?_ _)); exact BK170.out) hb); have n1_ := Aside0.mk (blk_below (g := gb171) (o := .cells #[.int .i64 a1_0, .int .u64 a1_1] 24 (0, 0)) (by (with_reducible repeat (first | refine blk_drewN ?_ _ | refine blk_drew ?_ | refine blk_alloc ?_ _)); exact BK171.out) hb); have n2_ := Aside0.mk (blk_below (g := gb172) (o := .cells #[.int .i64 a2_0, .int .u64 a2_1] 24 (0, 0)) (by (with_reducible repeat (first | refine blk_drewN ?_ _ | refine blk_drew ?_ | refine blk_alloc ?_ _)); exact BK172.out) hb); have n3_ := Aside0.mk (below_step (by repeat (first | (with_reducible first | exact HB.out | apply below_alloc | apply pw_below_drewN | apply below_drew1 | refine below_set ?_ GE170.out | refine below_set ?_ GE171.out | refine below_set ?_ GE172.out) | exact HB.out)) hb); clear BK170; clear BK171; clear BK172; clear HB; have BK170 := n0_; have BK171 := n1_; have BK172 := n2_; have HB := n3_; clear n0_ n1_ n2_ n3_; (try clear hb); (try clear hb2); (try clear hk); (try clear hi)))
          go_meet
          case rel => exact ⟨_, (false), (by first | rfl | (simp; done) | (simp [*]; done)), H', ⟨by first | omega | exact Nat.le_refl _⟩, ⟨by (with_reducible repeat (first | refine blk_drewN ?_ _ | refine blk_drew ?_ | refine blk_alloc ?_ _)); exact BK170.out⟩, ⟨by (with_reducible repeat (first | refine blk_drewN ?_ _ | refine blk_drew ?_ | refine blk_alloc ?_ _)); exact BK171.out⟩, ⟨by (with_reducible repeat (first | refine blk_drewN ?_ _ | refine blk_drew ?_ | refine blk_alloc ?_ _)); exact BK172.out⟩, ⟨by repeat (first | (with_reducible first | exact HB.out | apply below_alloc | apply pw_below_drewN | apply below_drew1 | refine below_set ?_ GE170.out | refine below_set ?_ GE171.out | refine below_set ?_ GE172.out) | exact HB.out)⟩⟩
      · replace c12 := Bool.eq_false_iff.mpr c12
        subst c12
        have H1 : (tontinelaw1_LabelOrder.j0 k true a0_0 a0_1 a1_0 a1_1 a2_0 a2_1) = some r := by rw [if_neg (show ¬ (false = true) by decide)] at H; exact H
        clear H
        have H := H1
        clear H1
        have H' := Aside0.mk H
        clear H
        have hnb49 := NB170_171.out
        have hnc49 := NB171_170.out
        have hnb50 := NB170_172.out
        have hnc50 := NB172_170.out
        have hcz51_0 : w10.cell? ⟨gb170, 0, none⟩ = some (.int .i64 a0_0) := (blk_cell BK170.out 0).trans rfl
        have hcz51_1 : w10.cell? ⟨gb170, 1, none⟩ = some (.int .u64 a0_1) := (blk_cell BK170.out 1).trans rfl
        have hfz51_0 := blk_frozen BK170.out 0
        have hfz51_1 := blk_frozen BK170.out 1
        go_wp2_with (first | ((with_reducible refine gate_callee (f := 18) rfl ?_); refine goesL_ (some 11) rfl rfl Try.func18 (by kernel_rfl) rfl #[.agg #[.int .i64 a0_0, .int .u64 a0_1], .agg #[.int .i64 a0_0, .int .u64 a0_1]] rfl (by (try simp only [List.map_toArray, List.map_cons, List.map_nil]); first | done | rfl | (simp only [List.length_drop, List.length_take]; rfl)) ?_; (with_reducible refine (label_Leq.calls a0_0 a0_1 a0_0 a0_1 false _ A11.out).mono ?_); rintro e w52 ⟨rfl, hb⟩; refine ⟨_, rfl, ?_⟩; have n0_ := Aside0.mk (blk_below (g := gb170) (o := .cells #[.int .i64 a0_0, .int .u64 a0_1] 24 (0, 0)) (by (with_reducible repeat (first | refine blk_drewN ?_ _ | refine blk_drew ?_ | refine blk_alloc ?_ _)); exact BK170.out) hb); have n1_ := Aside0.mk (blk_below (g := gb171) (o := .cells #[.int .i64 a1_0, .int .u64 a1_1] 24 (0, 0)) (by (with_reducible repeat (first | refine blk_drewN ?_ _ | refine blk_drew ?_ | refine blk_alloc ?_ _)); exact BK171.out) hb); have n2_ := Aside0.mk (blk_below (g := gb172) (o := .cells #[.int .i64 a2_0, .int .u64 a2_1] 24 (0, 0)) (by (with_reducible repeat (first | refine blk_drewN ?_ _ | refine blk_drew ?_ | refine blk_alloc ?_ _)); exact BK172.out) hb); have n3_ := Aside0.mk (below_step (by repeat (first | (with_reducible first | exact HB.out | apply below_alloc | apply pw_below_drewN | apply below_drew1 | refine below_set ?_ GE170.out | refine below_set ?_ GE171.out | refine below_set ?_ GE172.out) | exact HB.out)) hb); clear BK170; clear BK171; clear BK172; clear HB; have BK170 := n0_; have BK171 := n1_; have BK172 := n2_; have HB := n3_; clear n0_ n1_ n2_ n3_; (try clear hb); (try clear hb2); (try clear hk); (try clear hi)))
        go_meet
        case rel => exact ⟨_, (true), (by first | rfl | (simp; done) | (simp [*]; done)), H', ⟨by first | omega | exact Nat.le_refl _⟩, ⟨by (with_reducible repeat (first | refine blk_drewN ?_ _ | refine blk_drew ?_ | refine blk_alloc ?_ _)); exact BK170.out⟩, ⟨by (with_reducible repeat (first | refine blk_drewN ?_ _ | refine blk_drew ?_ | refine blk_alloc ?_ _)); exact BK171.out⟩, ⟨by (with_reducible repeat (first | refine blk_drewN ?_ _ | refine blk_drew ?_ | refine blk_alloc ?_ _)); exact BK172.out⟩, ⟨by repeat (first | (with_reducible first | exact HB.out | apply below_alloc | apply pw_below_drewN | apply below_drew1 | refine below_set ?_ GE170.out | refine below_set ?_ GE171.out | refine below_set ?_ GE172.out) | exact HB.out)⟩⟩
    case rest =>
      clear HC6
      try clear c1
      try clear c2
      try clear p2
      try clear c3
      try clear c4
      try clear c5
      try clear c12
      try clear c14
      try clear c15
      try clear c16
      try clear c17
      try clear c18
      try clear c22
      try clear c30
      try clear c31
      try clear c35
      try clear c41
      try clear c42
      try clear c46
      try clear c49
      try clear c50
      try clear hcz19_0
      try clear hcz19_1
      try clear hcz21_0
      try clear hcz21_1
      try clear hcz23_0
      try clear hcz23_1
      try clear hcz25_0
      try clear hcz25_1
      try clear hcz26_0
      try clear hcz26_1
      try clear hcz28_0
      try clear hcz28_1
      try clear hcz29_0
      try clear hcz29_1
      try clear hcz32_0
      try clear hcz32_1
      try clear hcz34_0
      try clear hcz34_1
      try clear hcz36_0
      try clear hcz36_1
      try clear hcz38_0
      try clear hcz38_1
      try clear hcz39_0
      try clear hcz39_1
      try clear hcz43_0
      try clear hcz43_1
      try clear hcz45_0
      try clear hcz45_1
      try clear hcz47_0
      try clear hcz47_1
      try clear hcz51_0
      try clear hcz51_1
      try clear hfz19_0
      try clear hfz19_1
      try clear hfz21_0
      try clear hfz21_1
      try clear hfz23_0
      try clear hfz23_1
      try clear hfz25_0
      try clear hfz25_1
      try clear hfz26_0
      try clear hfz26_1
      try clear hfz28_0
      try clear hfz28_1
      try clear hfz29_0
      try clear hfz29_1
      try clear hfz32_0
      try clear hfz32_1
      try clear hfz34_0
      try clear hfz34_1
      try clear hfz36_0
      try clear hfz36_1
      try clear hfz38_0
      try clear hfz38_1
      try clear hfz39_0
      try clear hfz39_1
      try clear hfz43_0
      try clear hfz43_1
      try clear hfz45_0
      try clear hfz45_1
      try clear hfz47_0
      try clear hfz47_1
      try clear hfz51_0
      try clear hfz51_1
      obtain ⟨kq, x27_5, rfl, HA, HJ5, BK170, BK171, BK172, HB⟩ := hcut
      cases kq with
      | zero => exact absurd HA.out (by simp [tontinelaw1_LabelOrder.j0])
      | succ kj5 =>
        have H := HA.out
        clear HA
        simp only [tontinelaw1_LabelOrder.j0] at H
        by_cases c53 : x27_5 = true
        · subst c53
          have H1 : (some false) = some r := by rw [if_pos rfl] at H; exact H
          clear H
          have H := H1
          clear H1
          exact absurd ((Option.some.inj H).trans HRT.out) (by decide)
        · replace c53 := Bool.eq_false_iff.mpr c53
          subst c53
          have H1 : ((label_Leq.f a0_0 a0_1 a1_0 a1_1).bind fun t177 => (if t177 = true then ((label_Leq.f a1_0 a1_1 a2_0 a2_1).bind fun t178 => (if t178 = true then ((label_Leq.f a0_0 a0_1 a2_0 a2_1).bind fun t179 => (some t179)) else (some true))) else (some true))) = some r := by rw [if_neg (show ¬ (false = true) by decide)] at H; exact H
          clear H
          have H := H1
          clear H1
          replace H := Option.bind_eq_some_iff.mp H
          obtain ⟨t177, A540, H⟩ := H
          replace H : (if t177 = true then ((label_Leq.f a1_0 a1_1 a2_0 a2_1).bind fun t178 => (if t178 = true then ((label_Leq.f a0_0 a0_1 a2_0 a2_1).bind fun t179 => (some t179)) else (some true))) else (some true)) = some r := H
          have A54 := Aside0.mk A540
          clear A540
          by_cases c55 : t177 = true
          · subst c55
            have H1 : ((label_Leq.f a1_0 a1_1 a2_0 a2_1).bind fun t178 => (if t178 = true then ((label_Leq.f a0_0 a0_1 a2_0 a2_1).bind fun t179 => (some t179)) else (some true))) = some r := by rw [if_pos rfl] at H; exact H
            clear H
            have H := H1
            clear H1
            replace H := Option.bind_eq_some_iff.mp H
            obtain ⟨t178, A560, H⟩ := H
            replace H : (if t178 = true then ((label_Leq.f a0_0 a0_1 a2_0 a2_1).bind fun t179 => (some t179)) else (some true)) = some r := H
            have A56 := Aside0.mk A560
            clear A560
            by_cases c57 : t178 = true
            · subst c57
              have H1 : ((label_Leq.f a0_0 a0_1 a2_0 a2_1).bind fun t179 => (some t179)) = some r := by rw [if_pos rfl] at H; exact H
              clear H
              have H := H1
              clear H1
              replace H := Option.bind_eq_some_iff.mp H
              obtain ⟨t179, A580, H⟩ := H
              replace H : (some t179) = some r := H
              have A58 := Aside0.mk A580
              clear A580
              obtain rfl := Option.some.inj H
              have hnb59 := NB170_171.out
              have hnc59 := NB171_170.out
              have hnb60 := NB170_172.out
              have hnc60 := NB172_170.out
              have hcz61_0 : wc.cell? ⟨gb170, 0, none⟩ = some (.int .i64 a0_0) := (blk_cell BK170.out 0).trans rfl
              have hcz61_1 : wc.cell? ⟨gb170, 1, none⟩ = some (.int .u64 a0_1) := (blk_cell BK170.out 1).trans rfl
              have hfz61_0 := blk_frozen BK170.out 0
              have hfz61_1 := blk_frozen BK170.out 1
              have hnb62 := NB171_172.out
              have hnc62 := NB172_171.out
              have hcz63_0 : wc.cell? ⟨gb171, 0, none⟩ = some (.int .i64 a1_0) := (blk_cell BK171.out 0).trans rfl
              have hcz63_1 : wc.cell? ⟨gb171, 1, none⟩ = some (.int .u64 a1_1) := (blk_cell BK171.out 1).trans rfl
              have hfz63_0 := blk_frozen BK171.out 0
              have hfz63_1 := blk_frozen BK171.out 1
              go_wp2_with (first | ((with_reducible refine gate_callee (f := 18) rfl ?_); refine goesL_ (some 30) rfl rfl Try.func18 (by kernel_rfl) rfl #[.agg #[.int .i64 a0_0, .int .u64 a0_1], .agg #[.int .i64 a1_0, .int .u64 a1_1]] rfl (by (try simp only [List.map_toArray, List.map_cons, List.map_nil]); first | done | rfl | (simp only [List.length_drop, List.length_take]; rfl)) ?_; (with_reducible refine (label_Leq.calls a0_0 a0_1 a1_0 a1_1 true _ A54.out).mono ?_); rintro e w64 ⟨rfl, hb⟩; refine ⟨_, rfl, ?_⟩; have n0_ := Aside0.mk (blk_below (g := gb170) (o := .cells #[.int .i64 a0_0, .int .u64 a0_1] 24 (0, 0)) (by (with_reducible repeat (first | refine blk_drewN ?_ _ | refine blk_drew ?_ | refine blk_alloc ?_ _)); exact BK170.out) hb); have n1_ := Aside0.mk (blk_below (g := gb171) (o := .cells #[.int .i64 a1_0, .int .u64 a1_1] 24 (0, 0)) (by (with_reducible repeat (first | refine blk_drewN ?_ _ | refine blk_drew ?_ | refine blk_alloc ?_ _)); exact BK171.out) hb); have n2_ := Aside0.mk (blk_below (g := gb172) (o := .cells #[.int .i64 a2_0, .int .u64 a2_1] 24 (0, 0)) (by (with_reducible repeat (first | refine blk_drewN ?_ _ | refine blk_drew ?_ | refine blk_alloc ?_ _)); exact BK172.out) hb); have n3_ := Aside0.mk (below_step (by repeat (first | (with_reducible first | exact HB.out | apply below_alloc | apply pw_below_drewN | apply below_drew1 | refine below_set ?_ GE170.out | refine below_set ?_ GE171.out | refine below_set ?_ GE172.out) | exact HB.out)) hb); clear BK170; clear BK171; clear BK172; clear HB; have BK170 := n0_; have BK171 := n1_; have BK172 := n2_; have HB := n3_; clear n0_ n1_ n2_ n3_; (try clear hb); (try clear hb2); (try clear hk); (try clear hi); have hcz65_0 : w64.cell? ⟨gb171, 0, none⟩ = some (.int .i64 a1_0) := (blk_cell BK171.out 0).trans rfl; have hcz65_1 : w64.cell? ⟨gb171, 1, none⟩ = some (.int .u64 a1_1) := (blk_cell BK171.out 1).trans rfl; have hfz65_0 := blk_frozen BK171.out 0; have hfz65_1 := blk_frozen BK171.out 1; have hcz66_0 : w64.cell? ⟨gb172, 0, none⟩ = some (.int .i64 a2_0) := (blk_cell BK172.out 0).trans rfl; have hcz66_1 : w64.cell? ⟨gb172, 1, none⟩ = some (.int .u64 a2_1) := (blk_cell BK172.out 1).trans rfl; have hfz66_0 := blk_frozen BK172.out 0; have hfz66_1 := blk_frozen BK172.out 1) | (go_at_call 18; (with_reducible refine (label_Leq.calls a1_0 a1_1 a2_0 a2_1 true _ A56.out).mono ?_); rintro e w67 ⟨rfl, hb⟩; have n0_ := Aside0.mk (blk_below (g := gb170) (o := .cells #[.int .i64 a0_0, .int .u64 a0_1] 24 (0, 0)) (by (with_reducible repeat (first | refine blk_drewN ?_ _ | refine blk_drew ?_ | refine blk_alloc ?_ _)); exact BK170.out) hb); have n1_ := Aside0.mk (blk_below (g := gb171) (o := .cells #[.int .i64 a1_0, .int .u64 a1_1] 24 (0, 0)) (by (with_reducible repeat (first | refine blk_drewN ?_ _ | refine blk_drew ?_ | refine blk_alloc ?_ _)); exact BK171.out) hb); have n2_ := Aside0.mk (blk_below (g := gb172) (o := .cells #[.int .i64 a2_0, .int .u64 a2_1] 24 (0, 0)) (by (with_reducible repeat (first | refine blk_drewN ?_ _ | refine blk_drew ?_ | refine blk_alloc ?_ _)); exact BK172.out) hb); have n3_ := Aside0.mk (below_step (by repeat (first | (with_reducible first | exact HB.out | apply below_alloc | apply pw_below_drewN | apply below_drew1 | refine below_set ?_ GE170.out | refine below_set ?_ GE171.out | refine below_set ?_ GE172.out) | exact HB.out)) hb); clear BK170; clear BK171; clear BK172; clear HB; have BK170 := n0_; have BK171 := n1_; have BK172 := n2_; have HB := n3_; clear n0_ n1_ n2_ n3_; (try clear hb); (try clear hb2); (try clear hk); (try clear hi); have hcz68_0 : w67.cell? ⟨gb170, 0, none⟩ = some (.int .i64 a0_0) := (blk_cell BK170.out 0).trans rfl; have hcz68_1 : w67.cell? ⟨gb170, 1, none⟩ = some (.int .u64 a0_1) := (blk_cell BK170.out 1).trans rfl; have hfz68_0 := blk_frozen BK170.out 0; have hfz68_1 := blk_frozen BK170.out 1; have hcz69_0 : w67.cell? ⟨gb172, 0, none⟩ = some (.int .i64 a2_0) := (blk_cell BK172.out 0).trans rfl; have hcz69_1 : w67.cell? ⟨gb172, 1, none⟩ = some (.int .u64 a2_1) := (blk_cell BK172.out 1).trans rfl; have hfz69_0 := blk_frozen BK172.out 0; have hfz69_1 := blk_frozen BK172.out 1) | (go_at_call 18; (with_reducible refine (label_Leq.calls a0_0 a0_1 a2_0 a2_1 t179 _ A58.out).mono ?_); rintro e w70 ⟨rfl, hb⟩; have n0_ := Aside0.mk (blk_below (g := gb170) (o := .cells #[.int .i64 a0_0, .int .u64 a0_1] 24 (0, 0)) (by (with_reducible repeat (first | refine blk_drewN ?_ _ | refine blk_drew ?_ | refine blk_alloc ?_ _)); exact BK170.out) hb); have n1_ := Aside0.mk (blk_below (g := gb171) (o := .cells #[.int .i64 a1_0, .int .u64 a1_1] 24 (0, 0)) (by (with_reducible repeat (first | refine blk_drewN ?_ _ | refine blk_drew ?_ | refine blk_alloc ?_ _)); exact BK171.out) hb); have n2_ := Aside0.mk (blk_below (g := gb172) (o := .cells #[.int .i64 a2_0, .int .u64 a2_1] 24 (0, 0)) (by (with_reducible repeat (first | refine blk_drewN ?_ _ | refine blk_drew ?_ | refine blk_alloc ?_ _)); exact BK172.out) hb); have n3_ := Aside0.mk (below_step (by repeat (first | (with_reducible first | exact HB.out | apply below_alloc | apply pw_below_drewN | apply below_drew1 | refine below_set ?_ GE170.out | refine below_set ?_ GE171.out | refine below_set ?_ GE172.out) | exact HB.out)) hb); clear BK170; clear BK171; clear BK172; clear HB; have BK170 := n0_; have BK171 := n1_; have BK172 := n2_; have HB := n3_; clear n0_ n1_ n2_ n3_; (try clear hb); (try clear hb2); (try clear hk); (try clear hi)))
              go_ret
              exact ⟨by first | rfl | (simp [errW_none, errW_some] <;> rfl) | (simp [*, errW_none, errW_some] <;> rfl), by repeat (first | (with_reducible first | exact HB.out | apply below_alloc | apply pw_below_drewN | apply below_drew1 | refine below_set ?_ GE170.out | refine below_set ?_ GE171.out | refine below_set ?_ GE172.out) | exact HB.out)⟩
            · replace c57 := Bool.eq_false_iff.mpr c57
              subst c57
              have H1 : (some true) = some r := by rw [if_neg (show ¬ (false = true) by decide)] at H; exact H
              clear H
              have H := H1
              clear H1
              obtain rfl := Option.some.inj H
              have hnb71 := NB170_171.out
              have hnc71 := NB171_170.out
              have hnb72 := NB170_172.out
              have hnc72 := NB172_170.out
              have hcz73_0 : wc.cell? ⟨gb170, 0, none⟩ = some (.int .i64 a0_0) := (blk_cell BK170.out 0).trans rfl
              have hcz73_1 : wc.cell? ⟨gb170, 1, none⟩ = some (.int .u64 a0_1) := (blk_cell BK170.out 1).trans rfl
              have hfz73_0 := blk_frozen BK170.out 0
              have hfz73_1 := blk_frozen BK170.out 1
              have hnb74 := NB171_172.out
              have hnc74 := NB172_171.out
              have hcz75_0 : wc.cell? ⟨gb171, 0, none⟩ = some (.int .i64 a1_0) := (blk_cell BK171.out 0).trans rfl
              have hcz75_1 : wc.cell? ⟨gb171, 1, none⟩ = some (.int .u64 a1_1) := (blk_cell BK171.out 1).trans rfl
              have hfz75_0 := blk_frozen BK171.out 0
              have hfz75_1 := blk_frozen BK171.out 1
              go_wp2_with (first | ((with_reducible refine gate_callee (f := 18) rfl ?_); refine goesL_ (some 30) rfl rfl Try.func18 (by kernel_rfl) rfl #[.agg #[.int .i64 a0_0, .int .u64 a0_1], .agg #[.int .i64 a1_0, .int .u64 a1_1]] rfl (by (try simp only [List.map_toArray, List.map_cons, List.map_nil]); first | done | rfl | (simp only [List.length_drop, List.length_take]; rfl)) ?_; (with_reducible refine (label_Leq.calls a0_0 a0_1 a1_0 a1_1 true _ A54.out).mono ?_); rintro e w76 ⟨rfl, hb⟩; refine ⟨_, rfl, ?_⟩; have n0_ := Aside0.mk (blk_below (g := gb170) (o := .cells #[.int .i64 a0_0, .int .u64 a0_1] 24 (0, 0)) (by (with_reducible repeat (first | refine blk_drewN ?_ _ | refine blk_drew ?_ | refine blk_alloc ?_ _)); exact BK170.out) hb); have n1_ := Aside0.mk (blk_below (g := gb171) (o := .cells #[.int .i64 a1_0, .int .u64 a1_1] 24 (0, 0)) (by (with_reducible repeat (first | refine blk_drewN ?_ _ | refine blk_drew ?_ | refine blk_alloc ?_ _)); exact BK171.out) hb); have n2_ := Aside0.mk (blk_below (g := gb172) (o := .cells #[.int .i64 a2_0, .int .u64 a2_1] 24 (0, 0)) (by (with_reducible repeat (first | refine blk_drewN ?_ _ | refine blk_drew ?_ | refine blk_alloc ?_ _)); exact BK172.out) hb); have n3_ := Aside0.mk (below_step (by repeat (first | (with_reducible first | exact HB.out | apply below_alloc | apply pw_below_drewN | apply below_drew1 | refine below_set ?_ GE170.out | refine below_set ?_ GE171.out | refine below_set ?_ GE172.out) | exact HB.out)) hb); clear BK170; clear BK171; clear BK172; clear HB; have BK170 := n0_; have BK171 := n1_; have BK172 := n2_; have HB := n3_; clear n0_ n1_ n2_ n3_; (try clear hb); (try clear hb2); (try clear hk); (try clear hi); have hcz77_0 : w76.cell? ⟨gb171, 0, none⟩ = some (.int .i64 a1_0) := (blk_cell BK171.out 0).trans rfl; have hcz77_1 : w76.cell? ⟨gb171, 1, none⟩ = some (.int .u64 a1_1) := (blk_cell BK171.out 1).trans rfl; have hfz77_0 := blk_frozen BK171.out 0; have hfz77_1 := blk_frozen BK171.out 1; have hcz78_0 : w76.cell? ⟨gb172, 0, none⟩ = some (.int .i64 a2_0) := (blk_cell BK172.out 0).trans rfl; have hcz78_1 : w76.cell? ⟨gb172, 1, none⟩ = some (.int .u64 a2_1) := (blk_cell BK172.out 1).trans rfl; have hfz78_0 := blk_frozen BK172.out 0; have hfz78_1 := blk_frozen BK172.out 1) | (go_at_call 18; (with_reducible refine (label_Leq.calls a1_0 a1_1 a2_0 a2_1 false _ A56.out).mono ?_); rintro e w79 ⟨rfl, hb⟩; have n0_ := Aside0.mk (blk_below (g := gb170) (o := .cells #[.int .i64 a0_0, .int .u64 a0_1] 24 (0, 0)) (by (with_reducible repeat (first | refine blk_drewN ?_ _ | refine blk_drew ?_ | refine blk_alloc ?_ _)); exact BK170.out) hb); have n1_ := Aside0.mk (blk_below (g := gb171) (o := .cells #[.int .i64 a1_0, .int .u64 a1_1] 24 (0, 0)) (by (with_reducible repeat (first | refine blk_drewN ?_ _ | refine blk_drew ?_ | refine blk_alloc ?_ _)); exact BK171.out) hb); have n2_ := Aside0.mk (blk_below (g := gb172) (o := .cells #[.int .i64 a2_0, .int .u64 a2_1] 24 (0, 0)) (by (with_reducible repeat (first | refine blk_drewN ?_ _ | refine blk_drew ?_ | refine blk_alloc ?_ _)); exact BK172.out) hb); have n3_ := Aside0.mk (below_step (by repeat (first | (with_reducible first | exact HB.out | apply below_alloc | apply pw_below_drewN | apply below_drew1 | refine below_set ?_ GE170.out | refine below_set ?_ GE171.out | refine below_set ?_ GE172.out) | exact HB.out)) hb); clear BK170; clear BK171; clear BK172; clear HB; have BK170 := n0_; have BK171 := n1_; have BK172 := n2_; have HB := n3_; clear n0_ n1_ n2_ n3_; (try clear hb); (try clear hb2); (try clear hk); (try clear hi)))
              go_ret
              exact ⟨by first | rfl | (simp [errW_none, errW_some] <;> rfl) | (simp [*, errW_none, errW_some] <;> rfl), by repeat (first | (with_reducible first | exact HB.out | apply below_alloc | apply pw_below_drewN | apply below_drew1 | refine below_set ?_ GE170.out | refine below_set ?_ GE171.out | refine below_set ?_ GE172.out) | exact HB.out)⟩
          · replace c55 := Bool.eq_false_iff.mpr c55
            subst c55
            have H1 : (some true) = some r := by rw [if_neg (show ¬ (false = true) by decide)] at H; exact H
            clear H
            have H := H1
            clear H1
            obtain rfl := Option.some.inj H
            have hnb80 := NB170_171.out
            have hnc80 := NB171_170.out
            have hnb81 := NB170_172.out
            have hnc81 := NB172_170.out
            have hcz82_0 : wc.cell? ⟨gb170, 0, none⟩ = some (.int .i64 a0_0) := (blk_cell BK170.out 0).trans rfl
            have hcz82_1 : wc.cell? ⟨gb170, 1, none⟩ = some (.int .u64 a0_1) := (blk_cell BK170.out 1).trans rfl
            have hfz82_0 := blk_frozen BK170.out 0
            have hfz82_1 := blk_frozen BK170.out 1
            have hnb83 := NB171_172.out
            have hnc83 := NB172_171.out
            have hcz84_0 : wc.cell? ⟨gb171, 0, none⟩ = some (.int .i64 a1_0) := (blk_cell BK171.out 0).trans rfl
            have hcz84_1 : wc.cell? ⟨gb171, 1, none⟩ = some (.int .u64 a1_1) := (blk_cell BK171.out 1).trans rfl
            have hfz84_0 := blk_frozen BK171.out 0
            have hfz84_1 := blk_frozen BK171.out 1
            go_wp2_with (first | ((with_reducible refine gate_callee (f := 18) rfl ?_); refine goesL_ (some 30) rfl rfl Try.func18 (by kernel_rfl) rfl #[.agg #[.int .i64 a0_0, .int .u64 a0_1], .agg #[.int .i64 a1_0, .int .u64 a1_1]] rfl (by (try simp only [List.map_toArray, List.map_cons, List.map_nil]); first | done | rfl | (simp only [List.length_drop, List.length_take]; rfl)) ?_; (with_reducible refine (label_Leq.calls a0_0 a0_1 a1_0 a1_1 false _ A54.out).mono ?_); rintro e w85 ⟨rfl, hb⟩; refine ⟨_, rfl, ?_⟩; have n0_ := Aside0.mk (blk_below (g := gb170) (o := .cells #[.int .i64 a0_0, .int .u64 a0_1] 24 (0, 0)) (by (with_reducible repeat (first | refine blk_drewN ?_ _ | refine blk_drew ?_ | refine blk_alloc ?_ _)); exact BK170.out) hb); have n1_ := Aside0.mk (blk_below (g := gb171) (o := .cells #[.int .i64 a1_0, .int .u64 a1_1] 24 (0, 0)) (by (with_reducible repeat (first | refine blk_drewN ?_ _ | refine blk_drew ?_ | refine blk_alloc ?_ _)); exact BK171.out) hb); have n2_ := Aside0.mk (blk_below (g := gb172) (o := .cells #[.int .i64 a2_0, .int .u64 a2_1] 24 (0, 0)) (by (with_reducible repeat (first | refine blk_drewN ?_ _ | refine blk_drew ?_ | refine blk_alloc ?_ _)); exact BK172.out) hb); have n3_ := Aside0.mk (below_step (by repeat (first | (with_reducible first | exact HB.out | apply below_alloc | apply pw_below_drewN | apply below_drew1 | refine below_set ?_ GE170.out | refine below_set ?_ GE171.out | refine below_set ?_ GE172.out) | exact HB.out)) hb); clear BK170; clear BK171; clear BK172; clear HB; have BK170 := n0_; have BK171 := n1_; have BK172 := n2_; have HB := n3_; clear n0_ n1_ n2_ n3_; (try clear hb); (try clear hb2); (try clear hk); (try clear hi)))
            go_ret
            exact ⟨by first | rfl | (simp [errW_none, errW_some] <;> rfl) | (simp [*, errW_none, errW_some] <;> rfl), by repeat (first | (with_reducible first | exact HB.out | apply below_alloc | apply pw_below_drewN | apply below_drew1 | refine below_set ?_ GE170.out | refine below_set ?_ GE171.out | refine below_set ?_ GE172.out) | exact HB.out)⟩
  · replace c5 := Bool.eq_false_iff.mpr c5
    subst c5
    have H1 : (some false) = some r := by rw [if_neg (show ¬ (false = true) by decide)] at H; exact H
    clear H
    have H := H1
    clear H1
    exact absurd ((Option.some.inj H).trans HRT.out) (by decide)

-- NOT PRINTED: function 5 (tontinelaw1_LabelBounds)

end Go.Proofs.Ytpbcamdjcnokfaa.P
