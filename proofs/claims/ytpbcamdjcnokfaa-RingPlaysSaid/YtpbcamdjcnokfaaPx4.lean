/- Printed by a program of this workplace (a turned copy of the kit's optional print), out of the translation; not trusted: Lean checks it. -/
import Derived.Test.YtpbcamdjcnokfaaPx0
import Derived.Test.YtpbcamdjcnokfaaExt
namespace Go.Proofs.Ytpbcamdjcnokfaa.P
open Go.RowKit Go.Proofs.YtpbcamdjcnokfaaW.PrintWords Go.Proofs.YtpbcamdjcnokfaaW.PrintLast Go.Proofs.YtpbcamdjcnokfaaW.PrintMore
attribute [local go_sem] max2_int min2_int max_two min_two max_three min_three max_four min_four   -- for this text's walks alone
set_option linter.unusedVariables false
set_option linter.unusedSimpArgs false

/-! ### ring_Ring_All: function 32 -/
def ring_Ring_All.f (l0_0 : List (S43)) (a0_1 : Int) (a0_2 : Int) : Option ((List (S43)) × (List (S43)) × Int × Int) := (ext_52.f l0_0).bind fun t108 => (some (t108, l0_0, a0_1, a0_2))
set_option maxHeartbeats 8000000 in
set_option maxRecDepth 100000 in
theorem ring_Ring_All.calls (g : Nat) (P0_0_ : Nat → Prop) (u9000_ : Value) (l0_0 : List (S43)) (a0_1 : Int) (a0_2 : Int) (r1 : List (S43)) (r2 : List (S43)) (r3 : Int) (r4 : Int) (w0 w : World) (hI : w.heap[g]? = some (.cells #[u9000_, .int .i64 a0_1, .int .i64 a0_2] 79 (0, 0))) (hG : w0.heap.size ≤ g) (hB : Below w0.heap.size w0 w) (ho0_0 : Kd.R k43 43 w w0.heap.size P0_0_ u9000_ l0_0) (h : ring_Ring_All.f l0_0 a0_1 a0_2 = some (r1, r2, r3, r4)) :
    Calls Try.prog 32 #[.pointer (some ⟨g, 0, none⟩)] w fun e w' => ∃ v0_ v1_ : Value, e = .returned (v0_) ∧ Kd.R k43 43 w' w0.heap.size (fun k_ => (P0_0_ k_ ∨ w.heap.size ≤ k_) ∧ some k_ ≠ (v1_ : Value).ownBlock) v0_ r1 ∧ Kd.R k43 43 w' w0.heap.size (fun k_ => (P0_0_ k_ ∨ w.heap.size ≤ k_) ∧ some k_ ≠ (v0_ : Value).ownBlock) v1_ r2 ∧ w'.heap[g]? = some (.cells #[v1_, .int .i64 r3, .int .i64 r4] 79 (0, 0)) ∧ Below w0.heap.size w0 w' ∧ Kept w w' (fun k_ => (P0_0_ k_) ∨ k_ = g) := by
 have HO0_0 := Goto.m0 (show Kd.R k43 43 w w0.heap.size (fun k_ => (P0_0_ k_ ∨ w.heap.size ≤ k_)) u9000_ l0_0 from Kd.R_mono ho0_0 (fun k_ hk => (.inl hk)))
 have BK0 := Goto.m0 hI
 have GE0 := Goto.m0 hG
 clear hI hG
 have HK := Goto.m0 (Kept.refl w (fun k_ => (P0_0_ k_) ∨ k_ = g))
 have HW0 := Goto.m0 hB.size
 have HB := Goto.m0 hB
 clear hB
 have H : ((ext_52.f l0_0).bind fun t108 => (some (t108, l0_0, a0_1, a0_2))) = some (r1, r2, r3, r4) := h
 clear h
 replace H := Option.bind_eq_some_iff.mp H
 obtain ⟨t108, A20, H⟩ := H
 have A2 := Goto.m0 A20
 clear A20
 simp only [Option.some.injEq, Prod.mk.injEq] at H
 obtain ⟨rfl, rfl, rfl, rfl⟩ := H
 have hcz3_0 : w.cell? ⟨g, 0, none⟩ = some (u9000_) := (blk_cell BK0.out 0).trans rfl; have hcz3_1 : w.cell? ⟨g, 1, none⟩ = some (.int .i64 a0_1) := (blk_cell BK0.out 1).trans rfl; have hcz3_2 : w.cell? ⟨g, 2, none⟩ = some (.int .i64 a0_2) := (blk_cell BK0.out 2).trans rfl; have hfz3_0 := blk_frozen BK0.out 0; have hfz3_1 := blk_frozen BK0.out 1; have hfz3_2 := blk_frozen BK0.out 2
 obtain ⟨Ao4, co4, eo4⟩ := Kd.R_slice HO0_0.out
 subst eo4
 go_enter Try.func32, Try.ntmps32
 go_wp2_with (first | ((with_reducible refine gate_callee (f := 52) rfl ?_); refine goesL_ (some 7) rfl rfl Try.func52 (by kernel_rfl) rfl #[.slice Ao4 l0_0.length co4] rfl (by (try simp only [List.map_toArray, List.map_cons, List.map_nil]); first | done | rfl | (simp only [List.length_drop, List.length_take]; rfl)) ?_; (with_reducible refine (ext_52.calls _ _ l0_0 t108 _ ?side1 ?side2 A2.out).mono ?_); (case side1 => repeat (first | exact (Kd.R_reads' HO0_0.out).2.2 | (with_reducible refine Kd.C_alloc ?_ _) | (with_reducible refine Kd.C_drewN ?_ _) | (with_reducible refine Kd.C_drew ?_))); (case side2 => exact (Kd.R_reads' HO0_0.out).2.1); rintro e w5 ⟨v109, rfl, ho0, hb⟩; refine ⟨_, rfl, ?_⟩; have HO110 := Goto.m0 (Kd.R_lower (Kd.R_new' (Kd.R_newM (M := fun k_ => (P0_0_ k_ ∨ w.heap.size ≤ k_)) ho0 (by first | exact HK.out.1 | exact (show Kept w _ (fun k_ => (P0_0_ k_) ∨ k_ = g) from by repeat (first | (with_reducible first | exact HK.out | apply Kept.alloc | apply Kept.drewN | apply Kept.drew | refine Kept.setCell ?_ (.inl (.inr rfl)) _) | exact HK.out)).1) (fun k_ h_ => .inr h_)) (Kd.R_lt (by (with_reducible repeat (first | apply Kd.R_alloc | apply Kd.R_drewN | apply Kd.R_drew)); exact HO0_0.out))) (below_size (Goto.hx HB))); replace HO0_0 := Goto.m0 (Kd.R_elder' (by (with_reducible repeat (first | apply Kd.R_alloc | apply Kd.R_drewN | apply Kd.R_drew)); exact HO0_0.out) (Kd.R_base ho0) hb); replace BK0 := Goto.bb BK0 hb; replace HK := Goto.m0 (Kept.below (S := (fun k_ => (P0_0_ k_) ∨ k_ = g)) (by repeat (first | (with_reducible first | exact HK.out | apply Kept.alloc | apply Kept.drewN | apply Kept.drew | refine Kept.setCell ?_ (.inl (.inr rfl)) _) | exact HK.out)) hb); replace HB := Goto.hs HB hb; (try clear hb); (try clear hb2); (try clear hk); (try clear hi); (try clear ho0)))
 go_ret
 (try simp only [← exists_and_left])
 exact ⟨_, _, by first | rfl | (simp [errW_none, errW_some] <;> rfl) | (simp [*, errW_none, errW_some] <;> rfl), by (with_reducible repeat (first | apply Kd.R_alloc | apply Kd.R_drewN | apply Kd.R_drew)); exact Kd.R_mono HO110.out (fun _ hk => ⟨hk.1.1, hk.2⟩), by (with_reducible repeat (first | apply Kd.R_alloc | apply Kd.R_drewN | apply Kd.R_drew)); exact HO0_0.out, by (with_reducible repeat first | refine blk_drewN ?_ _ | refine blk_drew ?_ | refine blk_alloc ?_ _); exact BK0.out, by repeat (first | (with_reducible first | exact HB.out | apply below_alloc | apply pw_below_drewN | apply below_drew1 | refine below_set ?_ GE0.out) | exact HB.out), by repeat (first | (with_reducible first | exact HK.out | apply Kept.alloc | apply Kept.drewN | apply Kept.drew | refine Kept.setCell ?_ (.inl (.inr rfl)) _) | exact HK.out)⟩

/-! ### ring_Ring_Last: function 33 -/
def ring_Ring_Last.f (l0_0 : List (S43)) (a0_1 : Int) (a0_2 : Int) : Option (Int × (List (S43)) × Int × Int) := some (a0_2, l0_0, a0_1, a0_2)
set_option maxHeartbeats 8000000 in
set_option maxRecDepth 100000 in
theorem ring_Ring_Last.calls (g : Nat) (P0_0_ : Nat → Prop) (u9000_ : Value) (l0_0 : List (S43)) (a0_1 : Int) (a0_2 : Int) (r1 : Int) (r2 : List (S43)) (r3 : Int) (r4 : Int) (w0 w : World) (hI : w.heap[g]? = some (.cells #[u9000_, .int .i64 a0_1, .int .i64 a0_2] 79 (0, 0))) (hG : w0.heap.size ≤ g) (hB : Below w0.heap.size w0 w) (ho0_0 : Kd.R k43 43 w w0.heap.size P0_0_ u9000_ l0_0) (h : ring_Ring_Last.f l0_0 a0_1 a0_2 = some (r1, r2, r3, r4)) :
    Calls Try.prog 33 #[.pointer (some ⟨g, 0, none⟩)] w fun e w' => ∃ v1_ : Value, e = .returned (.int .i64 r1) ∧ Kd.R k43 43 w' w0.heap.size (fun k_ => (P0_0_ k_ ∨ w.heap.size ≤ k_)) v1_ r2 ∧ w'.heap[g]? = some (.cells #[v1_, .int .i64 r3, .int .i64 r4] 79 (0, 0)) ∧ Below w0.heap.size w0 w' ∧ Kept w w' (fun k_ => (P0_0_ k_) ∨ k_ = g) := by
 have HO0_0 := Goto.m0 (show Kd.R k43 43 w w0.heap.size (fun k_ => (P0_0_ k_ ∨ w.heap.size ≤ k_)) u9000_ l0_0 from Kd.R_mono ho0_0 (fun k_ hk => (.inl hk)))
 have BK0 := Goto.m0 hI
 have GE0 := Goto.m0 hG
 clear hI hG
 have HK := Goto.m0 (Kept.refl w (fun k_ => (P0_0_ k_) ∨ k_ = g))
 have HW0 := Goto.m0 hB.size
 have HB := Goto.m0 hB
 clear hB
 have H : (some (a0_2, l0_0, a0_1, a0_2)) = some (r1, r2, r3, r4) := h
 clear h
 simp only [Option.some.injEq, Prod.mk.injEq] at H
 obtain ⟨rfl, rfl, rfl, rfl⟩ := H
 have hcz2_0 : w.cell? ⟨g, 0, none⟩ = some (u9000_) := (blk_cell BK0.out 0).trans rfl; have hcz2_1 : w.cell? ⟨g, 1, none⟩ = some (.int .i64 a0_1) := (blk_cell BK0.out 1).trans rfl; have hcz2_2 : w.cell? ⟨g, 2, none⟩ = some (.int .i64 a0_2) := (blk_cell BK0.out 2).trans rfl; have hfz2_0 := blk_frozen BK0.out 0; have hfz2_1 := blk_frozen BK0.out 1; have hfz2_2 := blk_frozen BK0.out 2
 go_enter Try.func33, Try.ntmps33
 go_wp2
 go_ret
 (try simp only [← exists_and_left])
 exact ⟨_, by first | rfl | (simp [errW_none, errW_some] <;> rfl) | (simp [*, errW_none, errW_some] <;> rfl), by (with_reducible repeat (first | apply Kd.R_alloc | apply Kd.R_drewN | apply Kd.R_drew)); exact HO0_0.out, by (with_reducible repeat first | refine blk_drewN ?_ _ | refine blk_drew ?_ | refine blk_alloc ?_ _); exact BK0.out, by repeat (first | (with_reducible first | exact HB.out | apply below_alloc | apply pw_below_drewN | apply below_drew1 | refine below_set ?_ GE0.out) | exact HB.out), by repeat (first | (with_reducible first | exact HK.out | apply Kept.alloc | apply Kept.drewN | apply Kept.drew | refine Kept.setCell ?_ (.inl (.inr rfl)) _) | exact HK.out)⟩

/-! ### ring_Ring_Lost: function 34 -/
def ring_Ring_Lost.f (l0_0 : List (S43)) (a0_1 : Int) (a0_2 : Int) : Option (Int × (List (S43)) × Int × Int) := some (wrap64 (a0_2 - (l0_0.length : Int)), l0_0, a0_1, a0_2)
set_option maxHeartbeats 8000000 in
set_option maxRecDepth 100000 in
theorem ring_Ring_Lost.calls (g : Nat) (P0_0_ : Nat → Prop) (u9000_ : Value) (l0_0 : List (S43)) (a0_1 : Int) (a0_2 : Int) (r1 : Int) (r2 : List (S43)) (r3 : Int) (r4 : Int) (w0 w : World) (hI : w.heap[g]? = some (.cells #[u9000_, .int .i64 a0_1, .int .i64 a0_2] 79 (0, 0))) (hG : w0.heap.size ≤ g) (hB : Below w0.heap.size w0 w) (ho0_0 : Kd.R k43 43 w w0.heap.size P0_0_ u9000_ l0_0) (h : ring_Ring_Lost.f l0_0 a0_1 a0_2 = some (r1, r2, r3, r4)) :
    Calls Try.prog 34 #[.pointer (some ⟨g, 0, none⟩)] w fun e w' => ∃ v1_ : Value, e = .returned (.int .i64 r1) ∧ Kd.R k43 43 w' w0.heap.size (fun k_ => (P0_0_ k_ ∨ w.heap.size ≤ k_)) v1_ r2 ∧ w'.heap[g]? = some (.cells #[v1_, .int .i64 r3, .int .i64 r4] 79 (0, 0)) ∧ Below w0.heap.size w0 w' ∧ Kept w w' (fun k_ => (P0_0_ k_) ∨ k_ = g) := by
 have HO0_0 := Goto.m0 (show Kd.R k43 43 w w0.heap.size (fun k_ => (P0_0_ k_ ∨ w.heap.size ≤ k_)) u9000_ l0_0 from Kd.R_mono ho0_0 (fun k_ hk => (.inl hk)))
 have BK0 := Goto.m0 hI
 have GE0 := Goto.m0 hG
 clear hI hG
 have HK := Goto.m0 (Kept.refl w (fun k_ => (P0_0_ k_) ∨ k_ = g))
 have HW0 := Goto.m0 hB.size
 have HB := Goto.m0 hB
 clear hB
 have H : (some (wrap64 (a0_2 - (l0_0.length : Int)), l0_0, a0_1, a0_2)) = some (r1, r2, r3, r4) := h
 clear h
 simp only [Option.some.injEq, Prod.mk.injEq] at H
 obtain ⟨rfl, rfl, rfl, rfl⟩ := H
 have hcz2_0 : w.cell? ⟨g, 0, none⟩ = some (u9000_) := (blk_cell BK0.out 0).trans rfl; have hcz2_1 : w.cell? ⟨g, 1, none⟩ = some (.int .i64 a0_1) := (blk_cell BK0.out 1).trans rfl; have hcz2_2 : w.cell? ⟨g, 2, none⟩ = some (.int .i64 a0_2) := (blk_cell BK0.out 2).trans rfl; have hfz2_0 := blk_frozen BK0.out 0; have hfz2_1 := blk_frozen BK0.out 1; have hfz2_2 := blk_frozen BK0.out 2
 obtain ⟨Ao3, co3, eo3⟩ := Kd.R_slice HO0_0.out
 subst eo3
 go_enter Try.func34, Try.ntmps34
 go_wp2
 repeat (go_quiet (fail); try go_wp2)
 go_ret
 (try simp only [← exists_and_left])
 exact ⟨_, by first | rfl | (simp [errW_none, errW_some] <;> rfl) | (simp [*, errW_none, errW_some] <;> rfl), by (with_reducible repeat (first | apply Kd.R_alloc | apply Kd.R_drewN | apply Kd.R_drew)); exact HO0_0.out, by (with_reducible repeat first | refine blk_drewN ?_ _ | refine blk_drew ?_ | refine blk_alloc ?_ _); exact BK0.out, by repeat (first | (with_reducible first | exact HB.out | apply below_alloc | apply pw_below_drewN | apply below_drew1 | refine below_set ?_ GE0.out) | exact HB.out), by repeat (first | (with_reducible first | exact HK.out | apply Kept.alloc | apply Kept.drewN | apply Kept.drew | refine Kept.setCell ?_ (.inl (.inr rfl)) _) | exact HK.out)⟩

/-! ### ring_Ring_From: function 35 -/
def ring_Ring_From.l0 : Nat → Int → Int → List (S43) → Int → Int → Option (Int × Int × Int × Int × Bool × (List (S43)) × Int × Int)
  | 0, _, _, _, _, _ => none
  | k + 1, x1, x6, x1000, x1001, x1002 => if x6 = (x1000.length : Int) then (some (0, 0, 0, 0, false, x1000, x1001, x1002)) else (if 0 ≤ x6 then (if x6 < (x1000.length : Int) then (if ((rd_T43 x1000 x6).f0) ≥ x1 then (some ((rd_T43 x1000 x6).f0, (rd_T43 x1000 x6).f1, (rd_T43 x1000 x6).f2, (rd_T43 x1000 x6).f3, true, x1000, x1001, x1002)) else (ring_Ring_From.l0 k x1 (wrap64 (x6 + 1)) x1000 x1001 x1002)) else (none)) else (none))
def ring_Ring_From.f (k : Nat) (l0_0 : List (S43)) (a0_1 : Int) (a0_2 : Int) (a1 : Int) : Option (Int × Int × Int × Int × Bool × (List (S43)) × Int × Int) := ring_Ring_From.l0 k a1 0 l0_0 a0_1 a0_2
theorem ring_Ring_From.mono_l : ∀ k, (∀ y0 y1 y2 y3 y4, LeO (ring_Ring_From.l0 k y0 y1 y2 y3 y4) (ring_Ring_From.l0 (k + 1) y0 y1 y2 y3 y4))
  | 0 => fun _ _ _ _ _ r h => by simp [ring_Ring_From.l0] at h
  | k + 1 => by
    have ih0 := ring_Ring_From.mono_l k
    · intro y0 y1 y2 y3 y4
      unfold ring_Ring_From.l0
      repeat' first
      | (with_reducible exact ih0 _ _ _ _ _)
      | (with_reducible exact LeO.refl _)
      | (with_reducible exact LeO.none _)
      | (with_reducible refine LeO.ite ?_ ?_)
      | (with_reducible refine LeO.bind ?_ (fun _ => ?_))
      | exact ih0 _ _ _ _ _
      | exact LeO.none _
      | refine LeO.ite ?_ ?_
      | refine LeO.bind ?_ (fun _ => ?_)
theorem ring_Ring_From.mono : ∀ a0 a1 a2 a3 k, LeO (ring_Ring_From.f k a0 a1 a2 a3) (ring_Ring_From.f (k + 1) a0 a1 a2 a3) := by
 intro a0 a1 a2 a3 k
 have ih0 := ring_Ring_From.mono_l k
 unfold ring_Ring_From.f
 repeat' first
   | (with_reducible exact ih0 _ _ _ _ _)
   | (with_reducible exact LeO.refl _)
   | (with_reducible exact LeO.none _)
   | (with_reducible refine LeO.ite ?_ ?_)
   | (with_reducible refine LeO.bind ?_ (fun _ => ?_))
   | exact ih0 _ _ _ _ _
   | exact LeO.none _
   | refine LeO.ite ?_ ?_
   | refine LeO.bind ?_ (fun _ => ?_)
set_option maxHeartbeats 8000000 in
set_option maxRecDepth 100000 in
theorem ring_Ring_From.calls (k : Nat) (g : Nat) (P0_0_ : Nat → Prop) (u9000_ : Value) (l0_0 : List (S43)) (a0_1 : Int) (a0_2 : Int) (a1 : Int) (r1 : Int) (r2 : Int) (r3 : Int) (r4 : Int) (r5 : Bool) (r6 : List (S43)) (r7 : Int) (r8 : Int) (w0 w : World) (hI : w.heap[g]? = some (.cells #[u9000_, .int .i64 a0_1, .int .i64 a0_2] 79 (0, 0))) (hG : w0.heap.size ≤ g) (hB : Below w0.heap.size w0 w) (ho0_0 : Kd.R k43 43 w w0.heap.size P0_0_ u9000_ l0_0) (h : ring_Ring_From.f k l0_0 a0_1 a0_2 a1 = some (r1, r2, r3, r4, r5, r6, r7, r8)) :
    Calls Try.prog 35 #[.pointer (some ⟨g, 0, none⟩), .int .i64 a1] w fun e w' => ∃ v5_ : Value, e = .returned (.tuple #[.agg #[.int .i64 r1, .int .i64 r2, .int .i64 r3, .int .i64 r4], .bool r5]) ∧ Kd.R k43 43 w' w0.heap.size (fun k_ => (P0_0_ k_ ∨ w.heap.size ≤ k_)) v5_ r6 ∧ w'.heap[g]? = some (.cells #[v5_, .int .i64 r7, .int .i64 r8] 79 (0, 0)) ∧ Below w0.heap.size w0 w' ∧ Kept w w' (fun k_ => (P0_0_ k_) ∨ k_ = g) := by
 have hu43 := Try.underlying43
 have HO0_0 := Goto.m0 (show Kd.R k43 43 w w0.heap.size (fun k_ => (P0_0_ k_ ∨ w.heap.size ≤ k_)) u9000_ l0_0 from Kd.R_mono ho0_0 (fun k_ hk => (.inl hk)))
 have BK0 := Goto.m0 hI
 have GE0 := Goto.m0 hG
 clear hI hG
 have HK := Goto.m0 (Kept.refl w (fun k_ => (P0_0_ k_) ∨ k_ = g))
 have HW0 := Goto.m0 hB.size
 have HB := Goto.m0 hB
 clear hB
 have H : (ring_Ring_From.l0 k a1 0 l0_0 a0_1 a0_2) = some (r1, r2, r3, r4, r5, r6, r7, r8) := h
 clear h
 have H' := Goto.m0 H
 clear H
 go_enter Try.func35, Try.ntmps35
 go_wp2_with (first | ((with_reducible refine gate_dst (N := 4) rfl ?_); refine box_event ?hg (N := 4) ?hd (cs := #[.int .i64 0, .int .i64 0, .int .i64 0, .int .i64 0]) (t := 43) ?hr ?_; (case hd => rfl); (case hg => rfl); (case hr => first | (go_simp; done) | (go_simp; rfl)); intro gb111 hg w3 hbox hb; have BK111 := Goto.m0 (hbox); have GW111 := Goto.m0 ((by rw [hg]; exact (by first | exact HK.out.1 | exact (show Kept w _ (fun k_ => (P0_0_ k_) ∨ k_ = g) from by repeat (first | (with_reducible first | exact HK.out | apply Kept.alloc | apply Kept.drewN | apply Kept.drew | refine Kept.setCell ?_ (.inl (.inr rfl)) _) | exact HK.out)).1) : w.heap.size ≤ gb111)); have GE111 := Goto.m0 ((by rw [hg]; exact (below_size (Goto.hx HB)) : w0.heap.size ≤ gb111)); have NB0_111 := Goto.nl BK0 hg; have NB111_0 := Goto.nr BK0 hg; replace HO0_0 := Goto.m0 (Kd.R_below (Kd.R_elderB (by (with_reducible repeat (first | apply Kd.R_alloc | apply Kd.R_drewN | apply Kd.R_drew)); exact HO0_0.out) gb111 (Nat.le_of_eq hg.symm)) hb); replace BK0 := Goto.bb BK0 hb; replace HK := Goto.m0 (Kept.below (S := (fun k_ => (P0_0_ k_) ∨ k_ = g)) (by repeat (first | (with_reducible first | exact HK.out | apply Kept.alloc | apply Kept.drewN | apply Kept.drew | refine Kept.setCell ?_ (.inl (.inr rfl)) _) | exact HK.out)) hb); replace HB := Goto.hs HB hb; clear hb hbox hg) | (with_reducible refine Goto.scope_enter ?_))
 rename_i K0_ hK0_
 refine Goto.label_ghost (l := 0) hK0_ (fun a0_ kq a_ w' => ∃ w5_ v6 w7_ w8_ w9_ w10_ w11_ w12_ w13_ w14_ w15_ w16_ w17_ w18_ w19_ w20_ w21_ w22_ w23_ w24_ w25_ w26_ w27_ w28_ w29_ w30_ w31_ w32_ w33_ : Value, (∃ (x6_1 : Int) (x112000_1 : Int) (x112001_1 : Int) (x112002_1 : Int) (x112003_1 : Int), v6 = .int .i64 x6_1 ∧ Aside0 (ring_Ring_From.l0 kq a1 x6_1 l0_0 a0_1 a0_2 = some (r1, r2, r3, r4, r5, r6, r7, r8)) ∧ Aside0 (kq ≤ k) ∧ Aside0 (Kd.R k43 43 w' w0.heap.size (fun k_ => (P0_0_ k_ ∨ w.heap.size ≤ k_) ∧ k_ ≠ gb111) u9000_ l0_0) ∧ Aside0 (w'.heap[g]? = some (.cells #[u9000_, .int .i64 a0_1, .int .i64 a0_2] 79 (0, 0))) ∧ Aside0 (w'.heap[gb111]? = some (.cells #[.int .i64 x112000_1, .int .i64 x112001_1, .int .i64 x112002_1, .int .i64 x112003_1] 43 (0, 0))) ∧ Aside0 (Kept w w' (fun k_ => (P0_0_ k_) ∨ k_ = g)) ∧ Aside0 (Below w0.heap.size w0 w')) ∧ a_ = { tmps := #[Goto.slot a0_.tmps.toList 0, Goto.slot a0_.tmps.toList 1, Goto.slot a0_.tmps.toList 2, Goto.slot a0_.tmps.toList 3, Goto.slot a0_.tmps.toList 4, w5_, v6, w7_, w8_, w9_, w10_, w11_, w12_, w13_, w14_, w15_, w16_, w17_, w18_, w19_, w20_, w21_, w22_, w23_, w24_, w25_, w26_, w27_, w28_, w29_, w30_, w31_, w32_, w33_], defers := a0_.defers }) k ?hfl_ ?atStart ?round
 case hfl_ => rfl
 case atStart => ((repeat apply Exists.intro); refine ⟨?_, ?fr_⟩; (case fr_ => ((try simp only [Goto.slot_zero, Goto.slot_succ]); rfl)); exact ⟨(0), (0), (0), (0), (0), (by first | rfl | (simp; done) | (simp [*]; done)), H', ⟨Nat.le_refl _⟩, ⟨by (with_reducible repeat (first | apply Kd.R_alloc | apply Kd.R_drewN | apply Kd.R_drew)); exact HO0_0.out⟩, ⟨Goto.bx BK0⟩, ⟨Goto.bx BK111⟩, ⟨by repeat (first | (with_reducible first | exact HK.out | apply Kept.alloc | apply Kept.drewN | apply Kept.drew | refine Kept.setCell ?_ (.inl (.inr rfl)) _ | refine Kept.setCell ?_ (.inr GW111.out) _) | exact HK.out)⟩, ⟨Goto.hx HB⟩⟩)
 case round =>
  clear hK0_ K0_
  clear H'
  try clear p2; try clear c3
  intro gk _ wr hinv_
  obtain ⟨w5_, v6, w7_, w8_, w9_, w10_, w11_, w12_, w13_, w14_, w15_, w16_, w17_, w18_, w19_, w20_, w21_, w22_, w23_, w24_, w25_, w26_, w27_, w28_, w29_, w30_, w31_, w32_, w33_, hrel, ha_⟩ := hinv_
  subst ha_
  (try simp only [Goto.slot_zero, Goto.slot_succ])
  intro _ _ _ _
  obtain ⟨x6_1, x112000_1, x112001_1, x112002_1, x112003_1, rfl, HA, HK1, HO_1000, BK0, BK111, HK, HB⟩ := hrel
  cases gk with
  | zero => exact absurd HA.out (by simp [ring_Ring_From.l0])
  | succ k1 =>
   have H := HA.out; clear HA
   simp only [ring_Ring_From.l0] at H
   by_cases c4 : x6_1 = (l0_0.length : Int)
   ·
    rw [if_pos c4] at H
    have c4b0 : (x6_1 == (l0_0.length : Int)) = true := beq_iff_eq.mpr c4
    have c4b1 : (x6_1 != (l0_0.length : Int)) = false := bne_eq_false_iff_eq.mpr c4
    clear c4
    simp only [Option.some.injEq, Prod.mk.injEq] at H
    obtain ⟨rfl, rfl, rfl, rfl, rfl, rfl, rfl, rfl⟩ := H
    have hnb5 := NB0_111.out; have hnc5 := NB111_0.out; have hcz6_0 : wr.cell? ⟨g, 0, none⟩ = some (u9000_) := (blk_cell BK0.out 0).trans rfl; have hcz6_1 : wr.cell? ⟨g, 1, none⟩ = some (.int .i64 a0_1) := (blk_cell BK0.out 1).trans rfl; have hcz6_2 : wr.cell? ⟨g, 2, none⟩ = some (.int .i64 a0_2) := (blk_cell BK0.out 2).trans rfl; have hfz6_0 := blk_frozen BK0.out 0; have hfz6_1 := blk_frozen BK0.out 1; have hfz6_2 := blk_frozen BK0.out 2
    obtain ⟨Ao7, co7, eo7⟩ := Kd.R_slice HO_1000.out
    subst eo7
    have hcz8_0 : wr.cell? ⟨gb111, 0, none⟩ = some (.int .i64 x112000_1) := (blk_cell BK111.out 0).trans rfl; have hcz8_1 : wr.cell? ⟨gb111, 1, none⟩ = some (.int .i64 x112001_1) := (blk_cell BK111.out 1).trans rfl; have hcz8_2 : wr.cell? ⟨gb111, 2, none⟩ = some (.int .i64 x112002_1) := (blk_cell BK111.out 2).trans rfl; have hcz8_3 : wr.cell? ⟨gb111, 3, none⟩ = some (.int .i64 x112003_1) := (blk_cell BK111.out 3).trans rfl; have hfz8_0 := blk_frozen BK111.out 0; have hfz8_1 := blk_frozen BK111.out 1; have hfz8_2 := blk_frozen BK111.out 2; have hfz8_3 := blk_frozen BK111.out 3
    go_wp2_with (first | (with_reducible refine Goto.scope_enter ?_))
    (try simp only [Exit.inBlock, Exit.then])
    (try refine Goto.ret_hit ?_)
    refine bodyPost_ret (results_ct rfl _ _ gb111 43 #[.int .i64 0, .int .i64 0, .int .i64 0, .int .i64 0] (0, 0) _ rfl (Goto.bx BK111) Try.underlying43 rfl (by kernel_rfl)) rfl ?_
    (try simp only [← exists_and_left])
    exact ⟨_, by first | rfl | (simp [errW_none, errW_some] <;> rfl) | (simp [*, errW_none, errW_some] <;> rfl), by (with_reducible repeat (first | apply Kd.R_alloc | apply Kd.R_drewN | apply Kd.R_drew)); exact Kd.R_mono (Kd.R_far (p := ⟨gb111, 3, none⟩) (Kd.R_far (p := ⟨gb111, 2, none⟩) (Kd.R_far (p := ⟨gb111, 1, none⟩) (Kd.R_far (p := ⟨gb111, 0, none⟩) (Goto.nx gb111 HO_1000.out (fun k_ hk => hk.2)) (fun _ hk => hk.2) (.int .i64 0)) (fun _ hk => hk.2) (.int .i64 0)) (fun _ hk => hk.2) (.int .i64 0)) (fun _ hk => hk.2) (.int .i64 0)) (fun _ hk => hk.1.1), by (iterate 4 ((with_reducible repeat first | refine blk_drewN ?_ _ | refine blk_drew ?_ | refine blk_alloc ?_ _); refine blk_far ?_ NB0_111.out _)); (with_reducible repeat first | refine blk_drewN ?_ _ | refine blk_drew ?_ | refine blk_alloc ?_ _); exact BK0.out, by repeat (first | (with_reducible first | exact HB.out | apply below_alloc | apply pw_below_drewN | apply below_drew1 | refine below_set ?_ GE0.out | refine below_set ?_ GE111.out) | exact HB.out), by repeat (first | (with_reducible first | exact HK.out | apply Kept.alloc | apply Kept.drewN | apply Kept.drew | refine Kept.setCell ?_ (.inl (.inr rfl)) _ | refine Kept.setCell ?_ (.inr GW111.out) _) | exact HK.out)⟩
   ·
    rw [if_neg c4] at H
    have c4b0 : (x6_1 == (l0_0.length : Int)) = false := beq_eq_false_iff_ne.mpr c4
    have c4b1 : (x6_1 != (l0_0.length : Int)) = true := bne_iff_ne.mpr c4
    by_cases c9 : 0 ≤ x6_1
    ·
     rw [if_pos c9] at H
     have c9b0 : decide (0 ≤ x6_1) = true := decide_eq_true c9
     clear c9
     by_cases c10 : x6_1 < (l0_0.length : Int)
     ·
      rw [if_pos c10] at H
      have c10b0 : decide (x6_1 < (l0_0.length : Int)) = true := decide_eq_true c10
      clear c10
      by_cases c11 : ((rd_T43 l0_0 x6_1).f0) ≥ a1
      ·
       rw [if_pos c11] at H
       have c11b0 : decide (a1 ≤ ((rd_T43 l0_0 x6_1).f0)) = true := decide_eq_true c11
       clear c11
       simp only [Option.some.injEq, Prod.mk.injEq] at H
       obtain ⟨rfl, rfl, rfl, rfl, rfl, rfl, rfl, rfl⟩ := H
       have hnb12 := NB0_111.out; have hnc12 := NB111_0.out; have hcz13_0 : wr.cell? ⟨g, 0, none⟩ = some (u9000_) := (blk_cell BK0.out 0).trans rfl; have hcz13_1 : wr.cell? ⟨g, 1, none⟩ = some (.int .i64 a0_1) := (blk_cell BK0.out 1).trans rfl; have hcz13_2 : wr.cell? ⟨g, 2, none⟩ = some (.int .i64 a0_2) := (blk_cell BK0.out 2).trans rfl; have hfz13_0 := blk_frozen BK0.out 0; have hfz13_1 := blk_frozen BK0.out 1; have hfz13_2 := blk_frozen BK0.out 2
       obtain ⟨Ao14, co14, eo14⟩ := Kd.R_slice HO_1000.out
       subst eo14
       have p112 : 0 ≤ (x6_1 : Int) := of_decide_eq_true (by first | (with_reducible assumption) | assumption)
       have q112 : x6_1 < (l0_0.length : Int) := of_decide_eq_true (by first | (with_reducible assumption) | assumption)
       obtain ⟨ad112, e112, hx112_0, hx112_1, hx112_2, hx112_3⟩ := at_T43 (Kd.R_reads' HO_1000.out).2.2 x6_1 p112 q112
       cases e112
       replace p112 := eq_true p112; replace q112 := eq_true q112
       have p113 : 0 ≤ (x6_1 : Int) := of_decide_eq_true (by first | (with_reducible assumption) | assumption)
       have q113 : x6_1 < (l0_0.length : Int) := of_decide_eq_true (by first | (with_reducible assumption) | assumption)
       obtain ⟨ad113, e113, hx113_0, hx113_1, hx113_2, hx113_3⟩ := at_T43 (Kd.R_reads' HO_1000.out).2.2 x6_1 p113 q113
       obtain rfl : ad112 = ad113 := (by injection e113)
       replace p113 := eq_true p113; replace q113 := eq_true q113; have hcz15_0 : wr.cell? ⟨gb111, 0, none⟩ = some (.int .i64 x112000_1) := (blk_cell BK111.out 0).trans rfl; have hcz15_1 : wr.cell? ⟨gb111, 1, none⟩ = some (.int .i64 x112001_1) := (blk_cell BK111.out 1).trans rfl; have hcz15_2 : wr.cell? ⟨gb111, 2, none⟩ = some (.int .i64 x112002_1) := (blk_cell BK111.out 2).trans rfl; have hcz15_3 : wr.cell? ⟨gb111, 3, none⟩ = some (.int .i64 x112003_1) := (blk_cell BK111.out 3).trans rfl; have hfz15_0 := blk_frozen BK111.out 0; have hfz15_1 := blk_frozen BK111.out 1; have hfz15_2 := blk_frozen BK111.out 2; have hfz15_3 := blk_frozen BK111.out 3
       go_wp2_with (first | (with_reducible refine Goto.scope_enter ?_))
       (try simp only [Exit.inBlock, Exit.then])
       (try refine Goto.ret_hit ?_)
       refine bodyPost_ret (results_ct rfl _ _ gb111 43 #[.int .i64 ((rd_T43 l0_0 x6_1).f0), .int .i64 ((rd_T43 l0_0 x6_1).f1), .int .i64 ((rd_T43 l0_0 x6_1).f2), .int .i64 ((rd_T43 l0_0 x6_1).f3)] (0, 0) _ rfl (Goto.bx BK111) Try.underlying43 rfl (by kernel_rfl)) rfl ?_
       (try simp only [← exists_and_left])
       exact ⟨_, by first | rfl | (simp [errW_none, errW_some] <;> rfl) | (simp [*, errW_none, errW_some] <;> rfl), by (with_reducible repeat (first | apply Kd.R_alloc | apply Kd.R_drewN | apply Kd.R_drew)); exact Kd.R_mono (Kd.R_far (p := ⟨gb111, 3, none⟩) (Kd.R_far (p := ⟨gb111, 2, none⟩) (Kd.R_far (p := ⟨gb111, 1, none⟩) (Kd.R_far (p := ⟨gb111, 0, none⟩) (Goto.nx gb111 HO_1000.out (fun k_ hk => hk.2)) (fun _ hk => hk.2) (.int .i64 ((rd_T43 l0_0 x6_1).f0))) (fun _ hk => hk.2) (.int .i64 ((rd_T43 l0_0 x6_1).f1))) (fun _ hk => hk.2) (.int .i64 ((rd_T43 l0_0 x6_1).f2))) (fun _ hk => hk.2) (.int .i64 ((rd_T43 l0_0 x6_1).f3))) (fun _ hk => hk.1.1), by (iterate 4 ((with_reducible repeat first | refine blk_drewN ?_ _ | refine blk_drew ?_ | refine blk_alloc ?_ _); refine blk_far ?_ NB0_111.out _)); (with_reducible repeat first | refine blk_drewN ?_ _ | refine blk_drew ?_ | refine blk_alloc ?_ _); exact BK0.out, by repeat (first | (with_reducible first | exact HB.out | apply below_alloc | apply pw_below_drewN | apply below_drew1 | refine below_set ?_ GE0.out | refine below_set ?_ GE111.out) | exact HB.out), by repeat (first | (with_reducible first | exact HK.out | apply Kept.alloc | apply Kept.drewN | apply Kept.drew | refine Kept.setCell ?_ (.inl (.inr rfl)) _ | refine Kept.setCell ?_ (.inr GW111.out) _) | exact HK.out)⟩
      ·
       rw [if_neg c11] at H
       have c11b0 : decide (a1 ≤ ((rd_T43 l0_0 x6_1).f0)) = false := decide_eq_false c11
       clear c11
       have H' := Goto.m0 H
       clear H; have hnb16 := NB0_111.out; have hnc16 := NB111_0.out; have hcz17_0 : wr.cell? ⟨g, 0, none⟩ = some (u9000_) := (blk_cell BK0.out 0).trans rfl; have hcz17_1 : wr.cell? ⟨g, 1, none⟩ = some (.int .i64 a0_1) := (blk_cell BK0.out 1).trans rfl; have hcz17_2 : wr.cell? ⟨g, 2, none⟩ = some (.int .i64 a0_2) := (blk_cell BK0.out 2).trans rfl; have hfz17_0 := blk_frozen BK0.out 0; have hfz17_1 := blk_frozen BK0.out 1; have hfz17_2 := blk_frozen BK0.out 2
       obtain ⟨Ao18, co18, eo18⟩ := Kd.R_slice HO_1000.out
       subst eo18
       have p112 : 0 ≤ (x6_1 : Int) := of_decide_eq_true (by first | (with_reducible assumption) | assumption)
       have q112 : x6_1 < (l0_0.length : Int) := of_decide_eq_true (by first | (with_reducible assumption) | assumption)
       obtain ⟨ad112, e112, hx112_0, hx112_1, hx112_2, hx112_3⟩ := at_T43 (Kd.R_reads' HO_1000.out).2.2 x6_1 p112 q112
       cases e112
       replace p112 := eq_true p112; replace q112 := eq_true q112
       go_wp2_with (first | (with_reducible refine Goto.scope_enter ?_))
       refine wp_goto ?_
       (try simp only [Exit.then, Exit.inBlock])
       refine Goto.jump_hit ?_
       go_step
       go_roundg k1
       case measure => have := HK1.out; omega
       case rel => exact ⟨(wrap64 (x6_1 + 1)), (x112000_1), (x112001_1), (x112002_1), (x112003_1), (by first | rfl | (simp; done) | (simp [*]; done)), H', ⟨by have := HK1.out; omega⟩, ⟨by (with_reducible repeat (first | apply Kd.R_alloc | apply Kd.R_drewN | apply Kd.R_drew)); exact HO_1000.out⟩, ⟨Goto.bx BK0⟩, ⟨Goto.bx BK111⟩, ⟨by repeat (first | (with_reducible first | exact HK.out | apply Kept.alloc | apply Kept.drewN | apply Kept.drew | refine Kept.setCell ?_ (.inl (.inr rfl)) _ | refine Kept.setCell ?_ (.inr GW111.out) _) | exact HK.out)⟩, ⟨Goto.hx HB⟩⟩
     ·
      rw [if_neg c10] at H
      exact absurd H (by simp)
    ·
     rw [if_neg c9] at H
     exact absurd H (by simp)

end Go.Proofs.Ytpbcamdjcnokfaa.P
