/- Printed by a program of this workplace (a turned copy of the kit's optional print), out of the translation; not trusted: Lean checks it. -/
import Derived.Test.YtpbcamdjcnokfaaPx0
import Derived.Test.YtpbcamdjcnokfaaExt
namespace Go.Proofs.Ytpbcamdjcnokfaa.P
open Go.RowKit Go.Proofs.YtpbcamdjcnokfaaW.PrintWords Go.Proofs.YtpbcamdjcnokfaaW.PrintLast Go.Proofs.YtpbcamdjcnokfaaW.PrintMore
attribute [local go_sem] max2_int min2_int max_two min_two max_three min_three max_four min_four   -- for this text's walks alone
set_option linter.unusedVariables false
set_option linter.unusedSimpArgs false

/-! ### mail_Box_Take: function 42 -/
def mail_Box_Take.f (l0_0 : List (S63)) (a0_1 : Int) : Option (Int × Int × Bool × (List (S63))) := if (l0_0.length : Int) = 0 then (some (0, 0, false, l0_0)) else (if 0 < (l0_0.length : Int) then ((ext_53.f l0_0 0 1).bind fun t112 => (some ((rd_T63 l0_0 0).f0, (rd_T63 l0_0 0).f1, true, t112))) else (none))
set_option maxHeartbeats 8000000 in
set_option maxRecDepth 100000 in
theorem mail_Box_Take.calls (g : Nat) (P0_0_ : Nat → Prop) (u9000_ : Value) (l0_0 : List (S63)) (a0_1 : Int) (r1 : Int) (r2 : Int) (r3 : Bool) (r4 : List (S63)) (w0 w : World) (hI : w.heap[g]? = some (.cells #[u9000_, .int .i64 a0_1] 83 (0, 0))) (hG : w0.heap.size ≤ g) (hB : Below w0.heap.size w0 w) (ho0_0 : Kd.R k63 63 w w0.heap.size P0_0_ u9000_ l0_0) (h : mail_Box_Take.f l0_0 a0_1 = some (r1, r2, r3, r4)) :
    Calls Try.prog 42 #[.pointer (some ⟨g, 0, none⟩)] w fun e w' => ∃ v3_ : Value, e = .returned (.tuple #[.agg #[.int .i64 r1, .int .i64 r2], .bool r3]) ∧ Kd.R k63 63 w' w0.heap.size (fun k_ => (P0_0_ k_ ∨ w.heap.size ≤ k_)) v3_ r4 ∧ w'.heap[g]? = some (.cells #[v3_, .int .i64 a0_1] 83 (0, 0)) ∧ Below w0.heap.size w0 w' ∧ Kept w w' (fun k_ => (P0_0_ k_) ∨ k_ = g) := by
 have hu63 := Try.underlying63
 have HO0_0 := Goto.m0 (show Kd.R k63 63 w w0.heap.size (fun k_ => (P0_0_ k_ ∨ w.heap.size ≤ k_)) u9000_ l0_0 from Kd.R_mono ho0_0 (fun k_ hk => (.inl hk)))
 have BK0 := Goto.m0 hI
 have GE0 := Goto.m0 hG
 clear hI hG
 have HK := Goto.m0 (Kept.refl w (fun k_ => (P0_0_ k_) ∨ k_ = g))
 have HW0 := Goto.m0 hB.size
 have HB := Goto.m0 hB
 clear hB
 have H : (if (l0_0.length : Int) = 0 then (some (0, 0, false, l0_0)) else (if 0 < (l0_0.length : Int) then ((ext_53.f l0_0 0 1).bind fun t112 => (some ((rd_T63 l0_0 0).f0, (rd_T63 l0_0 0).f1, true, t112))) else (none))) = some (r1, r2, r3, r4) := h
 clear h
 by_cases c2 : (l0_0.length : Int) = 0
 ·
  rw [if_pos c2] at H
  have c2b0 : ((l0_0.length : Int) == 0) = true := beq_iff_eq.mpr c2
  have c2b1 : ((l0_0.length : Int) != 0) = false := bne_eq_false_iff_eq.mpr c2
  clear c2
  simp only [Option.some.injEq, Prod.mk.injEq] at H
  obtain ⟨rfl, rfl, rfl, rfl⟩ := H
  go_enter Try.func42, Try.ntmps42
  go_wp2_with (first | ((with_reducible refine gate_dst (N := 2) rfl ?_); refine box_event ?hg (N := 2) ?hd (cs := #[.int .i64 0, .int .i64 0]) (t := 63) ?hr ?_; (case hd => rfl); (case hg => rfl); (case hr => first | (go_simp; done) | (go_simp; rfl)); intro gb109 hg w3 hbox hb; have BK109 := Goto.m0 (hbox); have GW109 := Goto.m0 ((by rw [hg]; exact (by first | exact HK.out.1 | exact (show Kept w _ (fun k_ => (P0_0_ k_) ∨ k_ = g) from by repeat (first | (with_reducible first | exact HK.out | apply Kept.alloc | apply Kept.drewN | apply Kept.drew | refine Kept.setCell ?_ (.inl (.inr rfl)) _) | exact HK.out)).1) : w.heap.size ≤ gb109)); have GE109 := Goto.m0 ((by rw [hg]; exact (below_size (Goto.hx HB)) : w0.heap.size ≤ gb109)); have NB0_109 := Goto.nl BK0 hg; have NB109_0 := Goto.nr BK0 hg; replace HO0_0 := Goto.m0 (Kd.R_below (Kd.R_elderB (by (with_reducible repeat (first | apply Kd.R_alloc | apply Kd.R_drewN | apply Kd.R_drew)); exact HO0_0.out) gb109 (Nat.le_of_eq hg.symm)) hb); replace BK0 := Goto.bb BK0 hb; replace HK := Goto.m0 (Kept.below (S := (fun k_ => (P0_0_ k_) ∨ k_ = g)) (by repeat (first | (with_reducible first | exact HK.out | apply Kept.alloc | apply Kept.drewN | apply Kept.drew | refine Kept.setCell ?_ (.inl (.inr rfl)) _) | exact HK.out)) hb); replace HB := Goto.hs HB hb; clear hb hbox hg; have hnb4 := NB0_109.out; have hnc4 := NB109_0.out; have hcz5_0 : w3.cell? ⟨g, 0, none⟩ = some (u9000_) := (blk_cell BK0.out 0).trans rfl; have hcz5_1 : w3.cell? ⟨g, 1, none⟩ = some (.int .i64 a0_1) := (blk_cell BK0.out 1).trans rfl; have hfz5_0 := blk_frozen BK0.out 0; have hfz5_1 := blk_frozen BK0.out 1; obtain ⟨Ao6, co6, eo6⟩ := Kd.R_slice HO0_0.out; subst eo6; have hcz7_0 : w3.cell? ⟨gb109, 0, none⟩ = some (.int .i64 0) := (blk_cell BK109.out 0).trans rfl; have hcz7_1 : w3.cell? ⟨gb109, 1, none⟩ = some (.int .i64 0) := (blk_cell BK109.out 1).trans rfl; have hfz7_0 := blk_frozen BK109.out 0; have hfz7_1 := blk_frozen BK109.out 1) | ((with_reducible refine gate_store (t := 63) (p := 2) rfl ?_); refine store_event (t := 63) (p := 2) (v := ?vo_w8) (w1 := ((w3.setCell ⟨gb109, 0, none⟩ (.int .i64 0)).setCell ⟨gb109, 1, none⟩ (.int .i64 0))) ?hg ?ho ?hn ?hr ?_; (case ho => rfl); (case hg => rfl); (case hn => rfl); (case hr => first | (go_simp; done) | (go_simp; rfl)); intro w8 hw; have n0_ : Aside0 (Kd.R k63 63 w8 w0.heap.size (fun k_ => (P0_0_ k_ ∨ w.heap.size ≤ k_) ∧ k_ ≠ gb109) (.slice Ao6 l0_0.length co6) l0_0) := ⟨(by rw [hw]; exact (by (with_reducible repeat (first | apply Kd.R_alloc | apply Kd.R_drewN | apply Kd.R_drew)); exact Kd.R_mono (Kd.R_far (p := ⟨gb109, 1, none⟩) (Kd.R_far (p := ⟨gb109, 0, none⟩) (Goto.nx gb109 HO0_0.out (fun k_ hk => hk.2)) (fun _ hk => hk.2) (.int .i64 0)) (fun _ hk => hk.2) (.int .i64 0)) (fun _ hk => ⟨hk.1.1, hk.1.2⟩)))⟩; have n1_ : Aside0 (w8.heap[g]? = some (.cells #[.slice Ao6 l0_0.length co6, .int .i64 a0_1] 83 (0, 0))) := ⟨(by rw [hw]; exact (Goto.bx BK0))⟩; have n2_ : Aside0 (w8.heap[gb109]? = some (.cells #[.int .i64 0, .int .i64 0] 63 (0, 0))) := ⟨(by rw [hw]; exact (Goto.bx BK109))⟩; have n3_ : Aside0 (Kept w w8 (fun k_ => (P0_0_ k_) ∨ k_ = g)) := ⟨(by rw [hw]; exact (by repeat (first | (with_reducible first | exact HK.out | apply Kept.alloc | apply Kept.drewN | apply Kept.drew | refine Kept.setCell ?_ (.inl (.inr rfl)) _ | refine Kept.setCell ?_ (.inr GW109.out) _) | exact HK.out)))⟩; have n4_ : Aside0 (Below w0.heap.size w0 w8) := ⟨(by rw [hw]; exact (Goto.hx HB))⟩; clear hw; clear HO0_0; clear BK0; clear BK109; clear HK; clear HB; have HO0_0 := n0_; have BK0 := n1_; have BK109 := n2_; have HK := n3_; have HB := n4_; clear n0_ n1_ n2_ n3_ n4_))
  refine bodyPost_ret (results_ct rfl _ _ gb109 63 #[.int .i64 0, .int .i64 0] (0, 0) _ rfl (Goto.bx BK109) Try.underlying63 rfl (by kernel_rfl)) rfl ?_
  (try simp only [← exists_and_left])
  exact ⟨_, by first | rfl | (simp [errW_none, errW_some] <;> rfl) | (simp [*, errW_none, errW_some] <;> rfl), by (with_reducible repeat (first | apply Kd.R_alloc | apply Kd.R_drewN | apply Kd.R_drew)); exact Kd.R_mono HO0_0.out (fun _ hk => hk.1), by (with_reducible repeat first | refine blk_drewN ?_ _ | refine blk_drew ?_ | refine blk_alloc ?_ _); exact BK0.out, by repeat (first | (with_reducible first | exact HB.out | apply below_alloc | apply pw_below_drewN | apply below_drew1 | refine below_set ?_ GE0.out | refine below_set ?_ GE109.out) | exact HB.out), by repeat (first | (with_reducible first | exact HK.out | apply Kept.alloc | apply Kept.drewN | apply Kept.drew | refine Kept.setCell ?_ (.inl (.inr rfl)) _ | refine Kept.setCell ?_ (.inr GW109.out) _) | exact HK.out)⟩
 ·
  rw [if_neg c2] at H
  have c2b0 : ((l0_0.length : Int) == 0) = false := beq_eq_false_iff_ne.mpr c2
  have c2b1 : ((l0_0.length : Int) != 0) = true := bne_iff_ne.mpr c2
  have c2b2 : ¬ (l0_0 = []) := fun h_ => c2 (by rw [h_]; rfl)
  by_cases c9 : 0 < (l0_0.length : Int)
  ·
   rw [if_pos c9] at H
   have c9b0 : decide (0 < (l0_0.length : Int)) = true := decide_eq_true c9
   have c9b1 : decide (0 < l0_0.length) = true := decide_eq_true (by omega)
   clear c9
   replace H := Option.bind_eq_some_iff.mp H
   obtain ⟨t112, A100, H⟩ := H
   have A10 := Goto.m0 A100
   clear A100
   simp only [Option.some.injEq, Prod.mk.injEq] at H
   obtain ⟨rfl, rfl, rfl, rfl⟩ := H
   go_enter Try.func42, Try.ntmps42
   go_wp2_with (first | ((with_reducible refine gate_dst (N := 2) rfl ?_); refine box_event ?hg (N := 2) ?hd (cs := #[.int .i64 0, .int .i64 0]) (t := 63) ?hr ?_; (case hd => rfl); (case hg => rfl); (case hr => first | (go_simp; done) | (go_simp; rfl)); intro gb109 hg w11 hbox hb; have BK109 := Goto.m0 (hbox); have GW109 := Goto.m0 ((by rw [hg]; exact (by first | exact HK.out.1 | exact (show Kept w _ (fun k_ => (P0_0_ k_) ∨ k_ = g) from by repeat (first | (with_reducible first | exact HK.out | apply Kept.alloc | apply Kept.drewN | apply Kept.drew | refine Kept.setCell ?_ (.inl (.inr rfl)) _) | exact HK.out)).1) : w.heap.size ≤ gb109)); have GE109 := Goto.m0 ((by rw [hg]; exact (below_size (Goto.hx HB)) : w0.heap.size ≤ gb109)); have NB0_109 := Goto.nl BK0 hg; have NB109_0 := Goto.nr BK0 hg; replace HO0_0 := Goto.m0 (Kd.R_below (Kd.R_elderB (by (with_reducible repeat (first | apply Kd.R_alloc | apply Kd.R_drewN | apply Kd.R_drew)); exact HO0_0.out) gb109 (Nat.le_of_eq hg.symm)) hb); replace BK0 := Goto.bb BK0 hb; replace HK := Goto.m0 (Kept.below (S := (fun k_ => (P0_0_ k_) ∨ k_ = g)) (by repeat (first | (with_reducible first | exact HK.out | apply Kept.alloc | apply Kept.drewN | apply Kept.drew | refine Kept.setCell ?_ (.inl (.inr rfl)) _) | exact HK.out)) hb); replace HB := Goto.hs HB hb; clear hb hbox hg; have hnb12 := NB0_109.out; have hnc12 := NB109_0.out; have hcz13_0 : w11.cell? ⟨g, 0, none⟩ = some (u9000_) := (blk_cell BK0.out 0).trans rfl; have hcz13_1 : w11.cell? ⟨g, 1, none⟩ = some (.int .i64 a0_1) := (blk_cell BK0.out 1).trans rfl; have hfz13_0 := blk_frozen BK0.out 0; have hfz13_1 := blk_frozen BK0.out 1; obtain ⟨Ao14, co14, eo14⟩ := Kd.R_slice HO0_0.out; subst eo14; have p110 : 0 ≤ (0 : Int) := (by omega); have q110 : 0 < (l0_0.length : Int) := of_decide_eq_true (by first | (with_reducible assumption) | assumption); obtain ⟨ad110, e110, hx110_0, hx110_1⟩ := at_T63 (Kd.R_reads' HO0_0.out).2.2 0 p110 q110; cases e110; have qi110 : (0 < l0_0.length) = True := eq_true (by omega); (try rw [show ((0 : Int)).toNat = 0 from rfl] at hx110_0); (try rw [show 0 * 2 = 0 from rfl] at hx110_0); (try rw [Addr.add_zero'] at hx110_0); (try rw [show ((0 : Int)).toNat = 0 from rfl] at hx110_1); (try rw [show 0 * 2 = 0 from rfl] at hx110_1); (try rw [Addr.add_zero'] at hx110_1); replace p110 := eq_true p110; replace q110 := eq_true q110) | ((with_reducible refine gate_dst (N := 4) rfl ?_); refine box_event ?hg (N := 4) ?hd (cs := #[.int .i64 0, .int .i64 0]) (t := 63) ?hr ?_; (case hd => rfl); (case hg => rfl); (case hr => first | (go_simp; done) | (go_simp; rfl)); intro gb111 hg w15 hbox hb; have BK111 := Goto.m0 (hbox); have GW111 := Goto.m0 ((by rw [hg]; exact (by first | exact HK.out.1 | exact (show Kept w _ (fun k_ => (P0_0_ k_) ∨ k_ = g) from by repeat (first | (with_reducible first | exact HK.out | apply Kept.alloc | apply Kept.drewN | apply Kept.drew | refine Kept.setCell ?_ (.inl (.inr rfl)) _ | refine Kept.setCell ?_ (.inr GW109.out) _) | exact HK.out)).1) : w.heap.size ≤ gb111)); have GE111 := Goto.m0 ((by rw [hg]; exact (below_size (Goto.hx HB)) : w0.heap.size ≤ gb111)); have NB0_111 := Goto.nl BK0 hg; have NB111_0 := Goto.nr BK0 hg; have NB109_111 := Goto.nl BK109 hg; have NB111_109 := Goto.nr BK109 hg; replace HO0_0 := Goto.m0 (Kd.R_below (Kd.R_elderB (by (with_reducible repeat (first | apply Kd.R_alloc | apply Kd.R_drewN | apply Kd.R_drew)); exact HO0_0.out) gb111 (Nat.le_of_eq hg.symm)) hb); replace BK0 := Goto.bb BK0 hb; replace BK109 := Goto.bb BK109 hb; replace HK := Goto.m0 (Kept.below (S := (fun k_ => (P0_0_ k_) ∨ k_ = g)) (by repeat (first | (with_reducible first | exact HK.out | apply Kept.alloc | apply Kept.drewN | apply Kept.drew | refine Kept.setCell ?_ (.inl (.inr rfl)) _ | refine Kept.setCell ?_ (.inr GW109.out) _) | exact HK.out)) hb); replace HB := Goto.hs HB hb; clear hb hbox hg; have hnb16 := NB111_0.out; have hnc16 := NB0_111.out; have hnb17 := NB111_109.out; have hnc17 := NB109_111.out; have hcz18_0 : w15.cell? ⟨gb111, 0, none⟩ = some (.int .i64 0) := (blk_cell BK111.out 0).trans rfl; have hcz18_1 : w15.cell? ⟨gb111, 1, none⟩ = some (.int .i64 0) := (blk_cell BK111.out 1).trans rfl; have hfz18_0 := blk_frozen BK111.out 0; have hfz18_1 := blk_frozen BK111.out 1) | ((with_reducible refine gate_store (t := 63) (p := 4) rfl ?_); refine store_event (t := 63) (p := 4) (v := ?vo_w19) (w1 := ((w15.setCell ⟨gb111, 0, none⟩ (.int .i64 ((rd_T63 l0_0 0).f0))).setCell ⟨gb111, 1, none⟩ (.int .i64 ((rd_T63 l0_0 0).f1)))) ?hg ?ho ?hn ?hr ?_; (case ho => rfl); (case hg => rfl); (case hn => rfl); (case hr => first | (go_simp; done) | (go_simp; rfl)); intro w19 hw; have n0_ : Aside0 (Kd.R k63 63 w19 w0.heap.size (fun k_ => (P0_0_ k_ ∨ w.heap.size ≤ k_) ∧ k_ ≠ gb109 ∧ k_ ≠ gb111) (.slice (some ad110) l0_0.length co14) l0_0) := ⟨(by rw [hw]; exact (by (with_reducible repeat (first | apply Kd.R_alloc | apply Kd.R_drewN | apply Kd.R_drew)); exact Kd.R_mono (Kd.R_far (p := ⟨gb111, 1, none⟩) (Kd.R_far (p := ⟨gb111, 0, none⟩) (Goto.nx gb111 HO0_0.out (fun k_ hk => hk.2)) (fun _ hk => hk.2) (.int .i64 ((rd_T63 l0_0 0).f0))) (fun _ hk => hk.2) (.int .i64 ((rd_T63 l0_0 0).f1))) (fun _ hk => ⟨hk.1.1.1, ⟨hk.1.1.2, hk.1.2⟩⟩)))⟩; have n1_ : Aside0 (w19.heap[g]? = some (.cells #[.slice (some ad110) l0_0.length co14, .int .i64 a0_1] 83 (0, 0))) := ⟨(by rw [hw]; exact (Goto.bx BK0))⟩; have n2_ : Aside0 (w19.heap[gb109]? = some (.cells #[.int .i64 0, .int .i64 0] 63 (0, 0))) := ⟨(by rw [hw]; exact (Goto.bx BK109))⟩; have n3_ : Aside0 (w19.heap[gb111]? = some (.cells #[.int .i64 ((rd_T63 l0_0 0).f0), .int .i64 ((rd_T63 l0_0 0).f1)] 63 (0, 0))) := ⟨(by rw [hw]; exact (Goto.bx BK111))⟩; have n4_ : Aside0 (Kept w w19 (fun k_ => (P0_0_ k_) ∨ k_ = g)) := ⟨(by rw [hw]; exact (by repeat (first | (with_reducible first | exact HK.out | apply Kept.alloc | apply Kept.drewN | apply Kept.drew | refine Kept.setCell ?_ (.inl (.inr rfl)) _ | refine Kept.setCell ?_ (.inr GW109.out) _ | refine Kept.setCell ?_ (.inr GW111.out) _) | exact HK.out)))⟩; have n5_ : Aside0 (Below w0.heap.size w0 w19) := ⟨(by rw [hw]; exact (Goto.hx HB))⟩; clear hw; clear HO0_0; clear BK0; clear BK109; clear BK111; clear HK; clear HB; have HO0_0 := n0_; have BK0 := n1_; have BK109 := n2_; have BK111 := n3_; have HK := n4_; have HB := n5_; clear n0_ n1_ n2_ n3_ n4_ n5_; have hcz20_0 : w19.cell? ⟨g, 0, none⟩ = some (.slice (some ad110) l0_0.length co14) := (blk_cell BK0.out 0).trans rfl; have hcz20_1 : w19.cell? ⟨g, 1, none⟩ = some (.int .i64 a0_1) := (blk_cell BK0.out 1).trans rfl; have hfz20_0 := blk_frozen BK0.out 0; have hfz20_1 := blk_frozen BK0.out 1) | ((with_reducible refine gate_callee (f := 53) rfl ?_); refine goesL_ (some 23) rfl rfl Try.func53 (by kernel_rfl) rfl #[.slice (some ad110) l0_0.length co14, .int .i64 0, .int .i64 1] rfl (by (try simp only [List.map_toArray, List.map_cons, List.map_nil]); first | done | rfl | (simp only [List.length_drop, List.length_take]; rfl)) ?_; (with_reducible refine (ext_53.calls (fun k_ => some k_ = (.slice (some ad110) l0_0.length co14 : Value).ownBlock) (.slice (some ad110) l0_0.length co14) l0_0 0 1 t112 w0 _ ?side1 ?side2 A10.out).mono ?_); (case side1 => repeat (first | (with_reducible first | exact HB.out | apply below_alloc | apply pw_below_drewN | apply below_drew1 | refine below_set ?_ GE0.out | refine below_set ?_ GE109.out | refine below_set ?_ GE111.out) | exact HB.out)); (case side2 => exact Kd.R_tight rfl HO0_0.out); rintro e w21 ⟨v113, rfl, ho0, hb, hkp⟩; refine ⟨_, rfl, ?_⟩; have n0_ := Goto.m0 (blk_kept (Goto.bx BK0) hkp (fun hs_ => (fun e_ => (Kd.R_ne HO0_0.out BK0.out (by decide)) e_) hs_)); have n1_ := Goto.m0 (blk_kept (Goto.bx BK109) hkp (fun hs_ => (fun e_ => (Kd.R_away HO0_0.out (fun _ hk => hk.2.1)) e_) hs_)); have n2_ := Goto.m0 (blk_kept (Goto.bx BK111) hkp (fun hs_ => (fun e_ => (Kd.R_away HO0_0.out (fun _ hk => hk.2.2)) e_) hs_)); have n3_ := Goto.m0 (Kd.R_mono (ok' := fun k_ => (P0_0_ k_ ∨ w.heap.size ≤ k_) ∧ k_ ≠ gb109 ∧ k_ ≠ gb111) ho0 (fun k_ hk_ => ⟨Or.elim hk_ (fun hs_ => (HO0_0.out.1 k_ (hs_).symm).1) (fun hn_ => (.inr (Nat.le_trans (by first | exact HK.out.1 | exact (show Kept w _ (fun k_ => (P0_0_ k_) ∨ k_ = g) from by repeat (first | (with_reducible first | exact HK.out | apply Kept.alloc | apply Kept.drewN | apply Kept.drew | refine Kept.setCell ?_ (.inl (.inr rfl)) _ | refine Kept.setCell ?_ (.inr GW109.out) _ | refine Kept.setCell ?_ (.inr GW111.out) _) | exact HK.out)).1) hn_))), Or.elim hk_ (fun hs_ => fun e_ => (Kd.R_away HO0_0.out (fun _ hk => hk.2.1)) (by rw [← e_]; exact hs_)) (fun hn_ => (Kd.freshB (g := gb109) (o := .cells #[.int .i64 0, .int .i64 0] 63 (0, 0)) (Goto.bx BK109) k_ hn_)), Or.elim hk_ (fun hs_ => fun e_ => (Kd.R_away HO0_0.out (fun _ hk => hk.2.2)) (by rw [← e_]; exact hs_)) (fun hn_ => (Kd.freshB (g := gb111) (o := .cells #[.int .i64 ((rd_T63 l0_0 0).f0), .int .i64 ((rd_T63 l0_0 0).f1)] 63 (0, 0)) (Goto.bx BK111) k_ hn_))⟩)); have n4_ := Goto.m0 (Kept.then_ (S := (fun k_ => (P0_0_ k_) ∨ k_ = g)) (by repeat (first | (with_reducible first | exact HK.out | apply Kept.alloc | apply Kept.drewN | apply Kept.drew | refine Kept.setCell ?_ (.inl (.inr rfl)) _ | refine Kept.setCell ?_ (.inr GW109.out) _ | refine Kept.setCell ?_ (.inr GW111.out) _) | exact HK.out)) hkp (fun k_ hs_ => (fun e_ => Or.imp_left Or.inl ((HO0_0.out.1 k_ e_.symm).1)) hs_)); have n5_ := Goto.m0 (hb); clear BK0; clear BK109; clear BK111; clear HK; clear HB; clear HO0_0; have BK0 := n0_; have BK109 := n1_; have BK111 := n2_; have HO114 := n3_; have HK := n4_; have HB := n5_; clear n0_ n1_ n2_ n3_ n4_ n5_; (try clear hb); (try clear hkp); (try clear ho0); obtain ⟨Ao22, co22, eo22⟩ := Kd.R_slice HO114.out; subst eo22; have hcz23_0 : w21.cell? ⟨g, 0, none⟩ = some (.slice (some ad110) l0_0.length co14) := (blk_cell BK0.out 0).trans rfl; have hcz23_1 : w21.cell? ⟨g, 1, none⟩ = some (.int .i64 a0_1) := (blk_cell BK0.out 1).trans rfl; have hfz23_0 := blk_frozen BK0.out 0; have hfz23_1 := blk_frozen BK0.out 1) | ((with_reducible refine gate_store (t := 67) (p := 25) rfl ?_); refine store_event (t := 67) (p := 25) (v := ?vo_w24) (w1 := (w21.setCell ⟨g, 0, none⟩ (.slice Ao22 t112.length co22))) ?hg ?ho ?hn ?hr ?_; (case ho => rfl); (case hg => rfl); (case hn => rfl); (case hr => first | (go_simp; done) | (go_simp; rfl)); intro w24 hw; have n0_ : Aside0 (Kd.R k63 63 w24 w0.heap.size (fun k_ => (P0_0_ k_ ∨ w.heap.size ≤ k_) ∧ k_ ≠ gb109 ∧ k_ ≠ gb111) (.slice Ao22 t112.length co22) t112) := ⟨(by rw [hw]; exact (by (with_reducible repeat (first | apply Kd.R_alloc | apply Kd.R_drewN | apply Kd.R_drew)); exact Kd.R_mono (Kd.R_far (p := ⟨g, 0, none⟩) (Kd.R_types HO114.out BK0.out (by decide)) (fun _ hk => hk.2) (.slice Ao22 t112.length co22)) (fun _ hk => ⟨hk.1.1, ⟨hk.1.2.1, hk.1.2.2⟩⟩)))⟩; have n1_ : Aside0 (w24.heap[g]? = some (.cells #[.slice Ao22 t112.length co22, .int .i64 a0_1] 83 (0, 0))) := ⟨(by rw [hw]; exact (Goto.bx BK0))⟩; have n2_ : Aside0 (w24.heap[gb109]? = some (.cells #[.int .i64 0, .int .i64 0] 63 (0, 0))) := ⟨(by rw [hw]; exact (Goto.bx BK109))⟩; have n3_ : Aside0 (w24.heap[gb111]? = some (.cells #[.int .i64 ((rd_T63 l0_0 0).f0), .int .i64 ((rd_T63 l0_0 0).f1)] 63 (0, 0))) := ⟨(by rw [hw]; exact (Goto.bx BK111))⟩; have n4_ : Aside0 (Kept w w24 (fun k_ => (P0_0_ k_) ∨ k_ = g)) := ⟨(by rw [hw]; exact (by repeat (first | (with_reducible first | exact HK.out | apply Kept.alloc | apply Kept.drewN | apply Kept.drew | refine Kept.setCell ?_ (.inl (.inr rfl)) _ | refine Kept.setCell ?_ (.inr GW109.out) _ | refine Kept.setCell ?_ (.inr GW111.out) _) | exact HK.out)))⟩; have n5_ : Aside0 (Below w0.heap.size w0 w24) := ⟨(by rw [hw]; exact (Goto.hx HB))⟩; clear hw; clear HO114; clear BK0; clear BK109; clear BK111; clear HK; clear HB; have HO114 := n0_; have BK0 := n1_; have BK109 := n2_; have BK111 := n3_; have HK := n4_; have HB := n5_; clear n0_ n1_ n2_ n3_ n4_ n5_; have hcz25_0 : w24.cell? ⟨gb111, 0, none⟩ = some (.int .i64 ((rd_T63 l0_0 0).f0)) := (blk_cell BK111.out 0).trans rfl; have hcz25_1 : w24.cell? ⟨gb111, 1, none⟩ = some (.int .i64 ((rd_T63 l0_0 0).f1)) := (blk_cell BK111.out 1).trans rfl; have hfz25_0 := blk_frozen BK111.out 0; have hfz25_1 := blk_frozen BK111.out 1; have hcz26_0 : w24.cell? ⟨gb109, 0, none⟩ = some (.int .i64 0) := (blk_cell BK109.out 0).trans rfl; have hcz26_1 : w24.cell? ⟨gb109, 1, none⟩ = some (.int .i64 0) := (blk_cell BK109.out 1).trans rfl; have hfz26_0 := blk_frozen BK109.out 0; have hfz26_1 := blk_frozen BK109.out 1) | ((with_reducible refine gate_store (t := 63) (p := 2) rfl ?_); refine store_event (t := 63) (p := 2) (v := ?vo_w27) (w1 := ((w24.setCell ⟨gb109, 0, none⟩ (.int .i64 ((rd_T63 l0_0 0).f0))).setCell ⟨gb109, 1, none⟩ (.int .i64 ((rd_T63 l0_0 0).f1)))) ?hg ?ho ?hn ?hr ?_; (case ho => rfl); (case hg => rfl); (case hn => rfl); (case hr => first | (go_simp; done) | (go_simp; rfl)); intro w27 hw; have n0_ : Aside0 (Kd.R k63 63 w27 w0.heap.size (fun k_ => (P0_0_ k_ ∨ w.heap.size ≤ k_) ∧ k_ ≠ gb109 ∧ k_ ≠ gb111) (.slice Ao22 t112.length co22) t112) := ⟨(by rw [hw]; exact (by (with_reducible repeat (first | apply Kd.R_alloc | apply Kd.R_drewN | apply Kd.R_drew)); exact Kd.R_mono (Kd.R_far (p := ⟨gb109, 1, none⟩) (Kd.R_far (p := ⟨gb109, 0, none⟩) (Goto.nx gb109 HO114.out (fun k_ hk => hk.2.1)) (fun _ hk => hk.2) (.int .i64 ((rd_T63 l0_0 0).f0))) (fun _ hk => hk.2) (.int .i64 ((rd_T63 l0_0 0).f1))) (fun _ hk => ⟨hk.1.1, ⟨hk.1.2.1, hk.1.2.2⟩⟩)))⟩; have n1_ : Aside0 (w27.heap[g]? = some (.cells #[.slice Ao22 t112.length co22, .int .i64 a0_1] 83 (0, 0))) := ⟨(by rw [hw]; exact (Goto.bx BK0))⟩; have n2_ : Aside0 (w27.heap[gb109]? = some (.cells #[.int .i64 ((rd_T63 l0_0 0).f0), .int .i64 ((rd_T63 l0_0 0).f1)] 63 (0, 0))) := ⟨(by rw [hw]; exact (Goto.bx BK109))⟩; have n3_ : Aside0 (w27.heap[gb111]? = some (.cells #[.int .i64 ((rd_T63 l0_0 0).f0), .int .i64 ((rd_T63 l0_0 0).f1)] 63 (0, 0))) := ⟨(by rw [hw]; exact (Goto.bx BK111))⟩; have n4_ : Aside0 (Kept w w27 (fun k_ => (P0_0_ k_) ∨ k_ = g)) := ⟨(by rw [hw]; exact (by repeat (first | (with_reducible first | exact HK.out | apply Kept.alloc | apply Kept.drewN | apply Kept.drew | refine Kept.setCell ?_ (.inl (.inr rfl)) _ | refine Kept.setCell ?_ (.inr GW109.out) _ | refine Kept.setCell ?_ (.inr GW111.out) _) | exact HK.out)))⟩; have n5_ : Aside0 (Below w0.heap.size w0 w27) := ⟨(by rw [hw]; exact (Goto.hx HB))⟩; clear hw; clear HO114; clear BK0; clear BK109; clear BK111; clear HK; clear HB; have HO114 := n0_; have BK0 := n1_; have BK109 := n2_; have BK111 := n3_; have HK := n4_; have HB := n5_; clear n0_ n1_ n2_ n3_ n4_ n5_))
   refine bodyPost_ret (results_ct rfl _ _ gb109 63 #[.int .i64 ((rd_T63 l0_0 0).f0), .int .i64 ((rd_T63 l0_0 0).f1)] (0, 0) _ rfl (Goto.bx BK109) Try.underlying63 rfl (by kernel_rfl)) rfl ?_
   (try simp only [← exists_and_left])
   exact ⟨_, by first | rfl | (simp [errW_none, errW_some] <;> rfl) | (simp [*, errW_none, errW_some] <;> rfl), by (with_reducible repeat (first | apply Kd.R_alloc | apply Kd.R_drewN | apply Kd.R_drew)); exact Kd.R_mono HO114.out (fun _ hk => hk.1), by (with_reducible repeat first | refine blk_drewN ?_ _ | refine blk_drew ?_ | refine blk_alloc ?_ _); exact BK0.out, by repeat (first | (with_reducible first | exact HB.out | apply below_alloc | apply pw_below_drewN | apply below_drew1 | refine below_set ?_ GE0.out | refine below_set ?_ GE109.out | refine below_set ?_ GE111.out) | exact HB.out), by repeat (first | (with_reducible first | exact HK.out | apply Kept.alloc | apply Kept.drewN | apply Kept.drew | refine Kept.setCell ?_ (.inl (.inr rfl)) _ | refine Kept.setCell ?_ (.inr GW109.out) _ | refine Kept.setCell ?_ (.inr GW111.out) _) | exact HK.out)⟩
  ·
   rw [if_neg c9] at H
   exact absurd H (by simp)

/-! ### mail_Box_Len: function 44 -/
def mail_Box_Len.f (l0_0 : List (S63)) (a0_1 : Int) : Option (Int × (List (S63))) := some ((l0_0.length : Int), l0_0)
set_option maxHeartbeats 8000000 in
set_option maxRecDepth 100000 in
theorem mail_Box_Len.calls (g : Nat) (P0_0_ : Nat → Prop) (u9000_ : Value) (l0_0 : List (S63)) (a0_1 : Int) (r1 : Int) (r2 : List (S63)) (w0 w : World) (hI : w.heap[g]? = some (.cells #[u9000_, .int .i64 a0_1] 83 (0, 0))) (hG : w0.heap.size ≤ g) (hB : Below w0.heap.size w0 w) (ho0_0 : Kd.R k63 63 w w0.heap.size P0_0_ u9000_ l0_0) (h : mail_Box_Len.f l0_0 a0_1 = some (r1, r2)) :
    Calls Try.prog 44 #[.pointer (some ⟨g, 0, none⟩)] w fun e w' => e = .returned (.int .i64 r1) ∧ w'.heap[g]? = some (.cells #[u9000_, .int .i64 a0_1] 83 (0, 0)) ∧ Kd.R k63 63 w' w0.heap.size (fun k_ => (P0_0_ k_ ∨ w.heap.size ≤ k_)) u9000_ r2 ∧ Below w0.heap.size w0 w' ∧ Kept w w' (fun k_ => (P0_0_ k_) ∨ k_ = g) := by
 have HO0_0 := Goto.m0 (show Kd.R k63 63 w w0.heap.size (fun k_ => (P0_0_ k_ ∨ w.heap.size ≤ k_)) u9000_ l0_0 from Kd.R_mono ho0_0 (fun k_ hk => (.inl hk)))
 have BK0 := Goto.m0 hI
 have GE0 := Goto.m0 hG
 clear hI hG
 have HK := Goto.m0 (Kept.refl w (fun k_ => (P0_0_ k_) ∨ k_ = g))
 have HW0 := Goto.m0 hB.size
 have HB := Goto.m0 hB
 clear hB
 have H : (some ((l0_0.length : Int), l0_0)) = some (r1, r2) := h
 clear h
 simp only [Option.some.injEq, Prod.mk.injEq] at H
 obtain ⟨rfl, rfl⟩ := H
 have hcz2_0 : w.cell? ⟨g, 0, none⟩ = some (u9000_) := (blk_cell BK0.out 0).trans rfl; have hcz2_1 : w.cell? ⟨g, 1, none⟩ = some (.int .i64 a0_1) := (blk_cell BK0.out 1).trans rfl; have hfz2_0 := blk_frozen BK0.out 0; have hfz2_1 := blk_frozen BK0.out 1
 obtain ⟨Ao3, co3, eo3⟩ := Kd.R_slice HO0_0.out
 subst eo3
 go_enter Try.func44, Try.ntmps44
 go_wp2
 go_ret
 (try simp only [← exists_and_left])
 exact ⟨by first | rfl | (simp [errW_none, errW_some] <;> rfl) | (simp [*, errW_none, errW_some] <;> rfl), by (with_reducible repeat first | refine blk_drewN ?_ _ | refine blk_drew ?_ | refine blk_alloc ?_ _); exact BK0.out, by (with_reducible repeat (first | apply Kd.R_alloc | apply Kd.R_drewN | apply Kd.R_drew)); exact HO0_0.out, by repeat (first | (with_reducible first | exact HB.out | apply below_alloc | apply pw_below_drewN | apply below_drew1 | refine below_set ?_ GE0.out) | exact HB.out), by repeat (first | (with_reducible first | exact HK.out | apply Kept.alloc | apply Kept.drewN | apply Kept.drew | refine Kept.setCell ?_ (.inl (.inr rfl)) _) | exact HK.out)⟩

/-- A state of type 86 at block g of W; what its slices lead to came in by w0. -/
def IsS86 (w0 W : World) (g : Nat) (f0 : Int) (f1 : Int) : Prop := W.heap[g]? = some (.cells #[.int .i64 f0, .int .i64 f1] 86 (0, 0)) ∧ w0.heap.size ≤ g
theorem IsS86.grown {w0 W : World} {g : Nat} {f0 : Int} {f1 : Int} {W1 : World} {row : Option Nat} (h : IsS86 w0 W g f0 f1) (hw : W.grownBy W1 row) (hne : some g ≠ row) : IsS86 w0 W1 g f0 f1 := by
 obtain ⟨hb, hg⟩ := h
 exact ⟨blk_grown hb hw hne, hg⟩
theorem IsS86.own_neN {w0 W : World} {g : Nat} {f0 : Int} {f1 : Int} {α : Type} {d : Kd α} {e : Nat} {base : Nat} {ok : Nat → Prop} {v : Value} {xs : List α} (h : IsS86 w0 W g f0 f1) (ho : Kd.N d e W base ok v xs) (ht : e ≠ 86) : some g ≠ v.ownBlock := by
 obtain ⟨hb, hg⟩ := h
 exact Kd.N_ne ho hb ht
theorem IsS86.fresh {w0 W : World} {g : Nat} {f0 : Int} {f1 : Int} (h : IsS86 w0 W g f0 f1) : ∀ k, W.heap.size ≤ k → k ≠ g := by
 obtain ⟨hb, hg⟩ := h
 exact Kd.freshB hb
theorem IsS86.kept {w0 W : World} {g : Nat} {f0 : Int} {f1 : Int} {W1 : World} {S : Nat → Prop} (h : IsS86 w0 W g f0 f1) (hk : Kept W W1 S) (hne : ¬ S g) : IsS86 w0 W1 g f0 f1 := by
 obtain ⟨hb, hg⟩ := h
 exact ⟨blk_kept hb hk hne, hg⟩
theorem IsS86.below {w0 W : World} {g : Nat} {f0 : Int} {f1 : Int} {W1 : World} (h : IsS86 w0 W g f0 f1) (hw : Below W.heap.size W W1) : IsS86 w0 W1 g f0 f1 := h.grown (grown_of_below hw none) (by simp)
theorem IsS86.alloc {w0 W : World} {g : Nat} {f0 : Int} {f1 : Int} (h : IsS86 w0 W g f0 f1) (o : Obj) : IsS86 w0 (W.alloc o) g f0 f1 := h.below (below_alloc (Below.refl _ _) o)
theorem IsS86.drewN {w0 W : World} {g : Nat} {f0 : Int} {f1 : Int} (h : IsS86 w0 W g f0 f1) (m : Nat) : IsS86 w0 (W.drewN m) g f0 f1 := h
theorem IsS86.drew {w0 W : World} {g : Nat} {f0 : Int} {f1 : Int} (h : IsS86 w0 W g f0 f1) : IsS86 w0 W.drew g f0 f1 := h
theorem IsS86.at_ {w0 W : World} {g : Nat} {f0 : Int} {f1 : Int} {w' : World} {m : Nat} (hq : W.drewN m = w') (h : IsS86 w0 W g f0 f1) : IsS86 w0 w' g f0 f1 := by subst hq; exact IsS86.drewN h m
theorem IsS86.apart {w0 W : World} {g : Nat} {f0 : Int} {f1 : Int} {α : Type} {d : Kd α} {e : Nat} {base : Nat} {ok : Nat → Prop} {v : Value} {xs : List α} (h : IsS86 w0 W g f0 f1) (ho : d.R e W base ok v xs) (ht : ∀ q, q ∈ e :: d.E → q ≠ 86) : d.R e W base (fun k => ok k ∧ k ≠ g) v xs := by
 obtain ⟨hb, hg⟩ := h
 exact Kd.R_types ho hb ht
theorem IsS86.own_ne {w0 W : World} {g : Nat} {f0 : Int} {f1 : Int} {α : Type} {d : Kd α} {e : Nat} {base : Nat} {ok : Nat → Prop} {v : Value} {xs : List α} (h : IsS86 w0 W g f0 f1) (ho : d.R e W base ok v xs) (ht : e ≠ 86) : some g ≠ v.ownBlock := by
 obtain ⟨hb, hg⟩ := h
 exact Kd.R_ne ho hb ht
theorem IsS86.apartQ {w0 W : World} {g : Nat} {f0 : Int} {f1 : Int} {α : Type} {d : Kd α} {e : Nat} {base : Nat} {ok : Nat → Prop} {v : Value} {xs : List α} (h : IsS86 w0 W g f0 f1) (ho : d.Q e W base ok v xs) (ht : ∀ q, q ∈ e :: d.E → q ≠ 86) : d.Q e W base (fun k => ok k ∧ k ≠ g) v xs := by
 obtain ⟨hb, hg⟩ := h
 exact Kd.Q_types ho hb ht
theorem IsS86.own_neQ {w0 W : World} {g : Nat} {f0 : Int} {f1 : Int} {α : Type} {d : Kd α} {e : Nat} {base : Nat} {ok : Nat → Prop} {v : Value} {xs : List α} (h : IsS86 w0 W g f0 f1) (ho : d.Q e W base ok v xs) (ht : e ≠ 86) : some g ≠ v.ownBlock := by
 obtain ⟨hb, hg⟩ := h
 exact Kd.Q_ne ho hb ht
theorem IsS86.apartS {w0 W : World} {g : Nat} {f0 : Int} {f1 : Int} {α : Type} {d : Kd α} {e : Nat} {base : Nat} {ok : Nat → Prop} {v : Value} {xs : List α} (h : IsS86 w0 W g f0 f1) (ho : d.S e W base ok v xs) (ht : ∀ q, q ∈ e :: d.E → q ≠ 86) : d.S e W base (fun k => ok k ∧ k ≠ g) v xs := by
 obtain ⟨hb, hg⟩ := h
 exact Kd.S_types ho hb ht
theorem IsS86.own_neS {w0 W : World} {g : Nat} {f0 : Int} {f1 : Int} {α : Type} {d : Kd α} {e : Nat} {base : Nat} {ok : Nat → Prop} {v : Value} {xs : List α} (h : IsS86 w0 W g f0 f1) (ho : d.S e W base ok v xs) (ht : e ≠ 86) : some g ≠ v.ownBlock := by
 obtain ⟨hb, hg⟩ := h
 exact Kd.S_ne ho hb ht
theorem IsS86.lt {w0 W : World} {g : Nat} {f0 : Int} {f1 : Int} (h : IsS86 w0 W g f0 f1) : g < W.heap.size := by
 obtain ⟨hb, hg⟩ := h
 exact blk_lt hb
theorem IsS86.ge {w0 W : World} {g : Nat} {f0 : Int} {f1 : Int} (h : IsS86 w0 W g f0 f1) : w0.heap.size ≤ g := by
 obtain ⟨hb, hg⟩ := h
 exact hg
theorem IsS86.ne_blk {w0 W : World} {g : Nat} {f0 : Int} {f1 : Int} {a : Nat} {cs : Array Value} {t : TypeId} {fr : Nat × Nat} (h : IsS86 w0 W g f0 f1) (hb2 : W.heap[a]? = some (.cells cs t fr)) (ht : t ≠ 86) : g ≠ a := by
 obtain ⟨hb, hg⟩ := h
 rintro rfl
 rw [hb] at hb2
 injection hb2 with hb2
 injection hb2 with _ ht2
 exact ht ht2.symm
theorem IsS86.far {w0 W : World} {g : Nat} {f0 : Int} {f1 : Int} {p : Addr} (h : IsS86 w0 W g f0 f1) (hne : g ≠ p.block) (u : Value) : IsS86 w0 (W.setCell p u) g f0 f1 := by
 obtain ⟨hb, hg⟩ := h
 exact ⟨blk_far hb hne u, hg⟩
theorem cellS86_0 {W : World} {g : Nat} {f0 : Int} {f1 : Int} (h : W.heap[g]? = some (.cells #[.int .i64 f0, .int .i64 f1] 86 (0, 0))) : W.cell? ⟨g, 0, none⟩ = some (.int .i64 f0) := (blk_cell h 0).trans rfl
theorem IsS86.set_0 {w0 W : World} {g : Nat} {f0 : Int} {f1 : Int} (h : IsS86 w0 W g f0 f1) (x : Int) : IsS86 w0 (W.setCell ⟨g, 0, none⟩ (.int .i64 x)) g x f1 := by
 obtain ⟨hb, hg⟩ := h
 exact ⟨by simpa using blk_set hb 0 (.int .i64 x), hg⟩
theorem cellS86_1 {W : World} {g : Nat} {f0 : Int} {f1 : Int} (h : W.heap[g]? = some (.cells #[.int .i64 f0, .int .i64 f1] 86 (0, 0))) : W.cell? ⟨g, 1, none⟩ = some (.int .i64 f1) := (blk_cell h 1).trans rfl
theorem IsS86.set_1 {w0 W : World} {g : Nat} {f0 : Int} {f1 : Int} (h : IsS86 w0 W g f0 f1) (x : Int) : IsS86 w0 (W.setCell ⟨g, 1, none⟩ (.int .i64 x)) g f0 x := by
 obtain ⟨hb, hg⟩ := h
 exact ⟨by simpa using blk_set hb 1 (.int .i64 x), hg⟩
theorem IsS86.new (w0 W : World) (f0 : Int) (f1 : Int) (hB : Below w0.heap.size w0 W) : IsS86 w0 (W.alloc (.cells #[.int .i64 f0, .int .i64 f1] 86)) W.heap.size f0 f1 := ⟨by simpa using heap_alloc_new W _, hB.size⟩

/-! ### mail_Quota: function 47 -/
def mail_Quota.f (a0 : Int) : Option (Int × Int) := some (mn (mx a0 0) 8, mn (mx a0 0) 8)
set_option maxHeartbeats 8000000 in
set_option maxRecDepth 100000 in
theorem mail_Quota.calls (a0 : Int) (r1 : Int) (r2 : Int) (w0 w : World) (hB : Below w0.heap.size w0 w) (h : mail_Quota.f a0 = some (r1, r2)) :
    Calls Try.prog 47 #[.int .i64 a0] w fun e w' => ∃ g_ : Nat, e = .returned (.pointer (some ⟨g_, 0, none⟩)) ∧ IsS86 w0 w' g_ r1 r2 ∧ Below w0.heap.size w0 w' ∧ Below w.heap.size w w' := by
 have hu86 := Try.underlying86
 have HBW := Goto.m0 (Below.refl w.heap.size w)
 have HW0 := Goto.m0 hB.size
 have HB := Goto.m0 hB
 clear hB
 have H : (some (mn (mx a0 0) 8, mn (mx a0 0) 8)) = some (r1, r2) := h
 clear h
 obtain ⟨ji2, hji2⟩ : ∃ j_ : Int, (mx a0 0) = j_ := ⟨_, rfl⟩
 replace H : (some (mn (ji2) 8, mn (ji2) 8)) = some (r1, r2) := by first | (rw [hji2] at H; exact H) | (simp only [hji2] at H ⊢; exact H)
 (try (have hji2l : 0 ≤ ji2 := by (rw [← hji2]; unfold mx; (repeat' split) <;> omega)))
 (try (have hji2m : 0 ≤ ji2 := by omega))
 have hji2_ : (if a0 < 0 then 0 else a0) = ji2 := hji2
 obtain ⟨ji3, hji3⟩ : ∃ j_ : Int, (mn (ji2) 8) = j_ := ⟨_, rfl⟩
 (try rw [hji3] at hji2)
 (try rw [hji3] at hji2w)
 replace H : (some (ji3, ji3)) = some (r1, r2) := by first | (rw [hji3] at H; exact H) | (simp only [hji3] at H ⊢; exact H)
 have hji3_ : (if 8 < (ji2) then 8 else (ji2)) = ji3 := hji3
 simp only [Option.some.injEq, Prod.mk.injEq] at H
 obtain ⟨rfl, rfl⟩ := H
 go_enter Try.func47, Try.ntmps47
 go_wp2_with (first | ((with_reducible refine gate_dst (N := 10) rfl ?_); refine box_event ?hg (N := 10) ?hd (cs := #[.int .i64 ji3, .int .i64 ji3]) (t := 86) ?hr ?_; (case hd => rfl); (case hg => rfl); (case hr => first | (go_simp; done) | (go_simp; rfl)); intro gb115 hg w4 hbox hb; have BK115 := Goto.m0 (hbox); have GW115 := Goto.m0 ((by rw [hg]; exact (below_size (by repeat (first | (with_reducible first | exact HBW.out | apply below_alloc | apply pw_below_drewN | apply below_drew1) | exact HBW.out))) : w.heap.size ≤ gb115)); have GE115 := Goto.m0 ((Nat.le_trans HW0.out (by rw [hg]; exact (below_size (by repeat (first | (with_reducible first | exact HBW.out | apply below_alloc | apply pw_below_drewN | apply below_drew1) | exact HBW.out))) : w.heap.size ≤ gb115) : w0.heap.size ≤ gb115)); replace HBW := Goto.m0 (below_step HBW.out hb); replace HB := Goto.hs HB hb; clear hb hbox hg))
 go_ret
 exact ⟨_, rfl, (show IsS86 w0 _ gb115 ji3 ji3 from ⟨by (with_reducible repeat first | refine blk_drewN ?_ _ | refine blk_drew ?_ | refine blk_alloc ?_ _); exact BK115.out, GE115.out⟩), by repeat (first | (with_reducible first | exact HB.out | apply below_alloc | apply pw_below_drewN | apply below_drew1 | refine below_set ?_ GE115.out) | exact HB.out), by repeat (first | (with_reducible first | exact HBW.out | apply below_alloc | apply pw_below_drewN | apply below_drew1 | refine below_set ?_ GW115.out) | exact HBW.out)⟩

/-! ### mail_Purse_Fill: function 48 -/
def mail_Purse_Fill.f (s0_0 : Int) (s0_1 : Int) : Option (Int × Int) := some (s0_1, s0_1)
set_option maxHeartbeats 8000000 in
set_option maxRecDepth 100000 in
theorem mail_Purse_Fill.calls (g : Nat) (s0_0 : Int) (s0_1 : Int) (r1 : Int) (r2 : Int) (w0 w : World) (hI : IsS86 w0 w g s0_0 s0_1) (hB : Below w0.heap.size w0 w) (h : mail_Purse_Fill.f s0_0 s0_1 = some (r1, r2)) :
    Calls Try.prog 48 #[.pointer (some ⟨g, 0, none⟩)] w fun e w' => e = .returned (.tuple #[]) ∧ IsS86 w0 w' g r1 r2 ∧ Below w0.heap.size w0 w' ∧ KeepBut w w' g none := by
 have HI0 := Goto.m0 hI
 have HK := Goto.m0 (KeepBut.refl w g none)
 have HL := Goto.m0 hB.size
 clear hI
 have HW0 := Goto.m0 hB.size
 have HB := Goto.m0 hB
 clear hB
 have H : (some (s0_1, s0_1)) = some (r1, r2) := h
 clear h
 simp only [Option.some.injEq, Prod.mk.injEq] at H
 obtain ⟨rfl, rfl⟩ := H
 obtain ⟨HGz2, hgz2⟩ := HI0.out
 have hcz2_0 := cellS86_0 HGz2
 have hcz2_1 := cellS86_1 HGz2
 have hfz2_0 := blk_frozen HGz2 0
 have hfz2_1 := blk_frozen HGz2 1
 clear HGz2 hgz2
 go_enter Try.func48, Try.ntmps48
 go_wp2
 first | go_end0 | ((try simp only [Exit.inBlock, Exit.then]); refine bodyPost_ret (results_none rfl _ _ _) rfl ?_)
 exact ⟨by first | rfl | (simp [errW_none, errW_some] <;> rfl) | (simp [*, errW_none, errW_some] <;> rfl), by repeat (first | (with_reducible first | exact HI0.out | apply IsS86.alloc | apply IsS86.drewN | apply IsS86.drew | apply IsS86.set_0 | apply IsS86.set_1) | exact HI0.out), by repeat (first | (with_reducible first | exact HB.out | apply below_alloc | apply pw_below_drewN | apply below_drew1 | refine below_set ?_ (IsS86.ge HI0.out)) | exact HB.out), by repeat (first | (with_reducible first | exact HK.out | apply KeepBut.set_ | apply keep_drewN | apply keep_drew | apply keep_alloc) | exact HK.out)⟩

/-! ### mail_Purse_Spend: function 49 -/
def mail_Purse_Spend.f (s0_0 : Int) (s0_1 : Int) : Option (Bool × Int × Int) := if s0_0 = 0 then (some (false, s0_0, s0_1)) else (some (true, wrap64 (s0_0 - 1), s0_1))
set_option maxHeartbeats 8000000 in
set_option maxRecDepth 100000 in
theorem mail_Purse_Spend.calls (g : Nat) (s0_0 : Int) (s0_1 : Int) (r1 : Bool) (r2 : Int) (r3 : Int) (w0 w : World) (hI : IsS86 w0 w g s0_0 s0_1) (hB : Below w0.heap.size w0 w) (h : mail_Purse_Spend.f s0_0 s0_1 = some (r1, r2, r3)) :
    Calls Try.prog 49 #[.pointer (some ⟨g, 0, none⟩)] w fun e w' => e = .returned (.bool r1) ∧ IsS86 w0 w' g r2 r3 ∧ Below w0.heap.size w0 w' ∧ KeepBut w w' g none := by
 have HI0 := Goto.m0 hI
 have HK := Goto.m0 (KeepBut.refl w g none)
 have HL := Goto.m0 hB.size
 clear hI
 have HW0 := Goto.m0 hB.size
 have HB := Goto.m0 hB
 clear hB
 have H : (if s0_0 = 0 then (some (false, s0_0, s0_1)) else (some (true, wrap64 (s0_0 - 1), s0_1))) = some (r1, r2, r3) := h
 clear h
 by_cases c2 : s0_0 = 0
 ·
  rw [if_pos c2] at H
  have c2b0 : (s0_0 == 0) = true := beq_iff_eq.mpr c2
  have c2b1 : (s0_0 != 0) = false := bne_eq_false_iff_eq.mpr c2
  clear c2
  simp only [Option.some.injEq, Prod.mk.injEq] at H
  obtain ⟨rfl, rfl, rfl⟩ := H
  obtain ⟨HGz3, hgz3⟩ := HI0.out
  have hcz3_0 := cellS86_0 HGz3
  have hcz3_1 := cellS86_1 HGz3
  have hfz3_0 := blk_frozen HGz3 0
  have hfz3_1 := blk_frozen HGz3 1
  clear HGz3 hgz3
  go_enter Try.func49, Try.ntmps49
  go_wp2
  go_ret
  exact ⟨by first | rfl | (simp [errW_none, errW_some] <;> rfl) | (simp [*, errW_none, errW_some] <;> rfl), by repeat (first | (with_reducible first | exact HI0.out | apply IsS86.alloc | apply IsS86.drewN | apply IsS86.drew | apply IsS86.set_0 | apply IsS86.set_1) | exact HI0.out), by repeat (first | (with_reducible first | exact HB.out | apply below_alloc | apply pw_below_drewN | apply below_drew1 | refine below_set ?_ (IsS86.ge HI0.out)) | exact HB.out), by repeat (first | (with_reducible first | exact HK.out | apply KeepBut.set_ | apply keep_drewN | apply keep_drew | apply keep_alloc) | exact HK.out)⟩
 ·
  rw [if_neg c2] at H
  have c2b0 : (s0_0 == 0) = false := beq_eq_false_iff_ne.mpr c2
  have c2b1 : (s0_0 != 0) = true := bne_iff_ne.mpr c2
  simp only [Option.some.injEq, Prod.mk.injEq] at H
  obtain ⟨rfl, rfl, rfl⟩ := H
  obtain ⟨HGz4, hgz4⟩ := HI0.out
  have hcz4_0 := cellS86_0 HGz4
  have hcz4_1 := cellS86_1 HGz4
  have hfz4_0 := blk_frozen HGz4 0
  have hfz4_1 := blk_frozen HGz4 1
  clear HGz4 hgz4
  go_enter Try.func49, Try.ntmps49
  go_wp2
  go_ret
  exact ⟨by first | rfl | (simp [errW_none, errW_some] <;> rfl) | (simp [*, errW_none, errW_some] <;> rfl), by repeat (first | (with_reducible first | exact HI0.out | apply IsS86.alloc | apply IsS86.drewN | apply IsS86.drew | apply IsS86.set_0 | apply IsS86.set_1) | exact HI0.out), by repeat (first | (with_reducible first | exact HB.out | apply below_alloc | apply pw_below_drewN | apply below_drew1 | refine below_set ?_ (IsS86.ge HI0.out)) | exact HB.out), by repeat (first | (with_reducible first | exact HK.out | apply KeepBut.set_ | apply keep_drewN | apply keep_drew | apply keep_alloc) | exact HK.out)⟩

/-! ### mail_Purse_Left: function 50 -/
def mail_Purse_Left.f (s0_0 : Int) (s0_1 : Int) : Option (Int × Int × Int) := some (s0_0, s0_0, s0_1)
set_option maxHeartbeats 8000000 in
set_option maxRecDepth 100000 in
theorem mail_Purse_Left.calls (g : Nat) (s0_0 : Int) (s0_1 : Int) (r1 : Int) (r2 : Int) (r3 : Int) (w0 w : World) (hI : IsS86 w0 w g s0_0 s0_1) (hB : Below w0.heap.size w0 w) (h : mail_Purse_Left.f s0_0 s0_1 = some (r1, r2, r3)) :
    Calls Try.prog 50 #[.pointer (some ⟨g, 0, none⟩)] w fun e w' => e = .returned (.int .i64 r1) ∧ IsS86 w0 w' g r2 r3 ∧ Below w0.heap.size w0 w' ∧ KeepBut w w' g none := by
 have HI0 := Goto.m0 hI
 have HK := Goto.m0 (KeepBut.refl w g none)
 have HL := Goto.m0 hB.size
 clear hI
 have HW0 := Goto.m0 hB.size
 have HB := Goto.m0 hB
 clear hB
 have H : (some (s0_0, s0_0, s0_1)) = some (r1, r2, r3) := h
 clear h
 simp only [Option.some.injEq, Prod.mk.injEq] at H
 obtain ⟨rfl, rfl, rfl⟩ := H
 obtain ⟨HGz2, hgz2⟩ := HI0.out
 have hcz2_0 := cellS86_0 HGz2
 have hcz2_1 := cellS86_1 HGz2
 have hfz2_0 := blk_frozen HGz2 0
 have hfz2_1 := blk_frozen HGz2 1
 clear HGz2 hgz2
 go_enter Try.func50, Try.ntmps50
 go_wp2
 go_ret
 exact ⟨by first | rfl | (simp [errW_none, errW_some] <;> rfl) | (simp [*, errW_none, errW_some] <;> rfl), by repeat (first | (with_reducible first | exact HI0.out | apply IsS86.alloc | apply IsS86.drewN | apply IsS86.drew | apply IsS86.set_0 | apply IsS86.set_1) | exact HI0.out), by repeat (first | (with_reducible first | exact HB.out | apply below_alloc | apply pw_below_drewN | apply below_drew1 | refine below_set ?_ (IsS86.ge HI0.out)) | exact HB.out), by repeat (first | (with_reducible first | exact HK.out | apply KeepBut.set_ | apply keep_drewN | apply keep_drew | apply keep_alloc) | exact HK.out)⟩

end Go.Proofs.Ytpbcamdjcnokfaa.P
