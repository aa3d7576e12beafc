/- Printed by a program of this workplace (a turned copy of the kit's optional print), out of the translation; not trusted: Lean checks it. -/
import Derived.Test.YtpbcamdjcnokfaaPx0
import Derived.Test.YtpbcamdjcnokfaaPx2
namespace Go.Proofs.Ytpbcamdjcnokfaa.P
open Go.RowKit Go.Proofs.YtpbcamdjcnokfaaW.PrintWords Go.Proofs.YtpbcamdjcnokfaaW.PrintLast Go.Proofs.YtpbcamdjcnokfaaW.PrintMore
attribute [local go_sem] max2_int min2_int max_two min_two max_three min_three max_four min_four   -- for this text's walks alone
set_option linter.unusedVariables false
set_option linter.unusedSimpArgs false

/-! ### mail_Box_Put: function 40 -/
def mail_Box_Put.f (k : Nat) (l0_0 : List (S63)) (a0_1 : Int) (a1_0 : Int) (a1_1 : Int) : Option (Bool × (List (S63))) := (mail_Box_Waits.f k l0_0 a0_1 a1_0).bind fun bt104 => (if bt104.1 ≥ a0_1 then (some (false, bt104.2)) else (if bt104.2.length < 8796093022208 then (some (true, (bt104.2 ++ [(⟨a1_0, a1_1⟩ : S63)]))) else (none)))
theorem mail_Box_Put.mono : ∀ a0 a1 a2 a3 k, LeO (mail_Box_Put.f k a0 a1 a2 a3) (mail_Box_Put.f (k + 1) a0 a1 a2 a3) := by
 intro a0 a1 a2 a3 k
 unfold mail_Box_Put.f
 repeat' first
   | (with_reducible exact mail_Box_Waits.mono _ _ _ _)
   | (with_reducible exact LeO.refl _)
   | (with_reducible exact LeO.none _)
   | (with_reducible refine LeO.ite ?_ ?_)
   | (with_reducible refine LeO.bind ?_ (fun _ => ?_))
   | exact mail_Box_Waits.mono _ _ _ _
   | exact LeO.none _
   | refine LeO.ite ?_ ?_
   | refine LeO.bind ?_ (fun _ => ?_)
def mail_Box_Put.T1 : Bool × List (List Nat × List Nat) := (true, [([], []), ([], []), ([1], [1]), ([0, 2], [0, 2]), ([], []), ([4], [4]), ([5], [5]), ([6], [6]), ([3, 7], [3, 7])])
def mail_Box_Put.B1 : List Nat := [0, 0, 2, 7, 0, 16, 48, 112, 255]
theorem mail_Box_Put.tab1 : rtab .any (opsOf Try.f40 1) = mail_Box_Put.T1 := by kernel_rfl
theorem mail_Box_Put.bits1 : waitsOk mail_Box_Put.T1.2 mail_Box_Put.B1 = true := by kernel_rfl
def mail_Box_Put.T3 : Bool × List (List Nat × List Nat) := (true, [([], []), ([], []), ([1], [1]), ([2], [2]), ([3], [3]), ([], []), ([5], [5]), ([4, 6], [4, 6]), ([0, 0, 1, 2, 3, 4, 5, 6, 7], [0]), ([8, 0, 1, 2, 3, 4, 5, 6, 7], [8]), ([9, 7, 7, 0, 1, 2, 3, 4, 5, 6, 7], [7, 9])])
def mail_Box_Put.B3 : List Nat := [0, 0, 2, 6, 14, 0, 32, 126, 255, 511, 1023]
theorem mail_Box_Put.tab3 : rtab .any (opsOf Try.f40 3) = mail_Box_Put.T3 := by kernel_rfl
theorem mail_Box_Put.bits3 : waitsOk mail_Box_Put.T3.2 mail_Box_Put.B3 = true := by kernel_rfl
set_option maxHeartbeats 8000000 in
set_option maxRecDepth 100000 in
theorem mail_Box_Put.calls (k : Nat) (g : Nat) (P0_0_ : Nat → Prop) (u9000_ : Value) (l0_0 : List (S63)) (a0_1 : Int) (a1_0 : Int) (a1_1 : Int) (r1 : Bool) (r2 : List (S63)) (w0 w : World) (hI : w.heap[g]? = some (.cells #[u9000_, .int .i64 a0_1] 83 (0, 0))) (hG : w0.heap.size ≤ g) (hB : Below w0.heap.size w0 w) (ho0_0 : Kd.R k63 63 w w0.heap.size P0_0_ u9000_ l0_0) (h : mail_Box_Put.f k l0_0 a0_1 a1_0 a1_1 = some (r1, r2)) :
    Calls Try.prog 40 #[.pointer (some ⟨g, 0, none⟩), .agg #[.int .i64 a1_0, .int .i64 a1_1]] w fun e w' => ∃ v1_ : Value, e = .returned (.bool r1) ∧ Kd.R k63 63 w' w0.heap.size (fun k_ => (P0_0_ k_ ∨ w.heap.size ≤ k_)) v1_ r2 ∧ w'.heap[g]? = some (.cells #[v1_, .int .i64 a0_1] 83 (0, 0)) ∧ Below w0.heap.size w0 w' ∧ Kept w w' (fun k_ => (P0_0_ k_) ∨ k_ = g) := by
 have hu63 := Try.underlying63
 have HO0_0 := Goto.m0 (show Kd.R k63 63 w w0.heap.size (fun k_ => (P0_0_ k_ ∨ w.heap.size ≤ k_)) u9000_ l0_0 from Kd.R_mono ho0_0 (fun k_ hk => (.inl hk)))
 have BK0 := Goto.m0 hI
 have GE0 := Goto.m0 hG
 clear hI hG
 have HK := Goto.m0 (Kept.refl w (fun k_ => (P0_0_ k_) ∨ k_ = g))
 have HW0 := Goto.m0 hB.size
 have HB := Goto.m0 hB
 clear hB
 have H : ((mail_Box_Waits.f k l0_0 a0_1 a1_0).bind fun bt104 => (if bt104.1 ≥ a0_1 then (some (false, bt104.2)) else (if bt104.2.length < 8796093022208 then (some (true, (bt104.2 ++ [(⟨a1_0, a1_1⟩ : S63)]))) else (none)))) = some (r1, r2) := h
 clear h
 replace H := Option.bind_eq_some_iff.mp H
 obtain ⟨⟨t104, t105⟩, A30, H⟩ := H
 replace H : (if t104 ≥ a0_1 then (some (false, t105)) else (if t105.length < 8796093022208 then (some (true, (t105 ++ [(⟨a1_0, a1_1⟩ : S63)]))) else (none))) = some (r1, r2) := H
 have A3 := Goto.m0 A30
 clear A30
 by_cases c4 : t104 ≥ a0_1
 ·
  rw [if_pos c4] at H
  have c4b0 : decide (a0_1 ≤ t104) = true := decide_eq_true c4
  clear c4
  simp only [Option.some.injEq, Prod.mk.injEq] at H
  obtain ⟨rfl, rfl⟩ := H
  go_enter Try.func40, Try.ntmps40
  try go_wp2_with (first | ((with_reducible refine gate_dst (N := 3) rfl ?_); refine box_event ?hg (N := 3) ?hd (cs := #[.int .i64 a1_0, .int .i64 a1_1]) (t := 63) ?hr ?_; (case hd => rfl); (case hg => rfl); (case hr => first | (go_simp; done) | (go_simp; rfl)); intro gb103 hg w5 hbox hb; have BK103 := Goto.m0 (hbox); have GW103 := Goto.m0 ((by rw [hg]; exact (by first | exact HK.out.1 | exact (show Kept w _ (fun k_ => (P0_0_ k_) ∨ k_ = g) from by repeat (first | (with_reducible first | exact HK.out | apply Kept.alloc | apply Kept.drewN | apply Kept.drew | refine Kept.setCell ?_ (.inl (.inr rfl)) _) | exact HK.out)).1) : w.heap.size ≤ gb103)); have GE103 := Goto.m0 ((by rw [hg]; exact (below_size (Goto.hx HB)) : w0.heap.size ≤ gb103)); have NB0_103 := Goto.nl BK0 hg; have NB103_0 := Goto.nr BK0 hg; replace HO0_0 := Goto.m0 (Kd.R_below (Kd.R_elderB (by (with_reducible repeat (first | apply Kd.R_alloc | apply Kd.R_drewN | apply Kd.R_drew)); exact HO0_0.out) gb103 (Nat.le_of_eq hg.symm)) hb); replace BK0 := Goto.bb BK0 hb; replace HK := Goto.m0 (Kept.below (S := (fun k_ => (P0_0_ k_) ∨ k_ = g)) (by repeat (first | (with_reducible first | exact HK.out | apply Kept.alloc | apply Kept.drewN | apply Kept.drew | refine Kept.setCell ?_ (.inl (.inr rfl)) _) | exact HK.out)) hb); replace HB := Goto.hs HB hb; clear hb hbox hg))
  replace HO0_0 := Goto.m0 (Kd.R_drew HO0_0.out); replace BK0 := Goto.m0 (blk_drew BK0.out); replace BK103 := Goto.m0 (blk_drew BK103.out); replace HK := Goto.m0 (Kept.drew HK.out); replace HB := Goto.m0 (below_drew1 HB.out)
  refine start_ (n := 9) (S := fun w' => w'.cell? ⟨gb103, 0, none⟩ = some (.int .i64 a1_0) ∧ w'.cell? ⟨gb103, 1, none⟩ = some (.int .i64 a1_1) ∧ w'.cell? ⟨g, 1, none⟩ = some (.int .i64 a0_1)) (ds := []) (.replicate 9 false) (by kernel_rfl) rfl rfl ⟨(blk_cell BK103.out 0).trans rfl, (blk_cell BK103.out 1).trans rfl, (blk_cell BK0.out 1).trans rfl⟩ (fun hHeld => ?_); refine with_tabW mail_Box_Put.tab1 mail_Box_Put.bits1 (fun HT_ HW_ => ?_)
  generalize w5.drew = w6 at HO0_0 BK0 BK103 HK HB hHeld ⊢
  refine pure_ (i := 0) (N := some 5) (v := ?_) (a' := ?_) (Goto.bs 9 1) rfl rfl (any_of HT_.out (by kernel_rfl)) (fun _ _ _ h => h) (Or.inl ⟨by rfl, ?_⟩) ?_ ?_
  rotate_left
  ·
   intro w'
   go_simp
   with_reducible rfl
  rotate_left
  ·
   exact Goto.ap
  refine pure_ (i := 1) (N := some 6) (v := ?_) (a' := ?_) (Goto.bs 9 3) rfl rfl (any_of HT_.out (by kernel_rfl)) (fun _ _ _ h => h) (Or.inl ⟨by rfl, ?_⟩) ?_ ?_
  rotate_left
  ·
   intro w'
   go_simp
   with_reducible rfl
  rotate_left
  ·
   exact Goto.ap
  refine pure_ (i := 4) (N := some 9) (v := ?_) (a' := ?_) (Goto.bs 9 19) rfl rfl (any_of HT_.out (by kernel_rfl)) (fun _ _ _ h => h) (Or.inl ⟨by rfl, ?_⟩) ?_ ?_
  rotate_left
  ·
   intro w'
   go_simp
   with_reducible rfl
  rotate_left
  ·
   exact Goto.ap
  refine pure_ (i := 5) (N := some 10) (v := ?_) (a' := ?_) (Goto.bs 9 51) rfl rfl (any_of HT_.out (by kernel_rfl)) (fun _ _ _ h => h) (Or.inl ⟨by rfl, ?_⟩) ?_ ?_
  rotate_left
  ·
   intro w'
   go_simp
   with_reducible rfl
  rotate_left
  ·
   exact Goto.ap
  refine pure_ (i := 6) (N := some 11) (v := ?_) (a' := ?_) (Goto.bs 9 115) rfl rfl (any_of HT_.out (by kernel_rfl)) (fun _ _ _ h => h) (Or.inl ⟨by rfl, ?_⟩) ?_ ?_
  rotate_left
  ·
   intro w'
   go_simp
   with_reducible rfl
  rotate_left
  ·
   exact Goto.ap
  refine take_ (i := 2) (N := some 7) (v := ?_) (a' := ?_) (Goto.bs 9 119) rfl rfl (take_ofW HT_.out HW_.out (by kernel_rfl)) (fun _ _ _ h => h) (Or.inl ⟨by rfl, ?_⟩) hHeld ?_ ?_
  rotate_left
  ·
   rintro w' ⟨s0, s1, s2⟩
   go_simp
   with_reducible rfl
  rotate_left
  ·
   exact Goto.ap
  refine take_ (i := 7) (N := some 12) (v := ?_) (a' := ?_) (Goto.bs 9 247) rfl rfl (take_ofW HT_.out HW_.out (by kernel_rfl)) (fun _ _ _ h => h) (Or.inl ⟨by rfl, ?_⟩) hHeld ?_ ?_
  rotate_left
  ·
   rintro w' ⟨s0, s1, s2⟩
   go_simp
   with_reducible rfl
  rotate_left
  ·
   exact Goto.ap
  refine one_ (i := 3) (N := some 8) (Goto.bs 9 255) rfl rfl (one_of HT_.out (by kernel_rfl)) (by decide) (fun K hK => ?_)
  refine goes_ Try.func45 (by kernel_rfl) rfl #[.pointer (some ⟨g, 0, none⟩), .int .i64 a1_0] (by rfl) rfl rfl (by (try simp only [List.map_toArray, List.map_cons, List.map_nil]); first | done | rfl | (simp only [List.length_drop, List.length_take]; rfl)) ?_
  with_reducible refine (mail_Box_Waits.calls k g (fun k_ => some k_ = (u9000_ : Value).ownBlock) u9000_ l0_0 a0_1 a1_0 t104 t105 w0 _ ?side1 ?side2 ?side3 ?side4 A3.out).mono ?_
  (case side1 => exact by (with_reducible repeat first | refine blk_drewN ?_ _ | refine blk_drew ?_ | refine blk_alloc ?_ _); exact BK0.out)
  (case side2 => exact GE0.out)
  (case side3 => repeat (first | (with_reducible first | exact HB.out | apply below_alloc | apply pw_below_drewN | apply below_drew1 | refine below_set ?_ GE0.out | refine below_set ?_ GE103.out) | exact HB.out))
  (case side4 => exact Kd.R_tight rfl HO0_0.out)
  rintro e w7 ⟨rfl, hi, hy0, hb, hkp⟩
  refine ⟨_, rfl, ?_⟩
  replace BK0 := Goto.m0 (hi); replace BK103 := Goto.m0 (blk_kept (Goto.bx BK103) hkp (fun hs_ => Or.elim hs_ (fun hs_ => (fun e_ => (Kd.R_away HO0_0.out (fun _ hk => hk.2)) e_) hs_) (fun e_ => NB103_0.out e_))); replace HK := Goto.m0 (Kept.then_ (S := (fun k_ => (P0_0_ k_) ∨ k_ = g)) (by repeat (first | (with_reducible first | exact HK.out | apply Kept.alloc | apply Kept.drewN | apply Kept.drew | refine Kept.setCell ?_ (.inl (.inr rfl)) _ | refine Kept.setCell ?_ (.inr GW103.out) _) | exact HK.out)) hkp (fun k_ hs_ => Or.elim hs_ (fun hs_ => (fun e_ => Or.imp_left Or.inl ((HO0_0.out.1 k_ e_.symm).1)) hs_) (fun e_ => .inl (.inr e_)))); replace HO0_0 := Goto.m0 (Kd.R_reok rfl hy0 (fun k_ e_ => HO0_0.out.1 k_ e_)); replace HB := Goto.m0 (hb)
  (try clear hb)
  (try clear hkp)
  (try clear hy0)
  refine hK.out _ _ ⟨(blk_cell BK103.out 0).trans rfl, (blk_cell BK103.out 1).trans rfl, (blk_cell BK0.out 1).trans rfl⟩ (fun hHeld => ?_)
  clear hK K
  refine norm_ (a' := ?_) ?_ ?_
  rotate_left
  ·
   show Act.put _ (some 8) _ = _
   exact Goto.ap
  refine pure_ (i := 8) (N := some 13) (v := ?_) (a' := ?_) (Goto.bs 9 511) rfl rfl (any_of HT_.out (by kernel_rfl)) (fun _ _ _ h => h) (Or.inl ⟨by rfl, ?_⟩) ?_ ?_
  rotate_left
  ·
   intro w'
   go_simp
   with_reducible rfl
  rotate_left
  ·
   exact Goto.ap
  refine done_ (done_of HT_.out (by kernel_rfl)) ?_
  try go_wp2
  go_ret
  (try simp only [← exists_and_left])
  exact ⟨_, by first | rfl | (simp [errW_none, errW_some] <;> rfl) | (simp [*, errW_none, errW_some] <;> rfl), by (with_reducible repeat (first | apply Kd.R_alloc | apply Kd.R_drewN | apply Kd.R_drew)); exact Kd.R_mono HO0_0.out (fun _ hk => hk.1), by (with_reducible repeat first | refine blk_drewN ?_ _ | refine blk_drew ?_ | refine blk_alloc ?_ _); exact BK0.out, by repeat (first | (with_reducible first | exact HB.out | apply below_alloc | apply pw_below_drewN | apply below_drew1 | refine below_set ?_ GE0.out | refine below_set ?_ GE103.out) | exact HB.out), by repeat (first | (with_reducible first | exact HK.out | apply Kept.alloc | apply Kept.drewN | apply Kept.drew | refine Kept.setCell ?_ (.inl (.inr rfl)) _ | refine Kept.setCell ?_ (.inr GW103.out) _) | exact HK.out)⟩
 ·
  rw [if_neg c4] at H
  have c4b0 : decide (a0_1 ≤ t104) = false := decide_eq_false c4
  clear c4
  by_cases c8 : t105.length < 8796093022208
  ·
   rw [if_pos c8] at H
   have LMc8 := Goto.m0 c8
   clear c8
   obtain ⟨y106, hy106⟩ : ∃ y_ : List (S63), y_ = (t105 ++ [(⟨a1_0, a1_1⟩ : S63)]) := ⟨_, rfl⟩
   replace H : (some (true, y106)) = some (r1, r2) := by first | (rw [hy106]; with_reducible exact H) | (have H2_ := (Option.bind_some _ _).symm.trans H; rw [hy106]; with_reducible exact H2_) | (have H2_ := (Option.bind_some _ _).symm.trans H; with_reducible exact H2_) | with_reducible exact H | (rw [hy106]; exact H) | exact H
   have Ny106 := Goto.m0 hy106
   clear hy106
   simp only [Option.some.injEq, Prod.mk.injEq] at H
   obtain ⟨rfl, rfl⟩ := H
   go_enter Try.func40, Try.ntmps40
   try go_wp2_with (first | ((with_reducible refine gate_dst (N := 3) rfl ?_); refine box_event ?hg (N := 3) ?hd (cs := #[.int .i64 a1_0, .int .i64 a1_1]) (t := 63) ?hr ?_; (case hd => rfl); (case hg => rfl); (case hr => first | (go_simp; done) | (go_simp; rfl)); intro gb103 hg w9 hbox hb; have BK103 := Goto.m0 (hbox); have GW103 := Goto.m0 ((by rw [hg]; exact (by first | exact HK.out.1 | exact (show Kept w _ (fun k_ => (P0_0_ k_) ∨ k_ = g) from by repeat (first | (with_reducible first | exact HK.out | apply Kept.alloc | apply Kept.drewN | apply Kept.drew | refine Kept.setCell ?_ (.inl (.inr rfl)) _) | exact HK.out)).1) : w.heap.size ≤ gb103)); have GE103 := Goto.m0 ((by rw [hg]; exact (below_size (Goto.hx HB)) : w0.heap.size ≤ gb103)); have NB0_103 := Goto.nl BK0 hg; have NB103_0 := Goto.nr BK0 hg; replace HO0_0 := Goto.m0 (Kd.R_below (Kd.R_elderB (by (with_reducible repeat (first | apply Kd.R_alloc | apply Kd.R_drewN | apply Kd.R_drew)); exact HO0_0.out) gb103 (Nat.le_of_eq hg.symm)) hb); replace BK0 := Goto.bb BK0 hb; replace HK := Goto.m0 (Kept.below (S := (fun k_ => (P0_0_ k_) ∨ k_ = g)) (by repeat (first | (with_reducible first | exact HK.out | apply Kept.alloc | apply Kept.drewN | apply Kept.drew | refine Kept.setCell ?_ (.inl (.inr rfl)) _) | exact HK.out)) hb); replace HB := Goto.hs HB hb; clear hb hbox hg))
   replace HO0_0 := Goto.m0 (Kd.R_drew HO0_0.out); replace BK0 := Goto.m0 (blk_drew BK0.out); replace BK103 := Goto.m0 (blk_drew BK103.out); replace HK := Goto.m0 (Kept.drew HK.out); replace HB := Goto.m0 (below_drew1 HB.out)
   refine start_ (n := 9) (S := fun w' => w'.cell? ⟨gb103, 0, none⟩ = some (.int .i64 a1_0) ∧ w'.cell? ⟨gb103, 1, none⟩ = some (.int .i64 a1_1) ∧ w'.cell? ⟨g, 1, none⟩ = some (.int .i64 a0_1)) (ds := []) (.replicate 9 false) (by kernel_rfl) rfl rfl ⟨(blk_cell BK103.out 0).trans rfl, (blk_cell BK103.out 1).trans rfl, (blk_cell BK0.out 1).trans rfl⟩ (fun hHeld => ?_); refine with_tabW mail_Box_Put.tab1 mail_Box_Put.bits1 (fun HT_ HW_ => ?_)
   generalize w9.drew = w10 at HO0_0 BK0 BK103 HK HB hHeld ⊢
   refine pure_ (i := 0) (N := some 5) (v := ?_) (a' := ?_) (Goto.bs 9 1) rfl rfl (any_of HT_.out (by kernel_rfl)) (fun _ _ _ h => h) (Or.inl ⟨by rfl, ?_⟩) ?_ ?_
   rotate_left
   ·
    intro w'
    go_simp
    with_reducible rfl
   rotate_left
   ·
    exact Goto.ap
   refine pure_ (i := 1) (N := some 6) (v := ?_) (a' := ?_) (Goto.bs 9 3) rfl rfl (any_of HT_.out (by kernel_rfl)) (fun _ _ _ h => h) (Or.inl ⟨by rfl, ?_⟩) ?_ ?_
   rotate_left
   ·
    intro w'
    go_simp
    with_reducible rfl
   rotate_left
   ·
    exact Goto.ap
   refine pure_ (i := 4) (N := some 9) (v := ?_) (a' := ?_) (Goto.bs 9 19) rfl rfl (any_of HT_.out (by kernel_rfl)) (fun _ _ _ h => h) (Or.inl ⟨by rfl, ?_⟩) ?_ ?_
   rotate_left
   ·
    intro w'
    go_simp
    with_reducible rfl
   rotate_left
   ·
    exact Goto.ap
   refine pure_ (i := 5) (N := some 10) (v := ?_) (a' := ?_) (Goto.bs 9 51) rfl rfl (any_of HT_.out (by kernel_rfl)) (fun _ _ _ h => h) (Or.inl ⟨by rfl, ?_⟩) ?_ ?_
   rotate_left
   ·
    intro w'
    go_simp
    with_reducible rfl
   rotate_left
   ·
    exact Goto.ap
   refine pure_ (i := 6) (N := some 11) (v := ?_) (a' := ?_) (Goto.bs 9 115) rfl rfl (any_of HT_.out (by kernel_rfl)) (fun _ _ _ h => h) (Or.inl ⟨by rfl, ?_⟩) ?_ ?_
   rotate_left
   ·
    intro w'
    go_simp
    with_reducible rfl
   rotate_left
   ·
    exact Goto.ap
   refine take_ (i := 2) (N := some 7) (v := ?_) (a' := ?_) (Goto.bs 9 119) rfl rfl (take_ofW HT_.out HW_.out (by kernel_rfl)) (fun _ _ _ h => h) (Or.inl ⟨by rfl, ?_⟩) hHeld ?_ ?_
   rotate_left
   ·
    rintro w' ⟨s0, s1, s2⟩
    go_simp
    with_reducible rfl
   rotate_left
   ·
    exact Goto.ap
   refine take_ (i := 7) (N := some 12) (v := ?_) (a' := ?_) (Goto.bs 9 247) rfl rfl (take_ofW HT_.out HW_.out (by kernel_rfl)) (fun _ _ _ h => h) (Or.inl ⟨by rfl, ?_⟩) hHeld ?_ ?_
   rotate_left
   ·
    rintro w' ⟨s0, s1, s2⟩
    go_simp
    with_reducible rfl
   rotate_left
   ·
    exact Goto.ap
   refine one_ (i := 3) (N := some 8) (Goto.bs 9 255) rfl rfl (one_of HT_.out (by kernel_rfl)) (by decide) (fun K hK => ?_)
   refine goes_ Try.func45 (by kernel_rfl) rfl #[.pointer (some ⟨g, 0, none⟩), .int .i64 a1_0] (by rfl) rfl rfl (by (try simp only [List.map_toArray, List.map_cons, List.map_nil]); first | done | rfl | (simp only [List.length_drop, List.length_take]; rfl)) ?_
   with_reducible refine (mail_Box_Waits.calls k g (fun k_ => some k_ = (u9000_ : Value).ownBlock) u9000_ l0_0 a0_1 a1_0 t104 t105 w0 _ ?side1 ?side2 ?side3 ?side4 A3.out).mono ?_
   (case side1 => exact by (with_reducible repeat first | refine blk_drewN ?_ _ | refine blk_drew ?_ | refine blk_alloc ?_ _); exact BK0.out)
   (case side2 => exact GE0.out)
   (case side3 => repeat (first | (with_reducible first | exact HB.out | apply below_alloc | apply pw_below_drewN | apply below_drew1 | refine below_set ?_ GE0.out | refine below_set ?_ GE103.out) | exact HB.out))
   (case side4 => exact Kd.R_tight rfl HO0_0.out)
   rintro e w11 ⟨rfl, hi, hy0, hb, hkp⟩
   refine ⟨_, rfl, ?_⟩
   replace BK0 := Goto.m0 (hi); replace BK103 := Goto.m0 (blk_kept (Goto.bx BK103) hkp (fun hs_ => Or.elim hs_ (fun hs_ => (fun e_ => (Kd.R_away HO0_0.out (fun _ hk => hk.2)) e_) hs_) (fun e_ => NB103_0.out e_))); replace HK := Goto.m0 (Kept.then_ (S := (fun k_ => (P0_0_ k_) ∨ k_ = g)) (by repeat (first | (with_reducible first | exact HK.out | apply Kept.alloc | apply Kept.drewN | apply Kept.drew | refine Kept.setCell ?_ (.inl (.inr rfl)) _ | refine Kept.setCell ?_ (.inr GW103.out) _) | exact HK.out)) hkp (fun k_ hs_ => Or.elim hs_ (fun hs_ => (fun e_ => Or.imp_left Or.inl ((HO0_0.out.1 k_ e_.symm).1)) hs_) (fun e_ => .inl (.inr e_)))); replace HO0_0 := Goto.m0 (Kd.R_reok rfl hy0 (fun k_ e_ => HO0_0.out.1 k_ e_)); replace HB := Goto.m0 (hb)
   (try clear hb)
   (try clear hkp)
   (try clear hy0)
   refine hK.out _ _ ⟨(blk_cell BK103.out 0).trans rfl, (blk_cell BK103.out 1).trans rfl, (blk_cell BK0.out 1).trans rfl⟩ (fun hHeld => ?_)
   clear hK K
   refine norm_ (a' := ?_) ?_ ?_
   rotate_left
   ·
    show Act.put _ (some 8) _ = _
    exact Goto.ap
   refine pure_ (i := 8) (N := some 13) (v := ?_) (a' := ?_) (Goto.bs 9 511) rfl rfl (any_of HT_.out (by kernel_rfl)) (fun _ _ _ h => h) (Or.inl ⟨by rfl, ?_⟩) ?_ ?_
   rotate_left
   ·
    intro w'
    go_simp
    with_reducible rfl
   rotate_left
   ·
    exact Goto.ap
   refine done_ (done_of HT_.out (by kernel_rfl)) ?_
   try go_wp2
   replace HO0_0 := Goto.m0 (Kd.R_drew HO0_0.out); replace BK0 := Goto.m0 (blk_drew BK0.out); replace BK103 := Goto.m0 (blk_drew BK103.out); replace HK := Goto.m0 (Kept.drew HK.out); replace HB := Goto.m0 (below_drew1 HB.out)
   refine start_ (n := 11) (S := fun w' => w'.cell? ⟨g, 0, none⟩ = some (u9000_) ∧ w'.cell? ⟨g, 1, none⟩ = some (.int .i64 a0_1) ∧ w'.cell? ⟨gb103, 0, none⟩ = some (.int .i64 a1_0) ∧ w'.cell? ⟨gb103, 1, none⟩ = some (.int .i64 a1_1)) (ds := [10]) (.replicate 11 false) (by kernel_rfl) rfl rfl ⟨(blk_cell BK0.out 0).trans rfl, (blk_cell BK0.out 1).trans rfl, (blk_cell BK103.out 0).trans rfl, (blk_cell BK103.out 1).trans rfl⟩ (fun hHeld => ?_); refine with_tabW mail_Box_Put.tab3 mail_Box_Put.bits3 (fun HT_ HW_ => ?_)
   generalize w11.drew = w12 at HO0_0 BK0 BK103 HK HB hHeld ⊢
   refine pure_ (i := 0) (N := some 14) (v := ?_) (a' := ?_) (Goto.bs 11 1) rfl rfl (any_of HT_.out (by kernel_rfl)) (fun _ _ _ h => h) (Or.inl ⟨by rfl, ?_⟩) ?_ ?_
   rotate_left
   ·
    intro w'
    go_simp
    with_reducible rfl
   rotate_left
   ·
    exact Goto.ap
   refine pure_ (i := 1) (N := some 15) (v := ?_) (a' := ?_) (Goto.bs 11 3) rfl rfl (any_of HT_.out (by kernel_rfl)) (fun _ _ _ h => h) (Or.inl ⟨by rfl, ?_⟩) ?_ ?_
   rotate_left
   ·
    intro w'
    go_simp
    with_reducible rfl
   rotate_left
   ·
    exact Goto.ap
   refine pure_ (i := 2) (N := some 16) (v := ?_) (a' := ?_) (Goto.bs 11 7) rfl rfl (any_of HT_.out (by kernel_rfl)) (fun _ _ _ h => h) (Or.inl ⟨by rfl, ?_⟩) ?_ ?_
   rotate_left
   ·
    intro w'
    go_simp
    with_reducible rfl
   rotate_left
   ·
    exact Goto.ap
   refine pure_ (i := 3) (N := some 17) (v := ?_) (a' := ?_) (Goto.bs 11 15) rfl rfl (any_of HT_.out (by kernel_rfl)) (fun _ _ _ h => h) (Or.inl ⟨by rfl, ?_⟩) ?_ ?_
   rotate_left
   ·
    intro w'
    go_simp
    with_reducible rfl
   rotate_left
   ·
    exact Goto.ap
   refine take_ (i := 4) (N := some 18) (v := ?_) (a' := ?_) (Goto.bs 11 31) rfl rfl (take_ofW HT_.out HW_.out (by kernel_rfl)) (fun _ _ _ h => h) (Or.inl ⟨by rfl, ?_⟩) hHeld ?_ ?_
   rotate_left
   ·
    rintro w' ⟨s0, s1, s2, s3⟩
    go_simp
    with_reducible rfl
   rotate_left
   ·
    exact Goto.ap
   refine take_ (i := 5) (N := some 19) (v := ?_) (a' := ?_) (Goto.bs 11 63) rfl rfl (take_ofW HT_.out HW_.out (by kernel_rfl)) (fun _ _ _ h => h) (Or.inl ⟨by rfl, ?_⟩) hHeld ?_ ?_
   rotate_left
   ·
    rintro w' ⟨s0, s1, s2, s3⟩
    go_simp
    with_reducible rfl
   rotate_left
   ·
    exact Goto.ap
   refine one_ (i := 6) (N := some 20) (Goto.bs 11 127) rfl rfl (one_of HT_.out (by kernel_rfl)) (by decide) (fun K hK => ?_)
   refine value_ (w1 := ?_) (v := ?_) (by rfl) rfl ?_ ?_
   rotate_left 2
   ·
    go_simp
    constructor
    ·
     rfl
    ·
     rfl
   refine hK.out _ _ ⟨(blk_cell (blk_alloc BK0.out _) 0).trans rfl, (blk_cell (blk_alloc BK0.out _) 1).trans rfl, (blk_cell (blk_alloc BK103.out _) 0).trans rfl, (blk_cell (blk_alloc BK103.out _) 1).trans rfl⟩ (fun hHeld => ?_)
   clear hK K
   refine norm_ (a' := ?_) ?_ ?_
   rotate_left
   ·
    show Act.put _ (some 20) _ = _
    exact Goto.ap
   refine one_ (i := 7) (N := some 21) (Goto.bs 11 255) rfl rfl (one_of HT_.out (by kernel_rfl)) (by decide) (fun K hK => ?_)
   refine Kd.R_append_step k63 (w0 := w0) w0.heap.size (by rfl) (.tmp 18) (.tmp 20) 67 63 (.agg #[(.int .i64 0), (.int .i64 0)]) 16 rfl Try.underlying67 info63 rfl (by decide) (by omega) u9000_ t105 (⟨a1_0, a1_1⟩ : S63) [.int .i64 a1_0, .int .i64 a1_1] (fun k_ => (P0_0_ k_ ∨ w.heap.size ≤ k_) ∧ k_ ≠ gb103) (fun _ => False) rfl rfl ?aP (fun _ hk => hk.elim) ?aF ?aO ?aB ?aS ?aL ?_
   (case aP => exact k63_mkM _ _ _ (⟨a1_0, a1_1⟩ : S63))
   (case aB => exact (Goto.hx HB))
   (case aF => exact (fun k_ hk => ⟨(.inr (Nat.le_trans (by first | exact HK.out.1 | exact (show Kept w _ (fun k_ => (P0_0_ k_) ∨ k_ = g) from by repeat (first | (with_reducible first | exact HK.out | apply Kept.alloc | apply Kept.drewN | apply Kept.drew | refine Kept.setCell ?_ (.inl (.inr rfl)) _ | refine Kept.setCell ?_ (.inr GW103.out) _) | exact HK.out)).1) hk)), Kd.freshB (g := gb103) (o := .cells #[.int .i64 a1_0, .int .i64 a1_1] 63 (0, 0)) (Goto.bx BK103) k_ hk⟩))
   (case aO => exact (by (with_reducible repeat (first | apply Kd.R_alloc | apply Kd.R_drewN | apply Kd.R_drew)); exact HO0_0.out))
   (case aS => exact (below_size (Goto.hx HB)))
   (case aL => have := LMc8.out; omega)
   intro v107 w13 ho hb hg hat
   rw [← Ny106.out] at ho
   have n0_ := Goto.m0 (blk_grown (g := g) (o := .cells #[u9000_, .int .i64 a0_1] 83 (0, 0)) (Goto.bx BK0) hg (Kd.R_ne HO0_0.out BK0.out (by decide)))
   have n1_ := Goto.m0 (blk_grown (g := gb103) (o := .cells #[.int .i64 a1_0, .int .i64 a1_1] 63 (0, 0)) (Goto.bx BK103) hg (Kd.R_away HO0_0.out (fun _ hk => hk.2)))
   have n2_ := Goto.m0 (hb)
   have n3_ := Goto.m0 (Kept.of_grown (S := (fun k_ => (P0_0_ k_) ∨ k_ = g)) hg (by repeat (first | (with_reducible first | exact HK.out | apply Kept.alloc | apply Kept.drewN | apply Kept.drew | refine Kept.setCell ?_ (.inl (.inr rfl)) _ | refine Kept.setCell ?_ (.inr GW103.out) _) | exact HK.out)) (fun k_ e_ => Or.imp_left Or.inl ((HO0_0.out.1 k_ e_).1)))
   have n4_ := Goto.m0 (ho)
   clear BK0; clear BK103; clear HB; clear HK; clear HO0_0; have BK0 := n0_; have BK103 := n1_; have HB := n2_; have HK := n3_; have HO108 := n4_; clear n0_ n1_ n2_ n3_ n4_; clear ho hb hg hat
   obtain ⟨Ao14, co14, eo14⟩ := Kd.R_slice HO108.out
   (first | subst eo14 | (injection eo14 with f1_ f2_ f3_; have f4_ := f1_.symm; have f5_ := f3_.symm; clear f1_ f2_ f3_; subst f4_; subst f5_))
   refine hK.out _ _ ⟨(blk_cell BK0.out 0).trans rfl, (blk_cell BK0.out 1).trans rfl, (blk_cell BK103.out 0).trans rfl, (blk_cell BK103.out 1).trans rfl⟩ (fun hHeld => ?_)
   clear hK K
   refine norm_ (a' := ?_) ?_ ?_
   rotate_left
   ·
    show Act.put _ (some 21) _ = _
    exact Goto.ap
   refine pure_ (i := 8) (N := some 22) (v := ?_) (a' := ?_) (Goto.bs 11 511) rfl rfl (any_of HT_.out (by kernel_rfl)) (fun _ _ _ h => h) (Or.inl ⟨by rfl, ?_⟩) ?_ ?_
   rotate_left
   ·
    intro w'
    go_simp
    with_reducible rfl
   rotate_left
   ·
    exact Goto.ap
   refine pure_ (i := 9) (N := some 23) (v := ?_) (a' := ?_) (Goto.bs 11 1023) rfl rfl (any_of HT_.out (by kernel_rfl)) (fun _ _ _ h => h) (Or.inl ⟨by rfl, ?_⟩) ?_ ?_
   rotate_left
   ·
    intro w'
    go_simp
    with_reducible rfl
   rotate_left
   ·
    exact Goto.ap
   refine last_ (i := 10) (N := none) (Goto.bs 11 2047) rfl rfl (one_of HT_.out (by kernel_rfl)) (by decide) (fun K hK => ?_)
   have hs15 : w13.cell? ⟨g, 0, none⟩ = some (u9000_) := (blk_cell BK0.out 0).trans rfl; have hfs15 := blk_frozen BK0.out 0; have hns15_1 := NB103_0.out; have hms15_1 := NB0_103.out
   refine skip_ (w1 := ?_) (by rfl) rfl ?_ ?_
   rotate_left
   ·
    go_simp
    rfl
   refine hK.out _ _ ?_
   clear hK K
   refine done_ (done_of HT_.out (by kernel_rfl)) ?_
   try go_wp2
   go_ret
   (try simp only [← exists_and_left])
   exact ⟨_, by first | rfl | (simp [errW_none, errW_some] <;> rfl) | (simp [*, errW_none, errW_some] <;> rfl), by (with_reducible repeat (first | apply Kd.R_alloc | apply Kd.R_drewN | apply Kd.R_drew)); exact Kd.R_mono (Kd.R_far (p := ⟨g, 0, none⟩) (Kd.R_types HO108.out BK0.out (by decide)) (fun _ hk => hk.2) (.slice Ao14 y106.length co14)) (fun _ hk => hk.1.1), by (with_reducible repeat first | refine blk_drewN ?_ _ | refine blk_drew ?_ | refine blk_alloc ?_ _); refine blk_put (cs := #[u9000_, .int .i64 a0_1]) ?_ 0 _ rfl; (with_reducible repeat first | refine blk_drewN ?_ _ | refine blk_drew ?_ | refine blk_alloc ?_ _); exact BK0.out, by repeat (first | (with_reducible first | exact HB.out | apply below_alloc | apply pw_below_drewN | apply below_drew1 | refine below_set ?_ GE0.out | refine below_set ?_ GE103.out) | exact HB.out), by repeat (first | (with_reducible first | exact HK.out | apply Kept.alloc | apply Kept.drewN | apply Kept.drew | refine Kept.setCell ?_ (.inl (.inr rfl)) _ | refine Kept.setCell ?_ (.inr GW103.out) _) | exact HK.out)⟩
  ·
   rw [if_neg c8] at H
   exact absurd H (by simp)

end Go.Proofs.Ytpbcamdjcnokfaa.P
