/- Printed by a program of this workplace (a turned copy of the kit's optional print), out of the translation; not trusted: Lean checks it. -/
import Derived.Test.YtpbcamdjcnokfaaPx0
import Derived.Test.YtpbcamdjcnokfaaPx5
namespace Go.Proofs.Ytpbcamdjcnokfaa.P
open Go.RowKit Go.Proofs.YtpbcamdjcnokfaaW.PrintWords Go.Proofs.YtpbcamdjcnokfaaW.PrintLast Go.Proofs.YtpbcamdjcnokfaaW.PrintMore
attribute [local go_sem] max2_int min2_int max_two min_two max_three min_three max_four min_four   -- for this text's walks alone
set_option linter.unusedVariables false
set_option linter.unusedSimpArgs false

/-! ### tontineref15_Box_Put: function 41 -/
def tontineref15_Box_Put.f (k : Nat) (a0_0 : Int) (l0_1 : List (S63)) (a1_0 : Int) (a1_1 : Int) : Option (Bool × (List (S63))) := (tontineref15_Box_Waits.f k a0_0 l0_1 a1_0).bind fun bt164 => (if bt164.1 ≥ a0_0 then (some (false, bt164.2)) else (if ([] : List (S63)).length + bt164.2.length < 8796093022208 then ((some (([] : List (S63)) ++ bt164.2 : List (S63))).bind fun y166 => ((some (([(⟨a1_0, a1_1⟩ : S63)] : List (S63)) : List (S63))).bind fun y169 => (if y166.length + y169.length < 8796093022208 then (some (true, (y166 ++ y169))) else (none)))) else (none)))
theorem tontineref15_Box_Put.mono : ∀ a0 a1 a2 a3 k, LeO (tontineref15_Box_Put.f k a0 a1 a2 a3) (tontineref15_Box_Put.f (k + 1) a0 a1 a2 a3) := by
 intro a0 a1 a2 a3 k
 unfold tontineref15_Box_Put.f
 repeat' first
   | (with_reducible exact tontineref15_Box_Waits.mono _ _ _ _)
   | (with_reducible exact LeO.refl _)
   | (with_reducible exact LeO.none _)
   | (with_reducible refine LeO.ite ?_ ?_)
   | (with_reducible refine LeO.bind ?_ (fun _ => ?_))
   | exact tontineref15_Box_Waits.mono _ _ _ _
   | exact LeO.none _
   | refine LeO.ite ?_ ?_
   | refine LeO.bind ?_ (fun _ => ?_)
def tontineref15_Box_Put.T1 : Bool × List (List Nat × List Nat) := (true, [([], []), ([], []), ([1], [1]), ([0, 2], [0, 2]), ([], []), ([4], [4]), ([5], [5]), ([6], [6]), ([3, 7], [3, 7])])
def tontineref15_Box_Put.B1 : List Nat := [0, 0, 2, 7, 0, 16, 48, 112, 255]
theorem tontineref15_Box_Put.tab1 : rtab .any (opsOf Try.f41 1) = tontineref15_Box_Put.T1 := by kernel_rfl
theorem tontineref15_Box_Put.bits1 : waitsOk tontineref15_Box_Put.T1.2 tontineref15_Box_Put.B1 = true := by kernel_rfl
def tontineref15_Box_Put.T3 : Bool × List (List Nat × List Nat) := (true, [([], []), ([], []), ([1], [1]), ([2], [2]), ([3], [3]), ([4], [4]), ([], []), ([6], [6]), ([5, 7, 5], [5, 7]), ([0, 0, 1, 2, 3, 4, 5, 6, 7, 8], [0]), ([9, 0, 1, 2, 3, 4, 5, 6, 7, 8], [9]), ([10, 8, 8, 0, 1, 2, 3, 4, 5, 6, 7, 8], [8, 10])])
def tontineref15_Box_Put.B3 : List Nat := [0, 0, 2, 6, 14, 30, 0, 64, 254, 511, 1023, 2047]
theorem tontineref15_Box_Put.tab3 : rtab .any (opsOf Try.f41 3) = tontineref15_Box_Put.T3 := by kernel_rfl
theorem tontineref15_Box_Put.bits3 : waitsOk tontineref15_Box_Put.T3.2 tontineref15_Box_Put.B3 = true := by kernel_rfl
set_option maxHeartbeats 8000000 in
set_option maxRecDepth 100000 in
theorem tontineref15_Box_Put.calls (k : Nat) (g : Nat) (a0_0 : Int) (P0_1_ : Nat → Prop) (u9000_ : Value) (l0_1 : List (S63)) (a1_0 : Int) (a1_1 : Int) (r1 : Bool) (r2 : List (S63)) (w0 w : World) (hI : w.heap[g]? = some (.cells #[.int .i64 a0_0, u9000_] 69 (0, 0))) (hG : w0.heap.size ≤ g) (hB : Below w0.heap.size w0 w) (ho0_1 : Kd.Q k63 63 w w0.heap.size P0_1_ u9000_ l0_1) (h : tontineref15_Box_Put.f k a0_0 l0_1 a1_0 a1_1 = some (r1, r2)) :
    Calls Try.prog 41 #[.pointer (some ⟨g, 0, none⟩), .agg #[.int .i64 a1_0, .int .i64 a1_1]] w fun e w' => ∃ v1_ : Value, e = .returned (.bool r1) ∧ Kd.Q k63 63 w' w0.heap.size (fun k_ => (P0_1_ k_ ∨ w.heap.size ≤ k_)) v1_ r2 ∧ w'.heap[g]? = some (.cells #[.int .i64 a0_0, v1_] 69 (0, 0)) ∧ Below w0.heap.size w0 w' ∧ Kept w w' (fun k_ => (P0_1_ k_) ∨ k_ = g) := by
 have hu63 := Try.underlying63
 have HO0_1 := Goto.m0 (show Kd.Q k63 63 w w0.heap.size (fun k_ => (P0_1_ k_ ∨ w.heap.size ≤ k_)) u9000_ l0_1 from Kd.Q_mono ho0_1 (fun k_ hk => (.inl hk)))
 have BK0 := Goto.m0 hI
 have GE0 := Goto.m0 hG
 clear hI hG
 have HK := Goto.m0 (Kept.refl w (fun k_ => (P0_1_ k_) ∨ k_ = g))
 have HW0 := Goto.m0 hB.size
 have HB := Goto.m0 hB
 clear hB
 have H : ((tontineref15_Box_Waits.f k a0_0 l0_1 a1_0).bind fun bt164 => (if bt164.1 ≥ a0_0 then (some (false, bt164.2)) else (if ([] : List (S63)).length + bt164.2.length < 8796093022208 then ((some (([] : List (S63)) ++ bt164.2 : List (S63))).bind fun y166 => ((some (([(⟨a1_0, a1_1⟩ : S63)] : List (S63)) : List (S63))).bind fun y169 => (if y166.length + y169.length < 8796093022208 then (some (true, (y166 ++ y169))) else (none)))) else (none)))) = some (r1, r2) := h
 clear h
 replace H := Option.bind_eq_some_iff.mp H
 obtain ⟨⟨t164, t165⟩, A30, H⟩ := H
 replace H : (if t164 ≥ a0_0 then (some (false, t165)) else (if ([] : List (S63)).length + t165.length < 8796093022208 then ((some (([] : List (S63)) ++ t165 : List (S63))).bind fun y166 => ((some (([(⟨a1_0, a1_1⟩ : S63)] : List (S63)) : List (S63))).bind fun y169 => (if y166.length + y169.length < 8796093022208 then (some (true, (y166 ++ y169))) else (none)))) else (none))) = some (r1, r2) := H
 have A3 := Goto.m0 A30
 clear A30
 by_cases c4 : t164 ≥ a0_0
 ·
  rw [if_pos c4] at H
  have c4b0 : decide (a0_0 ≤ t164) = true := decide_eq_true c4
  clear c4
  simp only [Option.some.injEq, Prod.mk.injEq] at H
  obtain ⟨rfl, rfl⟩ := H
  go_enter Try.func41, Try.ntmps41
  try go_wp2_with (first | ((with_reducible refine gate_dst (N := 3) rfl ?_); refine box_event ?hg (N := 3) ?hd (cs := #[.int .i64 a1_0, .int .i64 a1_1]) (t := 63) ?hr ?_; (case hd => rfl); (case hg => rfl); (case hr => first | (go_simp; done) | (go_simp; rfl)); intro gb163 hg w5 hbox hb; have BK163 := Goto.m0 (hbox); have GW163 := Goto.m0 ((by rw [hg]; exact (by first | exact HK.out.1 | exact (show Kept w _ (fun k_ => (P0_1_ k_) ∨ k_ = g) from by repeat (first | (with_reducible first | exact HK.out | apply Kept.alloc | apply Kept.drewN | apply Kept.drew | refine Kept.setCell ?_ (.inl (.inr rfl)) _) | exact HK.out)).1) : w.heap.size ≤ gb163)); have GE163 := Goto.m0 ((by rw [hg]; exact (below_size (Goto.hx HB)) : w0.heap.size ≤ gb163)); have NB0_163 := Goto.nl BK0 hg; have NB163_0 := Goto.nr BK0 hg; replace HO0_1 := Goto.m0 (Kd.Q_below (Kd.Q_elderB (by (with_reducible repeat (first | apply Kd.Q_alloc | apply Kd.Q_drewN | apply Kd.Q_drew)); exact HO0_1.out) gb163 (Nat.le_of_eq hg.symm)) hb); replace BK0 := Goto.bb BK0 hb; replace HK := Goto.m0 (Kept.below (S := (fun k_ => (P0_1_ k_) ∨ k_ = g)) (by repeat (first | (with_reducible first | exact HK.out | apply Kept.alloc | apply Kept.drewN | apply Kept.drew | refine Kept.setCell ?_ (.inl (.inr rfl)) _) | exact HK.out)) hb); replace HB := Goto.hs HB hb; clear hb hbox hg))
  replace HO0_1 := Goto.m0 (Kd.Q_drew HO0_1.out); replace BK0 := Goto.m0 (blk_drew BK0.out); replace BK163 := Goto.m0 (blk_drew BK163.out); replace HK := Goto.m0 (Kept.drew HK.out); replace HB := Goto.m0 (below_drew1 HB.out)
  refine start_ (n := 9) (S := fun w' => w'.cell? ⟨gb163, 0, none⟩ = some (.int .i64 a1_0) ∧ w'.cell? ⟨gb163, 1, none⟩ = some (.int .i64 a1_1) ∧ w'.cell? ⟨g, 0, none⟩ = some (.int .i64 a0_0)) (ds := []) (.replicate 9 false) (by kernel_rfl) rfl rfl ⟨(blk_cell BK163.out 0).trans rfl, (blk_cell BK163.out 1).trans rfl, (blk_cell BK0.out 0).trans rfl⟩ (fun hHeld => ?_); refine with_tabW tontineref15_Box_Put.tab1 tontineref15_Box_Put.bits1 (fun HT_ HW_ => ?_)
  generalize w5.drew = w6 at HO0_1 BK0 BK163 HK HB hHeld ⊢
  refine pure_ (i := 0) (N := some 5) (v := ?_) (a' := ?_) (Goto.bs 9 1) rfl rfl (any_of HT_.out (by kernel_rfl)) (fun _ _ _ h => h) (Or.inl ⟨by rfl, ?_⟩) ?_ ?_
  rotate_left
  ·
   intro w'
   go_simp
   with_reducible rfl
  rotate_left
  ·
   exact Goto.ap
  refine pure_ (i := 1) (N := some 6) (v := ?_) (a' := ?_) (Goto.bs 9 3) rfl rfl (any_of HT_.out (by kernel_rfl)) (fun _ _ _ h => h) (Or.inl ⟨by rfl, ?_⟩) ?_ ?_
  rotate_left
  ·
   intro w'
   go_simp
   with_reducible rfl
  rotate_left
  ·
   exact Goto.ap
  refine pure_ (i := 4) (N := some 9) (v := ?_) (a' := ?_) (Goto.bs 9 19) rfl rfl (any_of HT_.out (by kernel_rfl)) (fun _ _ _ h => h) (Or.inl ⟨by rfl, ?_⟩) ?_ ?_
  rotate_left
  ·
   intro w'
   go_simp
   with_reducible rfl
  rotate_left
  ·
   exact Goto.ap
  refine pure_ (i := 5) (N := some 10) (v := ?_) (a' := ?_) (Goto.bs 9 51) rfl rfl (any_of HT_.out (by kernel_rfl)) (fun _ _ _ h => h) (Or.inl ⟨by rfl, ?_⟩) ?_ ?_
  rotate_left
  ·
   intro w'
   go_simp
   with_reducible rfl
  rotate_left
  ·
   exact Goto.ap
  refine pure_ (i := 6) (N := some 11) (v := ?_) (a' := ?_) (Goto.bs 9 115) rfl rfl (any_of HT_.out (by kernel_rfl)) (fun _ _ _ h => h) (Or.inl ⟨by rfl, ?_⟩) ?_ ?_
  rotate_left
  ·
   intro w'
   go_simp
   with_reducible rfl
  rotate_left
  ·
   exact Goto.ap
  refine take_ (i := 2) (N := some 7) (v := ?_) (a' := ?_) (Goto.bs 9 119) rfl rfl (take_ofW HT_.out HW_.out (by kernel_rfl)) (fun _ _ _ h => h) (Or.inl ⟨by rfl, ?_⟩) hHeld ?_ ?_
  rotate_left
  ·
   rintro w' ⟨s0, s1, s2⟩
   go_simp
   with_reducible rfl
  rotate_left
  ·
   exact Goto.ap
  refine take_ (i := 7) (N := some 12) (v := ?_) (a' := ?_) (Goto.bs 9 247) rfl rfl (take_ofW HT_.out HW_.out (by kernel_rfl)) (fun _ _ _ h => h) (Or.inl ⟨by rfl, ?_⟩) hHeld ?_ ?_
  rotate_left
  ·
   rintro w' ⟨s0, s1, s2⟩
   go_simp
   with_reducible rfl
  rotate_left
  ·
   exact Goto.ap
  refine one_ (i := 3) (N := some 8) (Goto.bs 9 255) rfl rfl (one_of HT_.out (by kernel_rfl)) (by decide) (fun K hK => ?_)
  refine goes_ Try.func46 (by kernel_rfl) rfl #[.pointer (some ⟨g, 0, none⟩), .int .i64 a1_0] (by rfl) rfl rfl (by (try simp only [List.map_toArray, List.map_cons, List.map_nil]); first | done | rfl | (simp only [List.length_drop, List.length_take]; rfl)) ?_
  with_reducible refine (tontineref15_Box_Waits.calls k g a0_0 (fun k_ => some k_ = (u9000_ : Value).ownBlock) u9000_ l0_1 a1_0 t164 t165 w0 _ ?side1 ?side2 ?side3 ?side4 A3.out).mono ?_
  (case side1 => exact by (with_reducible repeat first | refine blk_drewN ?_ _ | refine blk_drew ?_ | refine blk_alloc ?_ _); exact BK0.out)
  (case side2 => exact GE0.out)
  (case side3 => repeat (first | (with_reducible first | exact HB.out | apply below_alloc | apply pw_below_drewN | apply below_drew1 | refine below_set ?_ GE0.out | refine below_set ?_ GE163.out) | exact HB.out))
  (case side4 => exact Goto.Q_tight rfl (HO0_1.out))
  rintro e w7 ⟨rfl, hi, hy0, hb, hkp⟩
  refine ⟨_, rfl, ?_⟩
  replace BK0 := Goto.m0 (hi); replace BK163 := Goto.m0 (blk_kept (Goto.bx BK163) hkp (fun hs_ => Or.elim hs_ (fun hs_ => (fun e_ => (Kd.Q_away HO0_1.out (fun _ hk => hk.2)) e_) hs_) (fun e_ => NB163_0.out e_))); replace HK := Goto.m0 (Kept.then_ (S := (fun k_ => (P0_1_ k_) ∨ k_ = g)) (by repeat (first | (with_reducible first | exact HK.out | apply Kept.alloc | apply Kept.drewN | apply Kept.drew | refine Kept.setCell ?_ (.inl (.inr rfl)) _ | refine Kept.setCell ?_ (.inr GW163.out) _) | exact HK.out)) hkp (fun k_ hs_ => Or.elim hs_ (fun hs_ => (fun e_ => Or.imp_left Or.inl ((HO0_1.out.1 k_ e_.symm).1)) hs_) (fun e_ => .inl (.inr e_)))); replace HO0_1 := Goto.m0 (Kd.Q_mono (Goto.Q_tight rfl (hy0)) (fun k_ e_ => HO0_1.out.1 k_ e_.symm)); replace HB := Goto.m0 (hb)
  (try clear hb)
  (try clear hkp)
  (try clear hy0)
  refine hK.out _ _ ⟨(blk_cell BK163.out 0).trans rfl, (blk_cell BK163.out 1).trans rfl, (blk_cell BK0.out 0).trans rfl⟩ (fun hHeld => ?_)
  clear hK K
  refine norm_ (a' := ?_) ?_ ?_
  rotate_left
  ·
   show Act.put _ (some 8) _ = _
   exact Goto.ap
  refine pure_ (i := 8) (N := some 13) (v := ?_) (a' := ?_) (Goto.bs 9 511) rfl rfl (any_of HT_.out (by kernel_rfl)) (fun _ _ _ h => h) (Or.inl ⟨by rfl, ?_⟩) ?_ ?_
  rotate_left
  ·
   intro w'
   go_simp
   with_reducible rfl
  rotate_left
  ·
   exact Goto.ap
  refine done_ (done_of HT_.out (by kernel_rfl)) ?_
  try go_wp2
  go_ret
  (try simp only [← exists_and_left])
  exact ⟨_, by first | rfl | (simp [errW_none, errW_some] <;> rfl) | (simp [*, errW_none, errW_some] <;> rfl), by (with_reducible repeat (first | apply Kd.Q_alloc | apply Kd.Q_drewN | apply Kd.Q_drew)); exact Kd.Q_mono HO0_1.out (fun _ hk => hk.1), by (with_reducible repeat first | refine blk_drewN ?_ _ | refine blk_drew ?_ | refine blk_alloc ?_ _); exact BK0.out, by repeat (first | (with_reducible first | exact HB.out | apply below_alloc | apply pw_below_drewN | apply below_drew1 | refine below_set ?_ GE0.out | refine below_set ?_ GE163.out) | exact HB.out), by repeat (first | (with_reducible first | exact HK.out | apply Kept.alloc | apply Kept.drewN | apply Kept.drew | refine Kept.setCell ?_ (.inl (.inr rfl)) _ | refine Kept.setCell ?_ (.inr GW163.out) _) | exact HK.out)⟩
 ·
  rw [if_neg c4] at H
  have c4b0 : decide (a0_0 ≤ t164) = false := decide_eq_false c4
  clear c4
  by_cases c8 : ([] : List (S63)).length + t165.length < 8796093022208
  ·
   rw [if_pos c8] at H
   have LMc8 := Goto.m0 c8
   clear c8
   obtain ⟨y166, hy166⟩ : ∃ y_ : List (S63), y_ = (([] : List (S63)) ++ t165) := ⟨_, rfl⟩
   replace H : ((some (([(⟨a1_0, a1_1⟩ : S63)] : List (S63)) : List (S63))).bind fun y169 => (if y166.length + y169.length < 8796093022208 then (some (true, (y166 ++ y169))) else (none))) = some (r1, r2) := by first | (rw [hy166]; with_reducible exact H) | (have H2_ := (Option.bind_some _ _).symm.trans H; rw [hy166]; with_reducible exact H2_) | (have H2_ := (Option.bind_some _ _).symm.trans H; with_reducible exact H2_) | with_reducible exact H | (rw [hy166]; exact H) | exact H
   have Ny166 := Goto.m0 hy166
   clear hy166
   obtain ⟨y169, hy169⟩ : ∃ y_ : List (S63), y_ = (([(⟨a1_0, a1_1⟩ : S63)] : List (S63))) := ⟨_, rfl⟩
   replace H : (if y166.length + y169.length < 8796093022208 then (some (true, (y166 ++ y169))) else (none)) = some (r1, r2) := by first | (rw [hy169]; with_reducible exact H) | (have H2_ := (Option.bind_some _ _).symm.trans H; rw [hy169]; with_reducible exact H2_) | (have H2_ := (Option.bind_some _ _).symm.trans H; with_reducible exact H2_) | with_reducible exact H | (rw [hy169]; exact H) | exact H
   have Ny169 := Goto.m0 hy169
   clear hy169
   by_cases c9 : y166.length + y169.length < 8796093022208
   ·
    rw [if_pos c9] at H
    have LMc9 := Goto.m0 c9
    clear c9
    obtain ⟨y172, hy172⟩ : ∃ y_ : List (S63), y_ = (y166 ++ y169) := ⟨_, rfl⟩
    replace H : (some (true, y172)) = some (r1, r2) := by first | (rw [hy172]; with_reducible exact H) | (have H2_ := (Option.bind_some _ _).symm.trans H; rw [hy172]; with_reducible exact H2_) | (have H2_ := (Option.bind_some _ _).symm.trans H; with_reducible exact H2_) | with_reducible exact H | (rw [hy172]; exact H) | exact H
    have Ny172 := Goto.m0 hy172
    clear hy172
    simp only [Option.some.injEq, Prod.mk.injEq] at H
    obtain ⟨rfl, rfl⟩ := H
    go_enter Try.func41, Try.ntmps41
    try go_wp2_with (first | ((with_reducible refine gate_dst (N := 3) rfl ?_); refine box_event ?hg (N := 3) ?hd (cs := #[.int .i64 a1_0, .int .i64 a1_1]) (t := 63) ?hr ?_; (case hd => rfl); (case hg => rfl); (case hr => first | (go_simp; done) | (go_simp; rfl)); intro gb163 hg w10 hbox hb; have BK163 := Goto.m0 (hbox); have GW163 := Goto.m0 ((by rw [hg]; exact (by first | exact HK.out.1 | exact (show Kept w _ (fun k_ => (P0_1_ k_) ∨ k_ = g) from by repeat (first | (with_reducible first | exact HK.out | apply Kept.alloc | apply Kept.drewN | apply Kept.drew | refine Kept.setCell ?_ (.inl (.inr rfl)) _) | exact HK.out)).1) : w.heap.size ≤ gb163)); have GE163 := Goto.m0 ((by rw [hg]; exact (below_size (Goto.hx HB)) : w0.heap.size ≤ gb163)); have NB0_163 := Goto.nl BK0 hg; have NB163_0 := Goto.nr BK0 hg; replace HO0_1 := Goto.m0 (Kd.Q_below (Kd.Q_elderB (by (with_reducible repeat (first | apply Kd.Q_alloc | apply Kd.Q_drewN | apply Kd.Q_drew)); exact HO0_1.out) gb163 (Nat.le_of_eq hg.symm)) hb); replace BK0 := Goto.bb BK0 hb; replace HK := Goto.m0 (Kept.below (S := (fun k_ => (P0_1_ k_) ∨ k_ = g)) (by repeat (first | (with_reducible first | exact HK.out | apply Kept.alloc | apply Kept.drewN | apply Kept.drew | refine Kept.setCell ?_ (.inl (.inr rfl)) _) | exact HK.out)) hb); replace HB := Goto.hs HB hb; clear hb hbox hg))
    replace HO0_1 := Goto.m0 (Kd.Q_drew HO0_1.out); replace BK0 := Goto.m0 (blk_drew BK0.out); replace BK163 := Goto.m0 (blk_drew BK163.out); replace HK := Goto.m0 (Kept.drew HK.out); replace HB := Goto.m0 (below_drew1 HB.out)
    refine start_ (n := 9) (S := fun w' => w'.cell? ⟨gb163, 0, none⟩ = some (.int .i64 a1_0) ∧ w'.cell? ⟨gb163, 1, none⟩ = some (.int .i64 a1_1) ∧ w'.cell? ⟨g, 0, none⟩ = some (.int .i64 a0_0)) (ds := []) (.replicate 9 false) (by kernel_rfl) rfl rfl ⟨(blk_cell BK163.out 0).trans rfl, (blk_cell BK163.out 1).trans rfl, (blk_cell BK0.out 0).trans rfl⟩ (fun hHeld => ?_); refine with_tabW tontineref15_Box_Put.tab1 tontineref15_Box_Put.bits1 (fun HT_ HW_ => ?_)
    generalize w10.drew = w11 at HO0_1 BK0 BK163 HK HB hHeld ⊢
    refine pure_ (i := 0) (N := some 5) (v := ?_) (a' := ?_) (Goto.bs 9 1) rfl rfl (any_of HT_.out (by kernel_rfl)) (fun _ _ _ h => h) (Or.inl ⟨by rfl, ?_⟩) ?_ ?_
    rotate_left
    ·
     intro w'
     go_simp
     with_reducible rfl
    rotate_left
    ·
     exact Goto.ap
    refine pure_ (i := 1) (N := some 6) (v := ?_) (a' := ?_) (Goto.bs 9 3) rfl rfl (any_of HT_.out (by kernel_rfl)) (fun _ _ _ h => h) (Or.inl ⟨by rfl, ?_⟩) ?_ ?_
    rotate_left
    ·
     intro w'
     go_simp
     with_reducible rfl
    rotate_left
    ·
     exact Goto.ap
    refine pure_ (i := 4) (N := some 9) (v := ?_) (a' := ?_) (Goto.bs 9 19) rfl rfl (any_of HT_.out (by kernel_rfl)) (fun _ _ _ h => h) (Or.inl ⟨by rfl, ?_⟩) ?_ ?_
    rotate_left
    ·
     intro w'
     go_simp
     with_reducible rfl
    rotate_left
    ·
     exact Goto.ap
    refine pure_ (i := 5) (N := some 10) (v := ?_) (a' := ?_) (Goto.bs 9 51) rfl rfl (any_of HT_.out (by kernel_rfl)) (fun _ _ _ h => h) (Or.inl ⟨by rfl, ?_⟩) ?_ ?_
    rotate_left
    ·
     intro w'
     go_simp
     with_reducible rfl
    rotate_left
    ·
     exact Goto.ap
    refine pure_ (i := 6) (N := some 11) (v := ?_) (a' := ?_) (Goto.bs 9 115) rfl rfl (any_of HT_.out (by kernel_rfl)) (fun _ _ _ h => h) (Or.inl ⟨by rfl, ?_⟩) ?_ ?_
    rotate_left
    ·
     intro w'
     go_simp
     with_reducible rfl
    rotate_left
    ·
     exact Goto.ap
    refine take_ (i := 2) (N := some 7) (v := ?_) (a' := ?_) (Goto.bs 9 119) rfl rfl (take_ofW HT_.out HW_.out (by kernel_rfl)) (fun _ _ _ h => h) (Or.inl ⟨by rfl, ?_⟩) hHeld ?_ ?_
    rotate_left
    ·
     rintro w' ⟨s0, s1, s2⟩
     go_simp
     with_reducible rfl
    rotate_left
    ·
     exact Goto.ap
    refine take_ (i := 7) (N := some 12) (v := ?_) (a' := ?_) (Goto.bs 9 247) rfl rfl (take_ofW HT_.out HW_.out (by kernel_rfl)) (fun _ _ _ h => h) (Or.inl ⟨by rfl, ?_⟩) hHeld ?_ ?_
    rotate_left
    ·
     rintro w' ⟨s0, s1, s2⟩
     go_simp
     with_reducible rfl
    rotate_left
    ·
     exact Goto.ap
    refine one_ (i := 3) (N := some 8) (Goto.bs 9 255) rfl rfl (one_of HT_.out (by kernel_rfl)) (by decide) (fun K hK => ?_)
    refine goes_ Try.func46 (by kernel_rfl) rfl #[.pointer (some ⟨g, 0, none⟩), .int .i64 a1_0] (by rfl) rfl rfl (by (try simp only [List.map_toArray, List.map_cons, List.map_nil]); first | done | rfl | (simp only [List.length_drop, List.length_take]; rfl)) ?_
    with_reducible refine (tontineref15_Box_Waits.calls k g a0_0 (fun k_ => some k_ = (u9000_ : Value).ownBlock) u9000_ l0_1 a1_0 t164 t165 w0 _ ?side1 ?side2 ?side3 ?side4 A3.out).mono ?_
    (case side1 => exact by (with_reducible repeat first | refine blk_drewN ?_ _ | refine blk_drew ?_ | refine blk_alloc ?_ _); exact BK0.out)
    (case side2 => exact GE0.out)
    (case side3 => repeat (first | (with_reducible first | exact HB.out | apply below_alloc | apply pw_below_drewN | apply below_drew1 | refine below_set ?_ GE0.out | refine below_set ?_ GE163.out) | exact HB.out))
    (case side4 => exact Goto.Q_tight rfl (HO0_1.out))
    rintro e w12 ⟨rfl, hi, hy0, hb, hkp⟩
    refine ⟨_, rfl, ?_⟩
    replace BK0 := Goto.m0 (hi); replace BK163 := Goto.m0 (blk_kept (Goto.bx BK163) hkp (fun hs_ => Or.elim hs_ (fun hs_ => (fun e_ => (Kd.Q_away HO0_1.out (fun _ hk => hk.2)) e_) hs_) (fun e_ => NB163_0.out e_))); replace HK := Goto.m0 (Kept.then_ (S := (fun k_ => (P0_1_ k_) ∨ k_ = g)) (by repeat (first | (with_reducible first | exact HK.out | apply Kept.alloc | apply Kept.drewN | apply Kept.drew | refine Kept.setCell ?_ (.inl (.inr rfl)) _ | refine Kept.setCell ?_ (.inr GW163.out) _) | exact HK.out)) hkp (fun k_ hs_ => Or.elim hs_ (fun hs_ => (fun e_ => Or.imp_left Or.inl ((HO0_1.out.1 k_ e_.symm).1)) hs_) (fun e_ => .inl (.inr e_)))); replace HO0_1 := Goto.m0 (Kd.Q_mono (Goto.Q_tight rfl (hy0)) (fun k_ e_ => HO0_1.out.1 k_ e_.symm)); replace HB := Goto.m0 (hb)
    (try clear hb)
    (try clear hkp)
    (try clear hy0)
    refine hK.out _ _ ⟨(blk_cell BK163.out 0).trans rfl, (blk_cell BK163.out 1).trans rfl, (blk_cell BK0.out 0).trans rfl⟩ (fun hHeld => ?_)
    clear hK K
    refine norm_ (a' := ?_) ?_ ?_
    rotate_left
    ·
     show Act.put _ (some 8) _ = _
     exact Goto.ap
    refine pure_ (i := 8) (N := some 13) (v := ?_) (a' := ?_) (Goto.bs 9 511) rfl rfl (any_of HT_.out (by kernel_rfl)) (fun _ _ _ h => h) (Or.inl ⟨by rfl, ?_⟩) ?_ ?_
    rotate_left
    ·
     intro w'
     go_simp
     with_reducible rfl
    rotate_left
    ·
     exact Goto.ap
    refine done_ (done_of HT_.out (by kernel_rfl)) ?_
    obtain ⟨Ao13, co13, eo13, _⟩ := Kd.Q_slice HO0_1.out
    subst eo13
    try go_wp2
    replace HO0_1 := Goto.m0 (Kd.Q_drew HO0_1.out); replace BK0 := Goto.m0 (blk_drew BK0.out); replace BK163 := Goto.m0 (blk_drew BK163.out); replace HK := Goto.m0 (Kept.drew HK.out); replace HB := Goto.m0 (below_drew1 HB.out)
    refine start_ (n := 12) (S := fun w' => w'.cell? ⟨g, 0, none⟩ = some (.int .i64 a0_0) ∧ w'.cell? ⟨g, 1, none⟩ = some (.slice Ao13 t165.length co13) ∧ w'.cell? ⟨gb163, 0, none⟩ = some (.int .i64 a1_0) ∧ w'.cell? ⟨gb163, 1, none⟩ = some (.int .i64 a1_1)) (ds := [11]) (.replicate 12 false) (by kernel_rfl) rfl rfl ⟨(blk_cell BK0.out 0).trans rfl, (blk_cell BK0.out 1).trans rfl, (blk_cell BK163.out 0).trans rfl, (blk_cell BK163.out 1).trans rfl⟩ (fun hHeld => ?_); refine with_tabW tontineref15_Box_Put.tab3 tontineref15_Box_Put.bits3 (fun HT_ HW_ => ?_)
    generalize w12.drew = w14 at HO0_1 BK0 BK163 HK HB hHeld ⊢
    refine pure_ (i := 0) (N := some 14) (v := ?_) (a' := ?_) (Goto.bs 12 1) rfl rfl (any_of HT_.out (by kernel_rfl)) (fun _ _ _ h => h) (Or.inl ⟨by rfl, ?_⟩) ?_ ?_
    rotate_left
    ·
     intro w'
     go_simp
     with_reducible rfl
    rotate_left
    ·
     exact Goto.ap
    refine pure_ (i := 1) (N := some 15) (v := ?_) (a' := ?_) (Goto.bs 12 3) rfl rfl (any_of HT_.out (by kernel_rfl)) (fun _ _ _ h => h) (Or.inl ⟨by rfl, ?_⟩) ?_ ?_
    rotate_left
    ·
     intro w'
     go_simp
     with_reducible rfl
    rotate_left
    ·
     exact Goto.ap
    refine pure_ (i := 2) (N := some 16) (v := ?_) (a' := ?_) (Goto.bs 12 7) rfl rfl (any_of HT_.out (by kernel_rfl)) (fun _ _ _ h => h) (Or.inl ⟨by rfl, ?_⟩) ?_ ?_
    rotate_left
    ·
     intro w'
     go_simp
     with_reducible rfl
    rotate_left
    ·
     exact Goto.ap
    refine pure_ (i := 3) (N := some 17) (v := ?_) (a' := ?_) (Goto.bs 12 15) rfl rfl (any_of HT_.out (by kernel_rfl)) (fun _ _ _ h => h) (Or.inl ⟨by rfl, ?_⟩) ?_ ?_
    rotate_left
    ·
     intro w'
     go_simp
     with_reducible rfl
    rotate_left
    ·
     exact Goto.ap
    refine take_ (i := 4) (N := some 18) (v := ?_) (a' := ?_) (Goto.bs 12 31) rfl rfl (take_ofW HT_.out HW_.out (by kernel_rfl)) (fun _ _ _ h => h) (Or.inl ⟨by rfl, ?_⟩) hHeld ?_ ?_
    rotate_left
    ·
     rintro w' ⟨s0, s1, s2, s3⟩
     go_simp
     with_reducible rfl
    rotate_left
    ·
     exact Goto.ap
    refine take_ (i := 6) (N := some 20) (v := ?_) (a' := ?_) (Goto.bs 12 95) rfl rfl (take_ofW HT_.out HW_.out (by kernel_rfl)) (fun _ _ _ h => h) (Or.inl ⟨by rfl, ?_⟩) hHeld ?_ ?_
    rotate_left
    ·
     rintro w' ⟨s0, s1, s2, s3⟩
     go_simp
     with_reducible rfl
    rotate_left
    ·
     exact Goto.ap
    refine join_ (σ := Value × Value) 4 (Goto.bs 12 255) (fun s_ => [(19, s_.1), (21, s_.2)]) (fun s_ w' => (w'.cell? ⟨g, 0, none⟩ = some (.int .i64 a0_0) ∧ w'.cell? ⟨g, 1, none⟩ = some (.slice Ao13 t165.length co13) ∧ w'.cell? ⟨gb163, 0, none⟩ = some (.int .i64 a1_0) ∧ w'.cell? ⟨gb163, 1, none⟩ = some (.int .i64 a1_1)) ∧ (Kd.Q k63 63 w' w0.heap.size (fun k_ => (P0_1_ k_ ∨ w.heap.size ≤ k_) ∧ some k_ ≠ (s_.1 : Value).ownBlock ∧ some k_ ≠ (s_.2 : Value).ownBlock ∧ k_ ≠ gb163) (.slice Ao13 t165.length co13) t165) ∧ (Kd.R k63 63 w' w0.heap.size (fun k_ => (P0_1_ k_ ∨ w.heap.size ≤ k_) ∧ some k_ ≠ (.slice Ao13 t165.length co13 : Value).ownBlock ∧ some k_ ≠ (s_.2 : Value).ownBlock ∧ k_ ≠ gb163) s_.1 y166) ∧ (Kd.R k63 63 w' w0.heap.size (fun k_ => (P0_1_ k_ ∨ w.heap.size ≤ k_) ∧ some k_ ≠ (.slice Ao13 t165.length co13 : Value).ownBlock ∧ some k_ ≠ (s_.1 : Value).ownBlock ∧ k_ ≠ gb163) s_.2 y169) ∧ (w'.heap[g]? = some (.cells #[.int .i64 a0_0, .slice Ao13 t165.length co13] 69 (0, 0))) ∧ (w'.heap[gb163]? = some (.cells #[.int .i64 a1_0, .int .i64 a1_1] 63 (0, 0))) ∧ (Kept w w' (fun k_ => (P0_1_ k_) ∨ k_ = g)) ∧ (Below w0.heap.size w0 w')) ?_ ?_
    rotate_left
    ·
     intro hCont
     refine two_ (i := 5) (j := 7) (Ni := some 19) (Nj := some 21) (Goto.bs 12 127) (Goto.bs 12 223) rfl rfl rfl rfl (two_of HT_.out (by kernel_rfl)) (by decide) (by decide) (fun K hK => ?_) (fun K hK => ?_)
     ·
      skip
      refine Kd.R_append_rows_step k63 (w0 := w0) w0.heap.size rfl (.const (.slice none 0 0)) (.tmp 18) 67 63 (.agg #[(.int .i64 0), (.int .i64 0)]) 16 rfl Try.underlying67 info63 rfl (by decide) (by omega) (.slice none 0 0) ([] : List (S63)) t165 _ _ _ (fun k_ => (P0_1_ k_ ∨ w.heap.size ≤ k_) ∧ some k_ ≠ (.slice Ao13 t165.length co13 : Value).ownBlock ∧ k_ ≠ gb163) (fun _ => False) rfl rfl ?aO ?aR (fun _ _ h => h) (fun _ h => h.elim) ?aF ?aB ?aS ?aL ?_
      (case aR => repeat (first | exact (Kd.Q_reads' HO0_1.out).2.2 | (with_reducible refine Kd.C_alloc ?_ _) | (with_reducible refine Kd.C_drewN ?_ _) | (with_reducible refine Kd.C_drew ?_)))
      (case aB => exact (Goto.hx HB))
      (case aF => exact (fun k_ hk => ⟨(.inr (Nat.le_trans (by first | exact HK.out.1 | exact (show Kept w _ (fun k_ => (P0_1_ k_) ∨ k_ = g) from by repeat (first | (with_reducible first | exact HK.out | apply Kept.alloc | apply Kept.drewN | apply Kept.drew | refine Kept.setCell ?_ (.inl (.inr rfl)) _ | refine Kept.setCell ?_ (.inr GW163.out) _) | exact HK.out)).1) hk)), Kd.fresh' (Kd.Q_lt (by (with_reducible repeat (first | apply Kd.Q_alloc | apply Kd.Q_drewN | apply Kd.Q_drew)); exact HO0_1.out)) k_ hk, Kd.freshB (g := gb163) (o := .cells #[.int .i64 a1_0, .int .i64 a1_1] 63 (0, 0)) (Goto.bx BK163) k_ hk⟩))
      (case aO => exact ((Kd.R_nil _ _ _ _ (fun k_ => (P0_1_ k_ ∨ w.heap.size ≤ k_) ∧ some k_ ≠ (.slice Ao13 t165.length co13 : Value).ownBlock ∧ k_ ≠ gb163))))
      (case aS => exact (below_size (Goto.hx HB)))
      (case aL => have := LMc8.out; omega)
      intro v167 w15 ho hb hg hat
      rw [← Ny166.out] at ho
      have HO168 := Goto.m0 (ho); replace BK0 := Goto.m0 (blk_grown (g := g) (o := .cells #[.int .i64 a0_0, .slice Ao13 t165.length co13] 69 (0, 0)) (Goto.bx BK0) hg (by simp [Value.ownBlock])); replace HO0_1 := Goto.m0 (Kd.Q_after (Kd.Q_apart_nil (by (with_reducible repeat (first | apply Kd.Q_alloc | apply Kd.Q_drewN | apply Kd.Q_drew)); exact HO0_1.out)) hg hat); replace BK163 := Goto.m0 (blk_grown (g := gb163) (o := .cells #[.int .i64 a1_0, .int .i64 a1_1] 63 (0, 0)) (Goto.bx BK163) hg (by simp [Value.ownBlock])); replace HB := Goto.m0 (hb); replace HK := Goto.m0 (Kept.of_grown (S := (fun k_ => (P0_1_ k_) ∨ k_ = g)) hg (by repeat (first | (with_reducible first | exact HK.out | apply Kept.alloc | apply Kept.drewN | apply Kept.drew | refine Kept.setCell ?_ (.inl (.inr rfl)) _ | refine Kept.setCell ?_ (.inr GW163.out) _) | exact HK.out)) (fun k_ e_ => by simp [Value.ownBlock] at e_)); clear ho hb hg hat
      refine hK.out _ _ ⟨(blk_cell BK0.out 0).trans rfl, (blk_cell BK0.out 1).trans rfl, (blk_cell BK163.out 0).trans rfl, (blk_cell BK163.out 1).trans rfl⟩ (fun hHeld => ?_)
      clear hK K
      refine norm_ (a' := ?_) ?_ ?_
      rotate_left
      ·
       show Act.put _ (some 19) _ = _
       exact Goto.ap
      refine one_ (i := 7) (N := some 21) (Goto.bs 12 255) rfl rfl (one_of HT_.out (by kernel_rfl)) (by decide) (fun K hK => ?_)
      refine Kd.R_lit_step k63 _ 63 ?hg (N := 21) ?hd (xs := ([(⟨a1_0, a1_1⟩ : S63)] : List (S63))) (inner := [.int .i64 a1_0, .int .i64 a1_1]) (ok := fun _ => True) (okp := fun _ => True) ?hr ?hp (fun _ hk => hk) trivial (Below.refl _ _) (Nat.le_refl _) (by simp) ?_; (case hd => rfl); (case hg => rfl); (case hr => first | (go_simp; done) | (go_simp; rfl)); (case hp => exact (Reps.c2 (show Kd.M k63 _ _ _ (⟨a1_0, a1_1⟩ : S63) [.int .i64 a1_0, .int .i64 a1_1] from (k63_mkM _ _ _ (⟨a1_0, a1_1⟩ : S63) )) (Reps.none _ _)))
      intro v170 w16 ho17 hb hg_ hnew_
      clear hg_ hnew_
      (first | rw [← Ny169.out] at ho17 | (simp only [Int.reduceToNat] at ho17; rw [← Ny169.out] at ho17))
      have HO171 := Goto.m0 (Kd.R_lower (Kd.R_newB (Kd.R_new' (Kd.R_new' (Kd.R_newM (M := fun k_ => (P0_1_ k_ ∨ w.heap.size ≤ k_)) ho17 (by first | exact HK.out.1 | exact (show Kept w _ (fun k_ => (P0_1_ k_) ∨ k_ = g) from by repeat (first | (with_reducible first | exact HK.out | apply Kept.alloc | apply Kept.drewN | apply Kept.drew | refine Kept.setCell ?_ (.inl (.inr rfl)) _ | refine Kept.setCell ?_ (.inr GW163.out) _) | exact HK.out)).1) (fun k_ h_ => .inr h_)) (Kd.Q_lt (by (with_reducible repeat (first | apply Kd.Q_alloc | apply Kd.Q_drewN | apply Kd.Q_drew)); exact HO0_1.out))) (Kd.R_lt (by (with_reducible repeat (first | apply Kd.R_alloc | apply Kd.R_drewN | apply Kd.R_drew)); exact HO168.out))) (g := gb163) (o := .cells #[.int .i64 a1_0, .int .i64 a1_1] 63 (0, 0)) (Goto.bx BK163)) (below_size (Goto.hx HB))); replace HO0_1 := Goto.m0 (Kd.Q_elder' (by (with_reducible repeat (first | apply Kd.Q_alloc | apply Kd.Q_drewN | apply Kd.Q_drew)); exact HO0_1.out) (Kd.R_base ho17) hb); replace HO168 := Goto.m0 (Kd.R_elder' (by (with_reducible repeat (first | apply Kd.R_alloc | apply Kd.R_drewN | apply Kd.R_drew)); exact HO168.out) (Kd.R_base ho17) hb); replace BK0 := Goto.bb BK0 hb; replace BK163 := Goto.bb BK163 hb; replace HK := Goto.m0 (Kept.below (S := (fun k_ => (P0_1_ k_) ∨ k_ = g)) (by repeat (first | (with_reducible first | exact HK.out | apply Kept.alloc | apply Kept.drewN | apply Kept.drew | refine Kept.setCell ?_ (.inl (.inr rfl)) _ | refine Kept.setCell ?_ (.inr GW163.out) _) | exact HK.out)) hb); replace HB := Goto.hs HB hb; clear hb ho17
      refine hK.out _ _ ⟨(blk_cell BK0.out 0).trans rfl, (blk_cell BK0.out 1).trans rfl, (blk_cell BK163.out 0).trans rfl, (blk_cell BK163.out 1).trans rfl⟩ (fun hHeld => ?_)
      clear hK K
      refine norm_ (a' := ?_) ?_ ?_
      rotate_left
      ·
       show Act.put _ (some 21) _ = _
       exact Goto.ap
      exact norm_ (by simp only [putAll, Act.put, List.setIfInBounds_toArray, List.set_cons_zero, List.set_cons_succ]) (hCont (v167, v170) _ ⟨hHeld, (by (with_reducible repeat (first | apply Kd.Q_alloc | apply Kd.Q_drewN | apply Kd.Q_drew)); exact Kd.Q_mono HO0_1.out (fun _ hk => ⟨hk.1.1.1, ⟨hk.1.2, ⟨hk.2, hk.1.1.2⟩⟩⟩)), (by (with_reducible repeat (first | apply Kd.R_alloc | apply Kd.R_drewN | apply Kd.R_drew)); exact Kd.R_mono HO168.out (fun _ hk => ⟨hk.1.1, ⟨hk.1.2.1, ⟨hk.2, hk.1.2.2⟩⟩⟩)), (by (with_reducible repeat (first | apply Kd.R_alloc | apply Kd.R_drewN | apply Kd.R_drew)); exact Kd.R_mono HO171.out (fun _ hk => ⟨hk.1.1.1.1, ⟨hk.1.1.2, ⟨hk.1.2, hk.2⟩⟩⟩)), (Goto.bx BK0), (Goto.bx BK163), (by repeat (first | (with_reducible first | exact HK.out | apply Kept.alloc | apply Kept.drewN | apply Kept.drew | refine Kept.setCell ?_ (.inl (.inr rfl)) _ | refine Kept.setCell ?_ (.inr GW163.out) _) | exact HK.out)), (Goto.hx HB)⟩)
     ·
      skip
      refine Kd.R_lit_step k63 _ 63 ?hg (N := 21) ?hd (xs := ([(⟨a1_0, a1_1⟩ : S63)] : List (S63))) (inner := [.int .i64 a1_0, .int .i64 a1_1]) (ok := fun _ => True) (okp := fun _ => True) ?hr ?hp (fun _ hk => hk) trivial (Below.refl _ _) (Nat.le_refl _) (by simp) ?_; (case hd => rfl); (case hg => rfl); (case hr => first | (go_simp; done) | (go_simp; rfl)); (case hp => exact (Reps.c2 (show Kd.M k63 _ _ _ (⟨a1_0, a1_1⟩ : S63) [.int .i64 a1_0, .int .i64 a1_1] from (k63_mkM _ _ _ (⟨a1_0, a1_1⟩ : S63) )) (Reps.none _ _)))
      intro v170 w15 ho16 hb hg_ hnew_
      clear hg_ hnew_
      (first | rw [← Ny169.out] at ho16 | (simp only [Int.reduceToNat] at ho16; rw [← Ny169.out] at ho16))
      have HO171 := Goto.m0 (Kd.R_lower (Kd.R_newB (Kd.R_new' (Kd.R_newM (M := fun k_ => (P0_1_ k_ ∨ w.heap.size ≤ k_)) ho16 (by first | exact HK.out.1 | exact (show Kept w _ (fun k_ => (P0_1_ k_) ∨ k_ = g) from by repeat (first | (with_reducible first | exact HK.out | apply Kept.alloc | apply Kept.drewN | apply Kept.drew | refine Kept.setCell ?_ (.inl (.inr rfl)) _ | refine Kept.setCell ?_ (.inr GW163.out) _) | exact HK.out)).1) (fun k_ h_ => .inr h_)) (Kd.Q_lt (by (with_reducible repeat (first | apply Kd.Q_alloc | apply Kd.Q_drewN | apply Kd.Q_drew)); exact HO0_1.out))) (g := gb163) (o := .cells #[.int .i64 a1_0, .int .i64 a1_1] 63 (0, 0)) (Goto.bx BK163)) (below_size (Goto.hx HB))); replace HO0_1 := Goto.m0 (Kd.Q_elder' (by (with_reducible repeat (first | apply Kd.Q_alloc | apply Kd.Q_drewN | apply Kd.Q_drew)); exact HO0_1.out) (Kd.R_base ho16) hb); replace BK0 := Goto.bb BK0 hb; replace BK163 := Goto.bb BK163 hb; replace HK := Goto.m0 (Kept.below (S := (fun k_ => (P0_1_ k_) ∨ k_ = g)) (by repeat (first | (with_reducible first | exact HK.out | apply Kept.alloc | apply Kept.drewN | apply Kept.drew | refine Kept.setCell ?_ (.inl (.inr rfl)) _ | refine Kept.setCell ?_ (.inr GW163.out) _) | exact HK.out)) hb); replace HB := Goto.hs HB hb; clear hb ho16
      refine hK.out _ _ ⟨(blk_cell BK0.out 0).trans rfl, (blk_cell BK0.out 1).trans rfl, (blk_cell BK163.out 0).trans rfl, (blk_cell BK163.out 1).trans rfl⟩ (fun hHeld => ?_)
      clear hK K
      refine norm_ (a' := ?_) ?_ ?_
      rotate_left
      ·
       show Act.put _ (some 21) _ = _
       exact Goto.ap
      refine one_ (i := 5) (N := some 19) (Goto.bs 12 255) rfl rfl (one_of HT_.out (by kernel_rfl)) (by decide) (fun K hK => ?_)
      refine Kd.R_append_rows_step k63 (w0 := w0) w0.heap.size rfl (.const (.slice none 0 0)) (.tmp 18) 67 63 (.agg #[(.int .i64 0), (.int .i64 0)]) 16 rfl Try.underlying67 info63 rfl (by decide) (by omega) (.slice none 0 0) ([] : List (S63)) t165 _ _ _ (fun k_ => (P0_1_ k_ ∨ w.heap.size ≤ k_) ∧ some k_ ≠ (.slice Ao13 t165.length co13 : Value).ownBlock ∧ some k_ ≠ (v170 : Value).ownBlock ∧ k_ ≠ gb163) (fun _ => False) rfl rfl ?aO ?aR (fun _ _ h => h) (fun _ h => h.elim) ?aF ?aB ?aS ?aL ?_
      (case aR => repeat (first | exact (Kd.Q_reads' HO0_1.out).2.2 | (with_reducible refine Kd.C_alloc ?_ _) | (with_reducible refine Kd.C_drewN ?_ _) | (with_reducible refine Kd.C_drew ?_)))
      (case aB => exact (Goto.hx HB))
      (case aF => exact (fun k_ hk => ⟨(.inr (Nat.le_trans (by first | exact HK.out.1 | exact (show Kept w _ (fun k_ => (P0_1_ k_) ∨ k_ = g) from by repeat (first | (with_reducible first | exact HK.out | apply Kept.alloc | apply Kept.drewN | apply Kept.drew | refine Kept.setCell ?_ (.inl (.inr rfl)) _ | refine Kept.setCell ?_ (.inr GW163.out) _) | exact HK.out)).1) hk)), Kd.fresh' (Kd.Q_lt (by (with_reducible repeat (first | apply Kd.Q_alloc | apply Kd.Q_drewN | apply Kd.Q_drew)); exact HO0_1.out)) k_ hk, Kd.fresh' (Kd.R_lt (by (with_reducible repeat (first | apply Kd.R_alloc | apply Kd.R_drewN | apply Kd.R_drew)); exact HO171.out)) k_ hk, Kd.freshB (g := gb163) (o := .cells #[.int .i64 a1_0, .int .i64 a1_1] 63 (0, 0)) (Goto.bx BK163) k_ hk⟩))
      (case aO => exact ((Kd.R_nil _ _ _ _ (fun k_ => (P0_1_ k_ ∨ w.heap.size ≤ k_) ∧ some k_ ≠ (.slice Ao13 t165.length co13 : Value).ownBlock ∧ some k_ ≠ (v170 : Value).ownBlock ∧ k_ ≠ gb163))))
      (case aS => exact (below_size (Goto.hx HB)))
      (case aL => have := LMc8.out; omega)
      intro v167 w17 ho hb hg hat
      rw [← Ny166.out] at ho
      have HO168 := Goto.m0 (ho); replace BK0 := Goto.m0 (blk_grown (g := g) (o := .cells #[.int .i64 a0_0, .slice Ao13 t165.length co13] 69 (0, 0)) (Goto.bx BK0) hg (by simp [Value.ownBlock])); replace HO0_1 := Goto.m0 (Kd.Q_after (Kd.Q_apart_nil (by (with_reducible repeat (first | apply Kd.Q_alloc | apply Kd.Q_drewN | apply Kd.Q_drew)); exact HO0_1.out)) hg hat); replace BK163 := Goto.m0 (blk_grown (g := gb163) (o := .cells #[.int .i64 a1_0, .int .i64 a1_1] 63 (0, 0)) (Goto.bx BK163) hg (by simp [Value.ownBlock])); replace HO171 := Goto.m0 (Kd.R_after (Kd.R_apart_nil (by (with_reducible repeat (first | apply Kd.R_alloc | apply Kd.R_drewN | apply Kd.R_drew)); exact HO171.out)) hg hat); replace HB := Goto.m0 (hb); replace HK := Goto.m0 (Kept.of_grown (S := (fun k_ => (P0_1_ k_) ∨ k_ = g)) hg (by repeat (first | (with_reducible first | exact HK.out | apply Kept.alloc | apply Kept.drewN | apply Kept.drew | refine Kept.setCell ?_ (.inl (.inr rfl)) _ | refine Kept.setCell ?_ (.inr GW163.out) _) | exact HK.out)) (fun k_ e_ => by simp [Value.ownBlock] at e_)); clear ho hb hg hat
      refine hK.out _ _ ⟨(blk_cell BK0.out 0).trans rfl, (blk_cell BK0.out 1).trans rfl, (blk_cell BK163.out 0).trans rfl, (blk_cell BK163.out 1).trans rfl⟩ (fun hHeld => ?_)
      clear hK K
      refine norm_ (a' := ?_) ?_ ?_
      rotate_left
      ·
       show Act.put _ (some 19) _ = _
       exact Goto.ap
      exact norm_ (by simp only [putAll, Act.put, List.setIfInBounds_toArray, List.set_cons_zero, List.set_cons_succ]) (hCont (v167, v170) _ ⟨hHeld, (by (with_reducible repeat (first | apply Kd.Q_alloc | apply Kd.Q_drewN | apply Kd.Q_drew)); exact Kd.Q_mono HO0_1.out (fun _ hk => ⟨hk.1.1.1, ⟨hk.2, ⟨hk.1.2, hk.1.1.2⟩⟩⟩)), (by (with_reducible repeat (first | apply Kd.R_alloc | apply Kd.R_drewN | apply Kd.R_drew)); exact HO168.out), (by (with_reducible repeat (first | apply Kd.R_alloc | apply Kd.R_drewN | apply Kd.R_drew)); exact Kd.R_mono HO171.out (fun _ hk => ⟨hk.1.1.1.1, ⟨hk.1.1.2, ⟨hk.2, hk.1.2⟩⟩⟩)), (Goto.bx BK0), (Goto.bx BK163), (by repeat (first | (with_reducible first | exact HK.out | apply Kept.alloc | apply Kept.drewN | apply Kept.drew | refine Kept.setCell ?_ (.inl (.inr rfl)) _ | refine Kept.setCell ?_ (.inr GW163.out) _) | exact HK.out)), (Goto.hx HB)⟩)
    rintro ⟨v167, v170⟩ w18 ⟨hS_, h0_, h1_, h2_, h3_, h4_, h5_, h6_⟩
    have n0_ : Aside0 (Kd.Q k63 63 w18 w0.heap.size (fun k_ => (P0_1_ k_ ∨ w.heap.size ≤ k_) ∧ some k_ ≠ (v167 : Value).ownBlock ∧ some k_ ≠ (v170 : Value).ownBlock ∧ k_ ≠ gb163) (.slice Ao13 t165.length co13) t165) := ⟨h0_⟩
    have n1_ : Aside0 (Kd.R k63 63 w18 w0.heap.size (fun k_ => (P0_1_ k_ ∨ w.heap.size ≤ k_) ∧ some k_ ≠ (.slice Ao13 t165.length co13 : Value).ownBlock ∧ some k_ ≠ (v170 : Value).ownBlock ∧ k_ ≠ gb163) v167 y166) := ⟨h1_⟩
    have n2_ : Aside0 (Kd.R k63 63 w18 w0.heap.size (fun k_ => (P0_1_ k_ ∨ w.heap.size ≤ k_) ∧ some k_ ≠ (.slice Ao13 t165.length co13 : Value).ownBlock ∧ some k_ ≠ (v167 : Value).ownBlock ∧ k_ ≠ gb163) v170 y169) := ⟨h2_⟩
    have n3_ : Aside0 (w18.heap[g]? = some (.cells #[.int .i64 a0_0, .slice Ao13 t165.length co13] 69 (0, 0))) := ⟨h3_⟩
    have n4_ : Aside0 (w18.heap[gb163]? = some (.cells #[.int .i64 a1_0, .int .i64 a1_1] 63 (0, 0))) := ⟨h4_⟩
    have n5_ : Aside0 (Kept w w18 (fun k_ => (P0_1_ k_) ∨ k_ = g)) := ⟨h5_⟩
    have n6_ : Aside0 (Below w0.heap.size w0 w18) := ⟨h6_⟩
    clear HO0_1; clear BK0; clear BK163; clear HK; clear HB; clear h0_ h1_ h2_ h3_ h4_ h5_ h6_; have HO0_1 := n0_; have HO168 := n1_; have HO171 := n2_; have BK0 := n3_; have BK163 := n4_; have HK := n5_; have HB := n6_; clear n0_ n1_ n2_ n3_ n4_ n5_ n6_
    have hHeld : w18.cell? ⟨g, 0, none⟩ = some (.int .i64 a0_0) ∧ w18.cell? ⟨g, 1, none⟩ = some (.slice Ao13 t165.length co13) ∧ w18.cell? ⟨gb163, 0, none⟩ = some (.int .i64 a1_0) ∧ w18.cell? ⟨gb163, 1, none⟩ = some (.int .i64 a1_1) := hS_
    obtain ⟨Ao20, co20, eo20⟩ := Kd.R_slice HO171.out
    (first | subst eo20 | (injection eo20 with f1_ f2_ f3_; have f4_ := f1_.symm; have f5_ := f3_.symm; clear f1_ f2_ f3_; subst f4_; subst f5_))
    refine norm_ (a' := ?_) ?_ ?_
    rotate_left
    ·
     simp only [putAll, Act.put, List.setIfInBounds_toArray, List.set_cons_zero, List.set_cons_succ]
     rfl
    refine one_ (i := 8) (N := some 22) (Goto.bs 12 511) rfl rfl (one_of HT_.out (by kernel_rfl)) (by decide) (fun K hK => ?_)
    refine Kd.R_append_rows_step k63 (w0 := w0) w0.heap.size (by rfl) (.tmp 19) (.tmp 21) 67 63 (.agg #[(.int .i64 0), (.int .i64 0)]) 16 rfl Try.underlying67 info63 rfl (by decide) (by omega) v167 y166 y169 _ _ _ (fun k_ => (P0_1_ k_ ∨ w.heap.size ≤ k_) ∧ some k_ ≠ (.slice Ao13 t165.length co13 : Value).ownBlock ∧ some k_ ≠ (.slice Ao20 y169.length co20 : Value).ownBlock ∧ k_ ≠ gb163) (fun _ => False) rfl rfl ?aO ?aR (fun _ _ h => h) (fun _ h => h.elim) ?aF ?aB ?aS ?aL ?_
    (case aR => repeat (first | exact (Kd.R_reads' HO171.out).2.2 | (with_reducible refine Kd.C_alloc ?_ _) | (with_reducible refine Kd.C_drewN ?_ _) | (with_reducible refine Kd.C_drew ?_)))
    (case aB => exact (Goto.hx HB))
    (case aF => exact (fun k_ hk => ⟨(.inr (Nat.le_trans (by first | exact HK.out.1 | exact (show Kept w _ (fun k_ => (P0_1_ k_) ∨ k_ = g) from by repeat (first | (with_reducible first | exact HK.out | apply Kept.alloc | apply Kept.drewN | apply Kept.drew | refine Kept.setCell ?_ (.inl (.inr rfl)) _ | refine Kept.setCell ?_ (.inr GW163.out) _) | exact HK.out)).1) hk)), Kd.fresh' (Kd.Q_lt (by (with_reducible repeat (first | apply Kd.Q_alloc | apply Kd.Q_drewN | apply Kd.Q_drew)); exact HO0_1.out)) k_ hk, Kd.fresh' (Kd.R_lt (by (with_reducible repeat (first | apply Kd.R_alloc | apply Kd.R_drewN | apply Kd.R_drew)); exact HO171.out)) k_ hk, Kd.freshB (g := gb163) (o := .cells #[.int .i64 a1_0, .int .i64 a1_1] 63 (0, 0)) (Goto.bx BK163) k_ hk⟩))
    (case aO => exact (by (with_reducible repeat (first | apply Kd.R_alloc | apply Kd.R_drewN | apply Kd.R_drew)); exact HO168.out))
    (case aS => exact (below_size (Goto.hx HB)))
    (case aL => have := LMc9.out; omega)
    intro v173 w19 ho hb hg hat
    rw [← Ny172.out] at ho
    have n0_ := Goto.m0 (blk_grown (g := g) (o := .cells #[.int .i64 a0_0, .slice Ao13 t165.length co13] 69 (0, 0)) (Goto.bx BK0) hg (Kd.R_ne HO168.out BK0.out (by decide)))
    have n1_ := Goto.m0 (Kd.Q_after (ok := (fun k_ => (P0_1_ k_ ∨ w.heap.size ≤ k_) ∧ some k_ ≠ (.slice Ao20 y169.length co20 : Value).ownBlock ∧ k_ ≠ gb163)) (by (with_reducible repeat (first | apply Kd.Q_alloc | apply Kd.Q_drewN | apply Kd.Q_drew)); exact Kd.Q_mono HO0_1.out (fun _ hk => ⟨⟨hk.1, ⟨hk.2.2.1, hk.2.2.2⟩⟩, hk.2.1⟩)) hg hat)
    have n2_ := Goto.m0 (blk_grown (g := gb163) (o := .cells #[.int .i64 a1_0, .int .i64 a1_1] 63 (0, 0)) (Goto.bx BK163) hg (Kd.R_away HO168.out (fun _ hk => hk.2.2.2)))
    have n3_ := Goto.m0 (Kd.R_after (ok := (fun k_ => (P0_1_ k_ ∨ w.heap.size ≤ k_) ∧ some k_ ≠ (.slice Ao13 t165.length co13 : Value).ownBlock ∧ k_ ≠ gb163)) (by (with_reducible repeat (first | apply Kd.R_alloc | apply Kd.R_drewN | apply Kd.R_drew)); exact Kd.R_mono HO171.out (fun _ hk => ⟨⟨hk.1, ⟨hk.2.1, hk.2.2.2⟩⟩, hk.2.2.1⟩)) hg hat)
    have n4_ := Goto.m0 (hb)
    have n5_ := Goto.m0 (Kept.of_grown (S := (fun k_ => (P0_1_ k_) ∨ k_ = g)) hg (by repeat (first | (with_reducible first | exact HK.out | apply Kept.alloc | apply Kept.drewN | apply Kept.drew | refine Kept.setCell ?_ (.inl (.inr rfl)) _ | refine Kept.setCell ?_ (.inr GW163.out) _) | exact HK.out)) (fun k_ e_ => Or.imp_left Or.inl ((HO168.out.1 k_ e_).1)))
    have n6_ := Goto.m0 (ho)
    clear BK0; clear HO0_1; clear BK163; clear HO171; clear HB; clear HK; clear HO168; have BK0 := n0_; have HO0_1 := n1_; have BK163 := n2_; have HO171 := n3_; have HB := n4_; have HK := n5_; have HO174 := n6_; clear n0_ n1_ n2_ n3_ n4_ n5_ n6_; clear ho hb hg hat
    obtain ⟨Ao21, co21, eo21⟩ := Kd.R_slice HO174.out
    (first | subst eo21 | (injection eo21 with f1_ f2_ f3_; have f4_ := f1_.symm; have f5_ := f3_.symm; clear f1_ f2_ f3_; subst f4_; subst f5_))
    refine hK.out _ _ ⟨(blk_cell BK0.out 0).trans rfl, (blk_cell BK0.out 1).trans rfl, (blk_cell BK163.out 0).trans rfl, (blk_cell BK163.out 1).trans rfl⟩ (fun hHeld => ?_)
    clear hK K
    refine norm_ (a' := ?_) ?_ ?_
    rotate_left
    ·
     show Act.put _ (some 22) _ = _
     exact Goto.ap
    refine pure_ (i := 9) (N := some 23) (v := ?_) (a' := ?_) (Goto.bs 12 1023) rfl rfl (any_of HT_.out (by kernel_rfl)) (fun _ _ _ h => h) (Or.inl ⟨by rfl, ?_⟩) ?_ ?_
    rotate_left
    ·
     intro w'
     go_simp
     with_reducible rfl
    rotate_left
    ·
     exact Goto.ap
    refine pure_ (i := 10) (N := some 24) (v := ?_) (a' := ?_) (Goto.bs 12 2047) rfl rfl (any_of HT_.out (by kernel_rfl)) (fun _ _ _ h => h) (Or.inl ⟨by rfl, ?_⟩) ?_ ?_
    rotate_left
    ·
     intro w'
     go_simp
     with_reducible rfl
    rotate_left
    ·
     exact Goto.ap
    refine last_ (i := 11) (N := none) (Goto.bs 12 4095) rfl rfl (one_of HT_.out (by kernel_rfl)) (by decide) (fun K hK => ?_)
    have hs22 : w19.cell? ⟨g, 1, none⟩ = some (.slice Ao13 t165.length co13) := (blk_cell BK0.out 1).trans rfl; have hfs22 := blk_frozen BK0.out 1; have hns22_1 := NB163_0.out; have hms22_1 := NB0_163.out
    refine skip_ (w1 := ?_) (by rfl) rfl ?_ ?_
    rotate_left
    ·
     go_simp
     rfl
    refine hK.out _ _ ?_
    clear hK K
    refine done_ (done_of HT_.out (by kernel_rfl)) ?_
    try go_wp2
    go_ret
    (try simp only [← exists_and_left])
    exact ⟨_, by first | rfl | (simp [errW_none, errW_some] <;> rfl) | (simp [*, errW_none, errW_some] <;> rfl), Kd.Q_of_R (by (with_reducible repeat (first | apply Kd.R_alloc | apply Kd.R_drewN | apply Kd.R_drew)); exact Kd.R_mono (Kd.R_far (p := ⟨g, 1, none⟩) (Kd.R_types HO174.out BK0.out (by decide)) (fun _ hk => hk.2) (.slice Ao21 y172.length co21)) (fun _ hk => hk.1.1)), by (with_reducible repeat first | refine blk_drewN ?_ _ | refine blk_drew ?_ | refine blk_alloc ?_ _); refine blk_put (cs := #[.int .i64 a0_0, .slice Ao13 t165.length co13]) ?_ 1 _ rfl; (with_reducible repeat first | refine blk_drewN ?_ _ | refine blk_drew ?_ | refine blk_alloc ?_ _); exact BK0.out, by repeat (first | (with_reducible first | exact HB.out | apply below_alloc | apply pw_below_drewN | apply below_drew1 | refine below_set ?_ GE0.out | refine below_set ?_ GE163.out) | exact HB.out), by repeat (first | (with_reducible first | exact HK.out | apply Kept.alloc | apply Kept.drewN | apply Kept.drew | refine Kept.setCell ?_ (.inl (.inr rfl)) _ | refine Kept.setCell ?_ (.inr GW163.out) _) | exact HK.out)⟩
   ·
    rw [if_neg c9] at H
    exact absurd H (by simp)
  ·
   rw [if_neg c8] at H
   exact absurd H (by simp)

end Go.Proofs.Ytpbcamdjcnokfaa.P
