/- Printed by a program of this workplace (a turned copy of the kit's optional print), out of the translation; not trusted: Lean checks it. -/
import Derived.Test.YtiejhnijfgdapaaPx0
namespace Go.Proofs.Ytiejhnijfgdapaa.P
open Go.RowKit Go.Proofs.YtiejhnijfgdapaaW.PrintWords Go.Proofs.YtiejhnijfgdapaaW.PrintLast Go.Proofs.YtiejhnijfgdapaaW.PrintMore
attribute [local go_sem] max2_int min2_int max_two min_two max_three min_three max_four min_four   -- for this text's walks alone
set_option linter.unusedVariables false
set_option linter.unusedSimpArgs false

/-! ### wire_New: function 10 -/
def wire_New.f  : Option (List Int) := some ([] : List Int)
set_option maxHeartbeats 8000000 in
set_option maxRecDepth 100000 in
theorem wire_New.calls  (r : List Int) (w : World) (h : wire_New.f  = some r) :
    Calls Try.prog 10 #[] w fun e w' => ∃ v0_ : Value, ∃ g_ : Nat, e = .returned (.pointer (some ⟨g_, 0, none⟩)) ∧ Kd.R (Kd.int .u8) 5 w' w.heap.size (fun _ => True) v0_ r ∧ w'.heap[g_]? = some (.cells #[v0_] 65 (0, 0)) ∧ w.heap.size ≤ g_ ∧ Below w.heap.size w w' := by
 have hu65 := Try.underlying65
 have HB := Goto.m0 (Below.refl w.heap.size w)
 have H : (some ([] : List Int)) = some r := h
 clear h
 obtain rfl := Option.some.inj H
 go_enter Try.func10, Try.ntmps10
 go_wp2_with (first | ((with_reducible refine gate_dst (N := 2) rfl ?_); refine box_event ?hg (N := 2) ?hd (cs := #[.slice none 0 0]) (t := 65) ?hr ?_; (case hd => rfl); (case hg => rfl); (case hr => first | (go_simp; done) | (go_simp; rfl)); intro gb101 hg w1 hbox hb; have BK101 := Goto.m0 (hbox); have GW101 := Goto.gs HB hg; have GE101 := Goto.gs HB hg; replace HB := Goto.hs HB hb; clear hb hbox hg))
 go_ret
 exact ⟨_, _, Goto.er, by first | exact Kd.R_nil _ _ _ _ _ | exact Kd.N_nil _ _ _ _ _ | exact Kd.V_nil _ _ _ _ _ | exact Kd.Q_nil _ _ _ _ _ | exact Kd.S_nil _ _ _ _ _, by (with_reducible repeat first | refine blk_drewN ?_ _ | refine blk_drew ?_ | refine blk_alloc ?_ _); exact BK101.out, GW101.out, by repeat (first | (with_reducible first | exact HB.out | apply below_alloc | apply pw_below_drewN | apply below_drew1 | refine below_set ?_ GE101.out) | exact HB.out)⟩

/-! ### wire_Writer_Num: function 11 -/
def wire_Writer_Num.l0 : Nat → Int → List Int → Option (List Int)
  | 0, _, _ => none
  | k + 1, x1, x1000 => if x1 ≥ 128 then (if x1000.length < 140737488355328 then (wire_Writer_Num.l0 k (x1 / 128) (x1000 ++ [(Go.bits .or .i64 128 (Go.bits .and .i64 x1 127)) % 256])) else (none)) else (if x1000.length < 140737488355328 then (some (x1000 ++ [(x1) % 256])) else (none))
def wire_Writer_Num.f (k : Nat) (l0_0 : List Int) (a1 : Int) : Option (List Int) := wire_Writer_Num.l0 k ((mn (mx a1 (-1)) 1048576) + 1) l0_0
theorem wire_Writer_Num.mono_l : ∀ k, (∀ y0 y1, LeO (wire_Writer_Num.l0 k y0 y1) (wire_Writer_Num.l0 (k + 1) y0 y1))
  | 0 => fun _ _ r h => by simp [wire_Writer_Num.l0] at h
  | k + 1 => by
    have ih0 := wire_Writer_Num.mono_l k
    · intro y0 y1
      unfold wire_Writer_Num.l0
      repeat' first
      | (with_reducible exact ih0 _ _)
      | (with_reducible exact LeO.refl _)
      | (with_reducible exact LeO.none _)
      | (with_reducible refine LeO.ite ?_ ?_)
      | (with_reducible refine LeO.bind ?_ (fun _ => ?_))
      | exact ih0 _ _
      | exact LeO.none _
      | refine LeO.ite ?_ ?_
      | refine LeO.bind ?_ (fun _ => ?_)
theorem wire_Writer_Num.mono : ∀ a0 a1 k, LeO (wire_Writer_Num.f k a0 a1) (wire_Writer_Num.f (k + 1) a0 a1) := by
 intro a0 a1 k
 have ih0 := wire_Writer_Num.mono_l k
 unfold wire_Writer_Num.f
 repeat' first
   | (with_reducible exact ih0 _ _)
   | (with_reducible exact LeO.refl _)
   | (with_reducible exact LeO.none _)
   | (with_reducible refine LeO.ite ?_ ?_)
   | (with_reducible refine LeO.bind ?_ (fun _ => ?_))
   | exact ih0 _ _
   | exact LeO.none _
   | refine LeO.ite ?_ ?_
   | refine LeO.bind ?_ (fun _ => ?_)
set_option maxHeartbeats 8000000 in
set_option maxRecDepth 100000 in
theorem wire_Writer_Num.calls (k : Nat) (g : Nat) (P0_0_ : Nat → Prop) (u9000_ : Value) (l0_0 : List Int) (a1 : Int) (r : List Int) (w0 w : World) (hI : w.heap[g]? = some (.cells #[u9000_] 65 (0, 0))) (hG : w0.heap.size ≤ g) (hB : Below w0.heap.size w0 w) (ho0_0 : Kd.R (Kd.int .u8) 5 w w0.heap.size P0_0_ u9000_ l0_0) (h : wire_Writer_Num.f k l0_0 a1 = some r) :
    Calls Try.prog 11 #[.pointer (some ⟨g, 0, none⟩), .int .i64 a1] w fun e w' => ∃ v0_ : Value, e = .returned (.tuple #[]) ∧ Kd.R (Kd.int .u8) 5 w' w0.heap.size (fun k_ => (P0_0_ k_ ∨ w.heap.size ≤ k_)) v0_ r ∧ w'.heap[g]? = some (.cells #[v0_] 65 (0, 0)) ∧ Below w0.heap.size w0 w' ∧ Kept w w' (fun k_ => (P0_0_ k_) ∨ k_ = g) := by
 have HO0_0 := Goto.m0 (show Kd.R (Kd.int .u8) 5 w w0.heap.size (fun k_ => (P0_0_ k_ ∨ w.heap.size ≤ k_)) u9000_ l0_0 from Kd.R_mono ho0_0 (fun k_ hk => (.inl hk)))
 have BK0 := Goto.m0 hI
 have GE0 := Goto.m0 hG
 clear hI hG
 have HK := Goto.m0 (Kept.refl w (fun k_ => (P0_0_ k_) ∨ k_ = g))
 have HW0 := Goto.m0 hB.size
 have HB := Goto.m0 hB
 clear hB
 have H : (wire_Writer_Num.l0 k ((mn (mx a1 (-1)) 1048576) + 1) l0_0) = some r := h
 clear h
 obtain ⟨ji3, hji3⟩ : ∃ j_ : Int, (mx a1 (-1)) = j_ := ⟨_, rfl⟩
 replace H : (wire_Writer_Num.l0 k ((mn (ji3) 1048576) + 1) l0_0) = some r := by first | (rw [hji3] at H; exact H) | (simp only [hji3] at H ⊢; exact H)
 have hji3_ : (if a1 < (-1) then (-1) else a1) = ji3 := hji3
 obtain ⟨ji4, hji4⟩ : ∃ j_ : Int, (mn (ji3) 1048576) = j_ := ⟨_, rfl⟩
 (try rw [hji4] at hji3)
 (try rw [hji4] at hji3w)
 replace H : (wire_Writer_Num.l0 k ((ji4) + 1) l0_0) = some r := by first | (rw [hji4] at H; exact H) | (simp only [hji4] at H ⊢; exact H)
 have hji4_ : (if 1048576 < (ji3) then 1048576 else (ji3)) = ji4 := hji4
 have H' := Goto.m0 H
 clear H
 go_enter Try.func11, Try.ntmps11
 go_wp2_with (first | (with_reducible refine Goto.scope_enter ?_))
 rename_i K0_ hK0_
 refine Goto.label_ghost (l := 0) hK0_ (fun a0_ kq a_ w' => ∃ v1 w8_ w9_ w10_ w11_ w12_ w13_ w14_ w15_ w16_ w17_ w18_ w19_ w20_ w21_ w22_ w23_ w24_ w25_ w26_ w27_ w28_ w29_ w30_ w31_ w32_ w33_ w34_ w35_ : Value, (∃ (x1_1 : Int) (x1000_1 : List Int) (u1000 : Value), v1 = .int .i64 x1_1 ∧ Aside0 (wire_Writer_Num.l0 kq x1_1 x1000_1 = some r) ∧ Aside0 (kq ≤ k) ∧ Aside0 (Kd.R (Kd.int .u8) 5 w' w0.heap.size (fun k_ => (P0_0_ k_ ∨ w.heap.size ≤ k_)) u1000 x1000_1) ∧ Aside0 (w'.heap[g]? = some (.cells #[u1000] 65 (0, 0))) ∧ Aside0 (Kept w w' (fun k_ => (P0_0_ k_) ∨ k_ = g)) ∧ Aside0 (Below w0.heap.size w0 w')) ∧ a_ = { tmps := #[Goto.slot a0_.tmps.toList 0, v1, Goto.slot a0_.tmps.toList 2, Goto.slot a0_.tmps.toList 3, Goto.slot a0_.tmps.toList 4, Goto.slot a0_.tmps.toList 5, Goto.slot a0_.tmps.toList 6, Goto.slot a0_.tmps.toList 7, w8_, w9_, w10_, w11_, w12_, w13_, w14_, w15_, w16_, w17_, w18_, w19_, w20_, w21_, w22_, w23_, w24_, w25_, w26_, w27_, w28_, w29_, w30_, w31_, w32_, w33_, w34_, w35_], defers := a0_.defers }) k ?hfl_ ?atStart ?round
 case hfl_ => rfl
 case atStart => ((repeat apply Exists.intro); refine ⟨?_, ?fr_⟩; (case fr_ => ((try simp only [Goto.slot_zero, Goto.slot_succ]); rfl)); exact ⟨((ji4) + 1), (l0_0), (u9000_), (by first | rfl | (simp; done) | (simp only [← hji4] <;> (first | rfl | simp)) | (simp [*]; done)), H', ⟨Nat.le_refl _⟩, ⟨Goto.rk HO0_0⟩, ⟨Goto.bx BK0⟩, ⟨by repeat (first | (with_reducible first | exact HK.out | apply Kept.alloc | apply Kept.drewN | apply Kept.drew | refine Kept.setCell ?_ (.inl (.inr rfl)) _) | exact HK.out)⟩, ⟨Goto.hx HB⟩⟩)
 case round =>
  clear hK0_ K0_
  clear H'
  try clear c1; try clear p2
  intro gk _ wr hinv_
  obtain ⟨v1, w8_, w9_, w10_, w11_, w12_, w13_, w14_, w15_, w16_, w17_, w18_, w19_, w20_, w21_, w22_, w23_, w24_, w25_, w26_, w27_, w28_, w29_, w30_, w31_, w32_, w33_, w34_, w35_, hrel, ha_⟩ := hinv_
  subst ha_
  (try simp only [Goto.slot_zero, Goto.slot_succ])
  intro _ _ _ _
  obtain ⟨x1_1, x1000_1, u1000, rfl, HA, HK1, HO_1000, BK0, HK, HB⟩ := hrel
  cases gk with
  | zero => exact absurd HA.out (by simp [wire_Writer_Num.l0])
  | succ k1 =>
   have H := HA.out; clear HA
   simp only [wire_Writer_Num.l0] at H
   by_cases c5 : x1_1 ≥ 128
   ·
    rw [if_pos c5] at H
    have c5b0 : decide (128 ≤ x1_1) = true := decide_eq_true c5
    clear c5
    by_cases c6 : x1000_1.length < 140737488355328
    ·
     rw [if_pos c6] at H
     have LMc6 := Goto.m0 c6
     clear c6
     obtain ⟨y102, hy102⟩ : ∃ y_ : List Int, y_ = (x1000_1 ++ [(Go.bits .or .i64 128 (Go.bits .and .i64 x1_1 127)) % 256]) := ⟨_, rfl⟩
     replace H : (wire_Writer_Num.l0 k1 (x1_1 / 128) y102) = some r := by first | (rw [hy102]; with_reducible exact H) | (have H2_ := (Option.bind_some _ _).symm.trans H; rw [hy102]; with_reducible exact H2_) | (have H2_ := (Option.bind_some _ _).symm.trans H; with_reducible exact H2_) | with_reducible exact H | (rw [hy102]; exact H) | exact H
     have Ny102 := Goto.m0 hy102
     clear hy102
     have H' := Goto.m0 H
     clear H; have hcz7_0 := Goto.bc0 BK0; have hfz7_0 := Goto.bf BK0 0
     go_wp2_with (first | ((with_reducible refine gate_builtin (b := .append) (xs := #[.tmp 14, .tmp 19]) rfl ?_); at_builtin; refine Kd.R_append (Kd.int .u8) (w0 := w0) w0.heap.size rfl (.tmp 14) (.tmp 19) 40 5 (.int .u8 0) 1 rfl Try.underlying40 info5 rfl (by decide) (by omega) u1000 x1000_1 ((Go.bits .or .i64 128 (Go.bits .and .i64 x1_1 127)) % 256) [.int .u8 ((Go.bits .or .i64 128 (Go.bits .and .i64 x1_1 127)) % 256)] (fun k_ => (P0_0_ k_ ∨ w.heap.size ≤ k_)) (fun _ => False) rfl rfl ?aP (fun _ hk => hk.elim) ?aF ?aO ?aB ?aS ?aL ?_; (case aP => exact rfl); (case aB => exact (Goto.hx HB)); (case aF => exact (fun k_ hk => (.inr (Nat.le_trans (by first | exact HK.out.1 | exact (show Kept w _ (fun k_ => (P0_0_ k_) ∨ k_ = g) from by repeat (first | (with_reducible first | exact HK.out | apply Kept.alloc | apply Kept.drewN | apply Kept.drew | refine Kept.setCell ?_ (.inl (.inr rfl)) _) | exact HK.out)).1) hk)))); (case aO => exact (Goto.rk HO_1000)); (case aS => exact (below_size (Goto.hx HB))); (case aL => have := LMc6.out; omega); intro v103 w8 ho hb hg hat; rw [← Ny102.out] at ho; have n0_ := Goto.m0 (blk_grown (g := g) (o := .cells #[u1000] 65 (0, 0)) (Goto.bx BK0) hg (Kd.R_ne HO_1000.out BK0.out (by decide))); have n1_ := Goto.m0 (hb); have n2_ := Goto.m0 (Kept.of_grown (S := (fun k_ => (P0_0_ k_) ∨ k_ = g)) hg (by repeat (first | (with_reducible first | exact HK.out | apply Kept.alloc | apply Kept.drewN | apply Kept.drew | refine Kept.setCell ?_ (.inl (.inr rfl)) _) | exact HK.out)) (fun k_ e_ => Or.imp_left Or.inl ((HO_1000.out.1 k_ e_)))); have n3_ := Goto.m0 (ho); clear BK0; clear HB; clear HK; clear HO_1000; have BK0 := n0_; have HB := n1_; have HK := n2_; have HO104 := n3_; clear n0_ n1_ n2_ n3_; clear ho hb hg hat; obtain ⟨Ao9, co9, eo9⟩ := Kd.R_slice HO104.out; subst eo9; have hcz10_0 := Goto.bc0 BK0; have hfz10_0 := Goto.bf BK0 0) | ((with_reducible refine gate_store (t := 40) (p := 22) rfl ?_); refine store_event (t := 40) (p := 22) (v := ?vo_w11) (w1 := (w8.setCell ⟨g, 0, none⟩ (.slice Ao9 y102.length co9))) ?hg ?ho ?hn ?hr ?_; (case ho => rfl); (case hg => rfl); (case hn => rfl); (case hr => first | (go_simp; done) | (go_simp; rfl)); intro w11 hw; have n0_ : Aside0 (Kd.R (Kd.int .u8) 5 w11 w0.heap.size (fun k_ => (P0_0_ k_ ∨ w.heap.size ≤ k_)) (.slice Ao9 y102.length co9) y102) := ⟨(by rw [hw]; exact (by (with_reducible repeat (first | apply Kd.R_alloc | apply Kd.R_drewN | apply Kd.R_drew)); exact Kd.R_mono (Kd.R_far (p := ⟨g, 0, none⟩) (Kd.R_types HO104.out BK0.out (by decide)) (fun _ hk => hk.2) (.slice Ao9 y102.length co9)) (fun _ hk => hk.1)))⟩; have n1_ : Aside0 (w11.heap[g]? = some (.cells #[.slice Ao9 y102.length co9] 65 (0, 0))) := ⟨(by rw [hw]; exact (Goto.bx BK0))⟩; have n2_ : Aside0 (Kept w w11 (fun k_ => (P0_0_ k_) ∨ k_ = g)) := ⟨(by rw [hw]; exact (by repeat (first | (with_reducible first | exact HK.out | apply Kept.alloc | apply Kept.drewN | apply Kept.drew | refine Kept.setCell ?_ (.inl (.inr rfl)) _) | exact HK.out)))⟩; have n3_ : Aside0 (Below w0.heap.size w0 w11) := ⟨(by rw [hw]; exact (Goto.hx HB))⟩; clear hw; clear HO104; clear BK0; clear HK; clear HB; have HO104 := n0_; have BK0 := n1_; have HK := n2_; have HB := n3_; clear n0_ n1_ n2_ n3_) | (with_reducible refine Goto.scope_enter ?_))
     refine wp_goto ?_
     (try simp only [Exit.then, Exit.inBlock])
     refine Goto.jump_hit ?_
     go_step
     go_roundg k1
     case measure => have := HK1.out; omega
     case rel => exact ⟨(x1_1 / 128), (y102), (.slice Ao9 y102.length co9), (by first | rfl | (simp; done) | (simp [*]; done)), H', ⟨by have := HK1.out; omega⟩, ⟨Goto.rk HO104⟩, ⟨Goto.bx BK0⟩, ⟨by repeat (first | (with_reducible first | exact HK.out | apply Kept.alloc | apply Kept.drewN | apply Kept.drew | refine Kept.setCell ?_ (.inl (.inr rfl)) _) | exact HK.out)⟩, ⟨Goto.hx HB⟩⟩
    ·
     rw [if_neg c6] at H
     exact absurd H (by simp)
   ·
    rw [if_neg c5] at H
    have c5b0 : decide (128 ≤ x1_1) = false := decide_eq_false c5
    clear c5
    by_cases c12 : x1000_1.length < 140737488355328
    ·
     rw [if_pos c12] at H
     have LMc12 := Goto.m0 c12
     clear c12
     obtain ⟨y105, hy105⟩ : ∃ y_ : List Int, y_ = (x1000_1 ++ [(x1_1) % 256]) := ⟨_, rfl⟩
     replace H : (some y105) = some r := by first | (rw [hy105]; with_reducible exact H) | (have H2_ := (Option.bind_some _ _).symm.trans H; rw [hy105]; with_reducible exact H2_) | (have H2_ := (Option.bind_some _ _).symm.trans H; with_reducible exact H2_) | with_reducible exact H | (rw [hy105]; exact H) | exact H
     have Ny105 := Goto.m0 hy105
     clear hy105
     obtain rfl := Option.some.inj H
     have hcz13_0 := Goto.bc0 BK0; have hfz13_0 := Goto.bf BK0 0
     go_wp2_with (first | ((with_reducible refine gate_builtin (b := .append) (xs := #[.tmp 29, .tmp 32]) rfl ?_); at_builtin; refine Kd.R_append (Kd.int .u8) (w0 := w0) w0.heap.size rfl (.tmp 29) (.tmp 32) 40 5 (.int .u8 0) 1 rfl Try.underlying40 info5 rfl (by decide) (by omega) u1000 x1000_1 ((x1_1) % 256) [.int .u8 ((x1_1) % 256)] (fun k_ => (P0_0_ k_ ∨ w.heap.size ≤ k_)) (fun _ => False) rfl rfl ?aP (fun _ hk => hk.elim) ?aF ?aO ?aB ?aS ?aL ?_; (case aP => exact rfl); (case aB => exact (Goto.hx HB)); (case aF => exact (fun k_ hk => (.inr (Nat.le_trans (by first | exact HK.out.1 | exact (show Kept w _ (fun k_ => (P0_0_ k_) ∨ k_ = g) from by repeat (first | (with_reducible first | exact HK.out | apply Kept.alloc | apply Kept.drewN | apply Kept.drew | refine Kept.setCell ?_ (.inl (.inr rfl)) _) | exact HK.out)).1) hk)))); (case aO => exact (Goto.rk HO_1000)); (case aS => exact (below_size (Goto.hx HB))); (case aL => have := LMc12.out; omega); intro v106 w14 ho hb hg hat; rw [← Ny105.out] at ho; have n0_ := Goto.m0 (blk_grown (g := g) (o := .cells #[u1000] 65 (0, 0)) (Goto.bx BK0) hg (Kd.R_ne HO_1000.out BK0.out (by decide))); have n1_ := Goto.m0 (hb); have n2_ := Goto.m0 (Kept.of_grown (S := (fun k_ => (P0_0_ k_) ∨ k_ = g)) hg (by repeat (first | (with_reducible first | exact HK.out | apply Kept.alloc | apply Kept.drewN | apply Kept.drew | refine Kept.setCell ?_ (.inl (.inr rfl)) _) | exact HK.out)) (fun k_ e_ => Or.imp_left Or.inl ((HO_1000.out.1 k_ e_)))); have n3_ := Goto.m0 (ho); clear BK0; clear HB; clear HK; clear HO_1000; have BK0 := n0_; have HB := n1_; have HK := n2_; have HO107 := n3_; clear n0_ n1_ n2_ n3_; clear ho hb hg hat; obtain ⟨Ao15, co15, eo15⟩ := Kd.R_slice HO107.out; subst eo15; have hcz16_0 := Goto.bc0 BK0; have hfz16_0 := Goto.bf BK0 0) | ((with_reducible refine gate_store (t := 40) (p := 35) rfl ?_); refine store_event (t := 40) (p := 35) (v := ?vo_w17) (w1 := (w14.setCell ⟨g, 0, none⟩ (.slice Ao15 y105.length co15))) ?hg ?ho ?hn ?hr ?_; (case ho => rfl); (case hg => rfl); (case hn => rfl); (case hr => first | (go_simp; done) | (go_simp; rfl)); intro w17 hw; have n0_ : Aside0 (Kd.R (Kd.int .u8) 5 w17 w0.heap.size (fun k_ => (P0_0_ k_ ∨ w.heap.size ≤ k_)) (.slice Ao15 y105.length co15) y105) := ⟨(by rw [hw]; exact (by (with_reducible repeat (first | apply Kd.R_alloc | apply Kd.R_drewN | apply Kd.R_drew)); exact Kd.R_mono (Kd.R_far (p := ⟨g, 0, none⟩) (Kd.R_types HO107.out BK0.out (by decide)) (fun _ hk => hk.2) (.slice Ao15 y105.length co15)) (fun _ hk => hk.1)))⟩; have n1_ : Aside0 (w17.heap[g]? = some (.cells #[.slice Ao15 y105.length co15] 65 (0, 0))) := ⟨(by rw [hw]; exact (Goto.bx BK0))⟩; have n2_ : Aside0 (Kept w w17 (fun k_ => (P0_0_ k_) ∨ k_ = g)) := ⟨(by rw [hw]; exact (by repeat (first | (with_reducible first | exact HK.out | apply Kept.alloc | apply Kept.drewN | apply Kept.drew | refine Kept.setCell ?_ (.inl (.inr rfl)) _) | exact HK.out)))⟩; have n3_ : Aside0 (Below w0.heap.size w0 w17) := ⟨(by rw [hw]; exact (Goto.hx HB))⟩; clear hw; clear HO107; clear BK0; clear HK; clear HB; have HO107 := n0_; have BK0 := n1_; have HK := n2_; have HB := n3_; clear n0_ n1_ n2_ n3_) | (with_reducible refine Goto.scope_enter ?_))
     (try simp only [Exit.inBlock, Exit.then])
     (try refine Goto.ret_hit ?_)
     (try refine Goto.end_hit ?_)
     first | go_end0 | ((try simp only [Exit.inBlock, Exit.then]); refine bodyPost_ret (results_none rfl _ _ _) rfl ?_)
     (try simp only [← exists_and_left])
     exact ⟨_, by first | rfl | (simp [errW_none, errW_some] <;> rfl) | (simp only [← hji3, ← hji4]; first | rfl | (simp [errW_none, errW_some] <;> rfl)) | (simp [*, errW_none, errW_some] <;> rfl), Goto.rk HO107, by (with_reducible repeat first | refine blk_drewN ?_ _ | refine blk_drew ?_ | refine blk_alloc ?_ _); exact BK0.out, by repeat (first | (with_reducible first | exact HB.out | apply below_alloc | apply pw_below_drewN | apply below_drew1 | refine below_set ?_ GE0.out) | exact HB.out), by repeat (first | (with_reducible first | exact HK.out | apply Kept.alloc | apply Kept.drewN | apply Kept.drew | refine Kept.setCell ?_ (.inl (.inr rfl)) _) | exact HK.out)⟩
    ·
     rw [if_neg c12] at H
     exact absurd H (by simp)

/-! ### wire_Writer_Bits: function 12 -/
def wire_Writer_Bits.l0 : Nat → Int → Int → List Int → Option (List Int)
  | 0, _, _, _ => none
  | k + 1, x1, x4, x1000 => if x4 < 8 then (if x1000.length < 140737488355328 then (wire_Writer_Bits.l0 k (x1 / 256) (wrap64 (x4 + 1)) (x1000 ++ [(x1) % 256])) else (none)) else (some x1000)
def wire_Writer_Bits.f (k : Nat) (l0_0 : List Int) (a1 : Int) : Option (List Int) := wire_Writer_Bits.l0 k a1 0 l0_0
theorem wire_Writer_Bits.mono_l : ∀ k, (∀ y0 y1 y2, LeO (wire_Writer_Bits.l0 k y0 y1 y2) (wire_Writer_Bits.l0 (k + 1) y0 y1 y2))
  | 0 => fun _ _ _ r h => by simp [wire_Writer_Bits.l0] at h
  | k + 1 => by
    have ih0 := wire_Writer_Bits.mono_l k
    · intro y0 y1 y2
      unfold wire_Writer_Bits.l0
      repeat' first
      | (with_reducible exact ih0 _ _ _)
      | (with_reducible exact LeO.refl _)
      | (with_reducible exact LeO.none _)
      | (with_reducible refine LeO.ite ?_ ?_)
      | (with_reducible refine LeO.bind ?_ (fun _ => ?_))
      | exact ih0 _ _ _
      | exact LeO.none _
      | refine LeO.ite ?_ ?_
      | refine LeO.bind ?_ (fun _ => ?_)
theorem wire_Writer_Bits.mono : ∀ a0 a1 k, LeO (wire_Writer_Bits.f k a0 a1) (wire_Writer_Bits.f (k + 1) a0 a1) := by
 intro a0 a1 k
 have ih0 := wire_Writer_Bits.mono_l k
 unfold wire_Writer_Bits.f
 repeat' first
   | (with_reducible exact ih0 _ _ _)
   | (with_reducible exact LeO.refl _)
   | (with_reducible exact LeO.none _)
   | (with_reducible refine LeO.ite ?_ ?_)
   | (with_reducible refine LeO.bind ?_ (fun _ => ?_))
   | exact ih0 _ _ _
   | exact LeO.none _
   | refine LeO.ite ?_ ?_
   | refine LeO.bind ?_ (fun _ => ?_)
set_option maxHeartbeats 8000000 in
set_option maxRecDepth 100000 in
theorem wire_Writer_Bits.calls (k : Nat) (g : Nat) (P0_0_ : Nat → Prop) (u9000_ : Value) (l0_0 : List Int) (a1 : Int) (r : List Int) (w0 w : World) (hI : w.heap[g]? = some (.cells #[u9000_] 65 (0, 0))) (hG : w0.heap.size ≤ g) (hB : Below w0.heap.size w0 w) (ho0_0 : Kd.R (Kd.int .u8) 5 w w0.heap.size P0_0_ u9000_ l0_0) (h : wire_Writer_Bits.f k l0_0 a1 = some r) :
    Calls Try.prog 12 #[.pointer (some ⟨g, 0, none⟩), .int .u64 a1] w fun e w' => ∃ v0_ : Value, e = .returned (.tuple #[]) ∧ Kd.R (Kd.int .u8) 5 w' w0.heap.size (fun k_ => (P0_0_ k_ ∨ w.heap.size ≤ k_)) v0_ r ∧ w'.heap[g]? = some (.cells #[v0_] 65 (0, 0)) ∧ Below w0.heap.size w0 w' ∧ Kept w w' (fun k_ => (P0_0_ k_) ∨ k_ = g) := by
 have HO0_0 := Goto.m0 (show Kd.R (Kd.int .u8) 5 w w0.heap.size (fun k_ => (P0_0_ k_ ∨ w.heap.size ≤ k_)) u9000_ l0_0 from Kd.R_mono ho0_0 (fun k_ hk => (.inl hk)))
 have BK0 := Goto.m0 hI
 have GE0 := Goto.m0 hG
 clear hI hG
 have HK := Goto.m0 (Kept.refl w (fun k_ => (P0_0_ k_) ∨ k_ = g))
 have HW0 := Goto.m0 hB.size
 have HB := Goto.m0 hB
 clear hB
 have H : (wire_Writer_Bits.l0 k a1 0 l0_0) = some r := h
 clear h
 have H' := Goto.m0 H
 clear H
 go_enter Try.func12, Try.ntmps12
 go_wp2
 go_loopg [1, 4] k (fun kq v1 v4 w' => ∃ (x1_1 : Int) (x4_1 : Int) (x1000_1 : List Int) (u1000 : Value), v1 = .int .u64 x1_1 ∧ v4 = .int .i64 x4_1 ∧ Aside0 (wire_Writer_Bits.l0 kq x1_1 x4_1 x1000_1 = some r) ∧ Aside0 (kq ≤ k) ∧ Aside0 (Kd.R (Kd.int .u8) 5 w' w0.heap.size (fun k_ => (P0_0_ k_ ∨ w.heap.size ≤ k_)) u1000 x1000_1) ∧ Aside0 (w'.heap[g]? = some (.cells #[u1000] 65 (0, 0))) ∧ Aside0 (Kept w w' (fun k_ => (P0_0_ k_) ∨ k_ = g)) ∧ Aside0 (Below w0.heap.size w0 w'))
 case atStart => exact ⟨(a1), (0), (l0_0), (u9000_), (by first | rfl | (simp; done) | (simp [*]; done)), (by first | rfl | (simp; done) | (simp [*]; done)), H', ⟨Nat.le_refl _⟩, ⟨Goto.rk HO0_0⟩, ⟨Goto.bx BK0⟩, ⟨by repeat (first | (with_reducible first | exact HK.out | apply Kept.alloc | apply Kept.drewN | apply Kept.drew | refine Kept.setCell ?_ (.inl (.inr rfl)) _) | exact HK.out)⟩, ⟨Goto.hx HB⟩⟩
 case round =>
  clear H'
  try clear c1; try clear p2
  obtain ⟨x1_1, x4_1, x1000_1, u1000, rfl, rfl, HA, HK1, HO_1000, BK0, HK, HB⟩ := hrel
  cases gk with
  | zero => exact absurd HA.out (by simp [wire_Writer_Bits.l0])
  | succ k1 =>
   have H := HA.out; clear HA
   simp only [wire_Writer_Bits.l0] at H
   by_cases c3 : x4_1 < 8
   ·
    rw [if_pos c3] at H
    have c3b0 : decide (x4_1 < 8) = true := decide_eq_true c3
    clear c3
    by_cases c4 : x1000_1.length < 140737488355328
    ·
     rw [if_pos c4] at H
     have LMc4 := Goto.m0 c4
     clear c4
     obtain ⟨y108, hy108⟩ : ∃ y_ : List Int, y_ = (x1000_1 ++ [(x1_1) % 256]) := ⟨_, rfl⟩
     replace H : (wire_Writer_Bits.l0 k1 (x1_1 / 256) (wrap64 (x4_1 + 1)) y108) = some r := by first | (rw [hy108]; with_reducible exact H) | (have H2_ := (Option.bind_some _ _).symm.trans H; rw [hy108]; with_reducible exact H2_) | (have H2_ := (Option.bind_some _ _).symm.trans H; with_reducible exact H2_) | with_reducible exact H | (rw [hy108]; exact H) | exact H
     have Ny108 := Goto.m0 hy108
     clear hy108
     have H' := Goto.m0 H
     clear H; have hcz5_0 := Goto.bc0 BK0; have hfz5_0 := Goto.bf BK0 0
     go_wp2_with (first | ((with_reducible refine gate_builtin (b := .append) (xs := #[.tmp 10, .tmp 13]) rfl ?_); at_builtin; refine Kd.R_append (Kd.int .u8) (w0 := w0) w0.heap.size rfl (.tmp 10) (.tmp 13) 40 5 (.int .u8 0) 1 rfl Try.underlying40 info5 rfl (by decide) (by omega) u1000 x1000_1 ((x1_1) % 256) [.int .u8 ((x1_1) % 256)] (fun k_ => (P0_0_ k_ ∨ w.heap.size ≤ k_)) (fun _ => False) rfl rfl ?aP (fun _ hk => hk.elim) ?aF ?aO ?aB ?aS ?aL ?_; (case aP => exact rfl); (case aB => exact (Goto.hx HB)); (case aF => exact (fun k_ hk => (.inr (Nat.le_trans (by first | exact HK.out.1 | exact (show Kept w _ (fun k_ => (P0_0_ k_) ∨ k_ = g) from by repeat (first | (with_reducible first | exact HK.out | apply Kept.alloc | apply Kept.drewN | apply Kept.drew | refine Kept.setCell ?_ (.inl (.inr rfl)) _) | exact HK.out)).1) hk)))); (case aO => exact (Goto.rk HO_1000)); (case aS => exact (below_size (Goto.hx HB))); (case aL => have := LMc4.out; omega); intro v109 w6 ho hb hg hat; rw [← Ny108.out] at ho; have n0_ := Goto.m0 (blk_grown (g := g) (o := .cells #[u1000] 65 (0, 0)) (Goto.bx BK0) hg (Kd.R_ne HO_1000.out BK0.out (by decide))); have n1_ := Goto.m0 (hb); have n2_ := Goto.m0 (Kept.of_grown (S := (fun k_ => (P0_0_ k_) ∨ k_ = g)) hg (by repeat (first | (with_reducible first | exact HK.out | apply Kept.alloc | apply Kept.drewN | apply Kept.drew | refine Kept.setCell ?_ (.inl (.inr rfl)) _) | exact HK.out)) (fun k_ e_ => Or.imp_left Or.inl ((HO_1000.out.1 k_ e_)))); have n3_ := Goto.m0 (ho); clear BK0; clear HB; clear HK; clear HO_1000; have BK0 := n0_; have HB := n1_; have HK := n2_; have HO110 := n3_; clear n0_ n1_ n2_ n3_; clear ho hb hg hat; obtain ⟨Ao7, co7, eo7⟩ := Kd.R_slice HO110.out; subst eo7; have hcz8_0 := Goto.bc0 BK0; have hfz8_0 := Goto.bf BK0 0) | ((with_reducible refine gate_store (t := 40) (p := 16) rfl ?_); refine store_event (t := 40) (p := 16) (v := ?vo_w9) (w1 := (w6.setCell ⟨g, 0, none⟩ (.slice Ao7 y108.length co7))) ?hg ?ho ?hn ?hr ?_; (case ho => rfl); (case hg => rfl); (case hn => rfl); (case hr => first | (go_simp; done) | (go_simp; rfl)); intro w9 hw; have n0_ : Aside0 (Kd.R (Kd.int .u8) 5 w9 w0.heap.size (fun k_ => (P0_0_ k_ ∨ w.heap.size ≤ k_)) (.slice Ao7 y108.length co7) y108) := ⟨(by rw [hw]; exact (by (with_reducible repeat (first | apply Kd.R_alloc | apply Kd.R_drewN | apply Kd.R_drew)); exact Kd.R_mono (Kd.R_far (p := ⟨g, 0, none⟩) (Kd.R_types HO110.out BK0.out (by decide)) (fun _ hk => hk.2) (.slice Ao7 y108.length co7)) (fun _ hk => hk.1)))⟩; have n1_ : Aside0 (w9.heap[g]? = some (.cells #[.slice Ao7 y108.length co7] 65 (0, 0))) := ⟨(by rw [hw]; exact (Goto.bx BK0))⟩; have n2_ : Aside0 (Kept w w9 (fun k_ => (P0_0_ k_) ∨ k_ = g)) := ⟨(by rw [hw]; exact (by repeat (first | (with_reducible first | exact HK.out | apply Kept.alloc | apply Kept.drewN | apply Kept.drew | refine Kept.setCell ?_ (.inl (.inr rfl)) _) | exact HK.out)))⟩; have n3_ : Aside0 (Below w0.heap.size w0 w9) := ⟨(by rw [hw]; exact (Goto.hx HB))⟩; clear hw; clear HO110; clear BK0; clear HK; clear HB; have HO110 := n0_; have BK0 := n1_; have HK := n2_; have HB := n3_; clear n0_ n1_ n2_ n3_))
     go_roundg k1
     case measure => have := HK1.out; omega
     case rel => exact ⟨(x1_1 / 256), (wrap64 (x4_1 + 1)), (y108), (.slice Ao7 y108.length co7), (by first | rfl | (simp; done) | (simp [*]; done)), (by first | rfl | (simp; done) | (simp [*]; done)), H', ⟨by have := HK1.out; omega⟩, ⟨Goto.rk HO110⟩, ⟨Goto.bx BK0⟩, ⟨by repeat (first | (with_reducible first | exact HK.out | apply Kept.alloc | apply Kept.drewN | apply Kept.drew | refine Kept.setCell ?_ (.inl (.inr rfl)) _) | exact HK.out)⟩, ⟨Goto.hx HB⟩⟩
    ·
     rw [if_neg c4] at H
     exact absurd H (by simp)
   ·
    rw [if_neg c3] at H
    have c3b0 : decide (x4_1 < 8) = false := decide_eq_false c3
    clear c3
    obtain rfl := Option.some.inj H
    go_wp2
    first | go_end0 | ((try simp only [Exit.inBlock, Exit.then]); refine bodyPost_ret (results_none rfl _ _ _) rfl ?_)
    (try simp only [← exists_and_left])
    exact ⟨_, (by first | exact Goto.er | trivial), Goto.rk HO_1000, by (with_reducible repeat first | refine blk_drewN ?_ _ | refine blk_drew ?_ | refine blk_alloc ?_ _); exact BK0.out, by repeat (first | (with_reducible first | exact HB.out | apply below_alloc | apply pw_below_drewN | apply below_drew1 | refine below_set ?_ GE0.out) | exact HB.out), by repeat (first | (with_reducible first | exact HK.out | apply Kept.alloc | apply Kept.drewN | apply Kept.drew | refine Kept.setCell ?_ (.inl (.inr rfl)) _) | exact HK.out)⟩

/-! ### wire_Of: function 13 -/
def wire_Of.f (a0 : ByteArray) : Option (ByteArray × Option Int) := some (a0, none)
set_option maxHeartbeats 8000000 in
set_option maxRecDepth 100000 in
theorem wire_Of.calls (a0 : ByteArray) (r1 : ByteArray) (r2 : Option Int) (w : World) (h : wire_Of.f a0 = some (r1, r2)) :
    Calls Try.prog 13 #[.string a0] w fun e w' => ∃ g_ : Nat, e = .returned (.pointer (some ⟨g_, 0, none⟩)) ∧ w'.heap[g_]? = some (.cells #[.string r1, errW r2] 68 (0, 0)) ∧ w.heap.size ≤ g_ ∧ Below w.heap.size w w' := by
 have hu68 := Try.underlying68
 have HB := Goto.m0 (Below.refl w.heap.size w)
 have H : (some (a0, none)) = some (r1, r2) := h
 clear h
 simp only [Option.some.injEq, Prod.mk.injEq] at H
 obtain ⟨rfl, rfl⟩ := H
 go_enter Try.func13, Try.ntmps13
 go_wp2_with (first | ((with_reducible refine gate_dst (N := 5) rfl ?_); refine box_event ?hg (N := 5) ?hd (cs := #[.string a0, errW none]) (t := 68) ?hr ?_; (case hd => rfl); (case hg => rfl); (case hr => first | (go_simp; done) | (go_simp; rfl)); intro gb111 hg w2 hbox hb; have BK111 := Goto.m0 (hbox); have GW111 := Goto.gs HB hg; have GE111 := Goto.gs HB hg; replace HB := Goto.hs HB hb; clear hb hbox hg))
 go_ret
 exact ⟨_, Goto.er, by (with_reducible repeat first | refine blk_drewN ?_ _ | refine blk_drew ?_ | refine blk_alloc ?_ _); exact BK111.out, GW111.out, by repeat (first | (with_reducible first | exact HB.out | apply below_alloc | apply pw_below_drewN | apply below_drew1 | refine below_set ?_ GE111.out) | exact HB.out)⟩

/-! ### wire_Writer_String: function 14 -/
def wire_Writer_String.f (l0_0 : List Int) : Option (ByteArray × List Int) := some (strOfNums l0_0, l0_0)
set_option maxHeartbeats 8000000 in
set_option maxRecDepth 100000 in
theorem wire_Writer_String.calls (g : Nat) (P0_0_ : Nat → Prop) (u9000_ : Value) (l0_0 : List Int) (r1 : ByteArray) (r2 : List Int) (w0 w : World) (hI : w.heap[g]? = some (.cells #[u9000_] 65 (0, 0))) (hG : w0.heap.size ≤ g) (hB : Below w0.heap.size w0 w) (ho0_0 : Kd.R (Kd.int .u8) 5 w w0.heap.size P0_0_ u9000_ l0_0) (h : wire_Writer_String.f l0_0 = some (r1, r2)) :
    Calls Try.prog 14 #[.pointer (some ⟨g, 0, none⟩)] w fun e w' => e = .returned (.string r1) ∧ w'.heap[g]? = some (.cells #[u9000_] 65 (0, 0)) ∧ Kd.R (Kd.int .u8) 5 w' w0.heap.size (fun k_ => (P0_0_ k_ ∨ w.heap.size ≤ k_)) u9000_ r2 ∧ Below w0.heap.size w0 w' ∧ Kept w w' (fun k_ => (P0_0_ k_) ∨ k_ = g) := by
 have HO0_0 := Goto.m0 (show Kd.R (Kd.int .u8) 5 w w0.heap.size (fun k_ => (P0_0_ k_ ∨ w.heap.size ≤ k_)) u9000_ l0_0 from Kd.R_mono ho0_0 (fun k_ hk => (.inl hk)))
 have BK0 := Goto.m0 hI
 have GE0 := Goto.m0 hG
 clear hI hG
 have HK := Goto.m0 (Kept.refl w (fun k_ => (P0_0_ k_) ∨ k_ = g))
 have HW0 := Goto.m0 hB.size
 have HB := Goto.m0 hB
 clear hB
 have H : (some (strOfNums l0_0, l0_0)) = some (r1, r2) := h
 clear h
 simp only [Option.some.injEq, Prod.mk.injEq] at H
 obtain ⟨rfl, rfl⟩ := H
 have hcz2_0 := Goto.bc0 BK0; have hfz2_0 := Goto.bf BK0 0
 have hcv3 := own_string (P := Try.prog) Try.underlying40 Try.underlying5 Try.underlying9 (Kd.own_of_R HO0_0.out)
 go_enter Try.func14, Try.ntmps14
 go_wp2
 go_ret
 (try simp only [← exists_and_left])
 exact ⟨Goto.er, by (with_reducible repeat first | refine blk_drewN ?_ _ | refine blk_drew ?_ | refine blk_alloc ?_ _); exact BK0.out, Goto.rk HO0_0, by repeat (first | (with_reducible first | exact HB.out | apply below_alloc | apply pw_below_drewN | apply below_drew1 | refine below_set ?_ GE0.out) | exact HB.out), by repeat (first | (with_reducible first | exact HK.out | apply Kept.alloc | apply Kept.drewN | apply Kept.drew | refine Kept.setCell ?_ (.inl (.inr rfl)) _) | exact HK.out)⟩

end Go.Proofs.Ytiejhnijfgdapaa.P
