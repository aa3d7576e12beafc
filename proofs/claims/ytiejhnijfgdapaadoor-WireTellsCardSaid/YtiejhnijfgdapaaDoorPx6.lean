/- Printed by a program of this workplace (a turned copy of the kit's optional print), out of the translation; not trusted: Lean checks it. -/
import Derived.Test.YtiejhnijfgdapaaDoorPx0
namespace Go.Proofs.YtiejhnijfgdapaaDoor.P
open Go.RowKit Go.Proofs.YtiejhnijfgdapaaDoorW.PrintWords Go.Proofs.YtiejhnijfgdapaaDoorW.PrintLast Go.Proofs.YtiejhnijfgdapaaDoorW.PrintMore
attribute [local go_sem] max2_int min2_int max_two min_two max_three min_three max_four min_four   -- for this text's walks alone
set_option linter.unusedVariables false
set_option linter.unusedSimpArgs false

/-! ### tontineref1_Bits: function 11 -/
def tontineref1_Bits.l0 : Nat → Int → List Int → Int → Option (ByteArray)
  | 0, _, _, _ => none
  | k + 1, x0, x3, x4 => if x4 < 8 then (if 0 ≤ (IntKind.u64.wrap (wrap64 (8 * x4))) then (if 0 ≤ x4 then (if x4 < (x3.length : Int) then (tontineref1_Bits.l0 k x0 (x3.set (x4 : Int).toNat ((shr .u64 x0 (IntKind.u64.wrap (wrap64 (8 * x4)))) % 256)) (wrap64 (x4 + 1))) else (none)) else (none)) else (none)) else (some (strOfNums x3))
def tontineref1_Bits.f (k : Nat) (a0 : Int) : Option (ByteArray) := if 8 ≤ 281474976710656 then (tontineref1_Bits.l0 k a0 (List.replicate 8 0) 0) else (none)
theorem tontineref1_Bits.mono_l : ∀ k, (∀ y0 y1 y2, LeO (tontineref1_Bits.l0 k y0 y1 y2) (tontineref1_Bits.l0 (k + 1) y0 y1 y2))
  | 0 => fun _ _ _ r h => by simp [tontineref1_Bits.l0] at h
  | k + 1 => by
    have ih0 := tontineref1_Bits.mono_l k
    · intro y0 y1 y2
      unfold tontineref1_Bits.l0
      repeat' first
      | (with_reducible exact ih0 _ _ _)
      | (with_reducible exact LeO.refl _)
      | (with_reducible exact LeO.none _)
      | (with_reducible refine LeO.ite ?_ ?_)
      | (with_reducible refine LeO.bind ?_ (fun _ => ?_))
      | exact ih0 _ _ _
      | exact LeO.none _
      | refine LeO.ite ?_ ?_
      | refine LeO.bind ?_ (fun _ => ?_)
theorem tontineref1_Bits.mono : ∀ a0 k, LeO (tontineref1_Bits.f k a0) (tontineref1_Bits.f (k + 1) a0) := by
 intro a0 k
 have ih0 := tontineref1_Bits.mono_l k
 unfold tontineref1_Bits.f
 repeat' first
   | (with_reducible exact ih0 _ _ _)
   | (with_reducible exact LeO.refl _)
   | (with_reducible exact LeO.none _)
   | (with_reducible refine LeO.ite ?_ ?_)
   | (with_reducible refine LeO.bind ?_ (fun _ => ?_))
   | exact ih0 _ _ _
   | exact LeO.none _
   | refine LeO.ite ?_ ?_
   | refine LeO.bind ?_ (fun _ => ?_)
set_option maxHeartbeats 8000000 in
set_option maxRecDepth 100000 in
theorem tontineref1_Bits.calls (k : Nat) (a0 : Int) (r : ByteArray) (w : World) (h : tontineref1_Bits.f k a0 = some r) :
    Calls Tryd.prog 11 #[.int .u64 a0] w fun e w' => e = .returned (.string r) ∧ Below w.heap.size w w' := by
 have HB := Goto.m0 (Below.refl w.heap.size w)
 have H : (if 8 ≤ 281474976710656 then (tontineref1_Bits.l0 k a0 (List.replicate 8 0) 0) else (none)) = some r := h
 clear h
 by_cases c2 : 8 ≤ 281474976710656
 ·
  rw [if_pos c2] at H
  have c2b0 := eq_true c2
  have c2b1 : decide (8 ≤ 281474976710656) = true := decide_eq_true c2
  clear c2
  obtain ⟨y175, hy175⟩ : ∃ y_ : List Int, y_ = (List.replicate 8 0) := ⟨_, rfl⟩
  replace H : (tontineref1_Bits.l0 k a0 y175 0) = some r := by first | (rw [hy175]; with_reducible exact H) | (have H2_ := (Option.bind_some _ _).symm.trans H; rw [hy175]; with_reducible exact H2_) | (have H2_ := (Option.bind_some _ _).symm.trans H; with_reducible exact H2_) | with_reducible exact H | (rw [hy175]; exact H) | exact H
  have Ny175 := Goto.m0 hy175
  clear hy175
  have H' := Goto.m0 H
  clear H
  go_enter Tryd.func11, Tryd.ntmps11
  go_wp2_with (first | ((with_reducible refine gate_dst (N := 5) rfl ?_); refine Kd.R_make (Kd.int .u8) _ 5 rfl (N := 5) rfl 72 _ _ rfl 8 rfl rfl Tryd.underlying72 (.int .u8 0) 1 info5 rfl (by decide) (by omega) 0 (ok := fun _ => True) (okp := fun _ => True) rfl (fun _ hk => hk) trivial (by omega) (by omega) (Below.refl _ _) (Nat.le_refl _) ?_; intro v176 w3 ho4 hb hg_ hnew_; clear hg_ hnew_; (first | rw [← Ny175.out] at ho4 | (simp only [Int.reduceToNat] at ho4; rw [← Ny175.out] at ho4)); have HO177 := Goto.m0 (Kd.R_lower ho4 (below_size (Goto.hx HB))); replace HB := Goto.hs HB hb; clear hb ho4))
  go_loopg [4] k (fun kq v4 w' => ∃ (x3_1 : List Int) (x4_1 : Int), v4 = .int .i64 x4_1 ∧ Aside0 (tontineref1_Bits.l0 kq a0 x3_1 x4_1 = some r) ∧ Aside0 (kq ≤ k) ∧ Aside0 (Kd.R (Kd.int .u8) 5 w' w.heap.size (fun _ => True) v176 x3_1) ∧ Aside0 (Below w.heap.size w w'))
  case atStart => exact ⟨(y175), (0), (by first | rfl | (simp; done) | (simp [*]; done)), H', ⟨Nat.le_refl _⟩, ⟨Goto.rk HO177⟩, ⟨Goto.hx HB⟩⟩
  case round =>
   clear H'
   try clear c1; try clear c2; try clear c2b0; try clear c2b1; try clear p2
   obtain ⟨x3_1, x4_1, rfl, HA, HK1, HO_3, HB⟩ := hrel
   cases gk with
   | zero => exact absurd HA.out (by simp [tontineref1_Bits.l0])
   | succ k1 =>
    have H := HA.out; clear HA
    simp only [tontineref1_Bits.l0] at H
    by_cases c5 : x4_1 < 8
    ·
     rw [if_pos c5] at H
     have c5b0 : decide (x4_1 < 8) = true := decide_eq_true c5
     clear c5
     obtain ⟨ji6, hji6⟩ : ∃ j_ : Int, (IntKind.u64.wrap (wrap64 (8 * x4_1))) = j_ := ⟨_, rfl⟩
     replace H : (if 0 ≤ (ji6) then (if 0 ≤ x4_1 then (if x4_1 < (x3_1.length : Int) then (tontineref1_Bits.l0 k1 a0 (x3_1.set (x4_1 : Int).toNat ((shr .u64 a0 (ji6)) % 256)) (wrap64 (x4_1 + 1))) else (none)) else (none)) else (none)) = some r := by first | (rw [hji6] at H; exact H) | (simp only [hji6] at H ⊢; exact H)
     by_cases c7 : 0 ≤ (ji6)
     ·
      rw [if_pos c7] at H
      have c7b0 := eq_true c7
      have c7b1 : decide (0 ≤ (ji6)) = true := decide_eq_true c7
      clear c7
      obtain ⟨ji8, hji8⟩ : ∃ j_ : Int, (shr .u64 a0 (ji6)) = j_ := ⟨_, rfl⟩
      (try rw [hji8] at hji6)
      (try rw [hji8] at hji6w)
      replace H : (if 0 ≤ x4_1 then (if x4_1 < (x3_1.length : Int) then (tontineref1_Bits.l0 k1 a0 (x3_1.set (x4_1 : Int).toNat ((ji8) % 256)) (wrap64 (x4_1 + 1))) else (none)) else (none)) = some r := by first | (rw [hji8] at H; exact H) | (simp only [hji8] at H ⊢; exact H)
      have hji8_ : (a0 / 2 ^ min (ji6).toNat 64) = ji8 := hji8
      have hji8z : (ji6) ≤ 64 → (a0 / 2 ^ (ji6).toNat) = ji8 := shr_small hji8
      by_cases c9 : 0 ≤ x4_1
      ·
       rw [if_pos c9] at H
       have c9b0 : decide (0 ≤ x4_1) = true := decide_eq_true c9
       clear c9
       by_cases c10 : x4_1 < (x3_1.length : Int)
       ·
        rw [if_pos c10] at H
        have c10b0 : decide (x4_1 < (x3_1.length : Int)) = true := decide_eq_true c10
        clear c10
        obtain ⟨y178, hy178⟩ : ∃ y_ : List Int, y_ = (x3_1.set (x4_1 : Int).toNat ((ji8) % 256)) := ⟨_, rfl⟩
        replace H : (tontineref1_Bits.l0 k1 a0 y178 (wrap64 (x4_1 + 1))) = some r := by first | (rw [hy178]; with_reducible exact H) | (have H2_ := (Option.bind_some _ _).symm.trans H; rw [hy178]; with_reducible exact H2_) | (have H2_ := (Option.bind_some _ _).symm.trans H; with_reducible exact H2_) | with_reducible exact H | (rw [hy178]; exact H) | exact H
        have Ny178 := Goto.m0 hy178
        clear hy178
        have H' := Goto.m0 H
        clear H
        have p11 : 0 ≤ (x4_1 : Int) := Goto.od
        have q11 : (x4_1 : Int) < ((x3_1.length : Int) : Int) := Goto.od
        obtain ⟨go11, co11, eo11, gb11, gl11, cl11, HG11⟩ := Kd.R_form HO_3.out (by omega)
        (first | cases eo11 | (injection eo11 with ea_ en_ ec_; (first | subst ea_ | (injection ea_ with ea_; subst ea_)); subst ec_; clear en_))
        have GB11 := Goto.m0 gb11
        have GG11 := Goto.m0 HG11
        clear gb11 gl11 HG11
        obtain ⟨hx11_0, hf11_0⟩ := Kd.R_celln 0 HO_3.out (x4_1 : Int) p11 q11
        replace p11 := eq_true p11; replace q11 := eq_true q11
        have HP12 := Kd.R_putg HO_3.out (x4_1 : Int) ((ji8) % 256)
        go_wp2_with (first | ((with_reducible refine gate_store (t := 5) (p := 18) rfl ?_); refine store_event (t := 5) (p := 18) (v := ?vo_w13) (w1 := (wr.setCell ⟨go11, (x4_1 : Int).toNat, none⟩ (.int .u8 ((ji8) % 256)))) ?hg ?ho ?hn ?hr ?_; (case ho => rfl); (case hg => rfl); (case hn => rfl); (case hr => first | (go_simp; done) | (go_simp; rfl)); intro w13 hw; have hg : wr.grownBy w13 (some go11) := (by rw [hw]; exact HP12.2); have hp_ : Kd.R (Kd.int .u8) 5 w13 w.heap.size (fun _ => True) (.slice (some ⟨go11, 0, none⟩) x3_1.length co11) y178 := (by rw [hw, Ny178.out]; exact HP12.1); clear HP12; replace HO_3 := Goto.m0 (hp_); replace HB := Goto.m0 ((by rw [hw]; exact below_set (HB.out) GB11.out : Below w.heap.size w w13)); clear hg hw hp_))
        go_roundg k1
        case measure => have := HK1.out; omega
        case rel => exact ⟨(y178), (wrap64 (x4_1 + 1)), (by first | rfl | (simp; done) | (simp [*]; done)), H', ⟨by have := HK1.out; omega⟩, ⟨Goto.rk HO_3⟩, ⟨Goto.hx HB⟩⟩
       ·
        rw [if_neg c10] at H
        exact absurd H (by simp)
      ·
       rw [if_neg c9] at H
       exact absurd H (by simp)
     ·
      rw [if_neg c7] at H
      exact absurd H (by simp)
    ·
     rw [if_neg c5] at H
     have c5b0 : decide (x4_1 < 8) = false := decide_eq_false c5
     clear c5
     obtain rfl := Option.some.inj H
     have hcv14 := own_string (P := Tryd.prog) Tryd.underlying72 Tryd.underlying5 Tryd.underlying9 (Kd.own_of_R HO_3.out)
     go_wp2
     go_ret
     exact ⟨Goto.er, by repeat (first | (with_reducible first | exact HB.out | apply below_alloc | apply pw_below_drewN | apply below_drew1) | exact HB.out)⟩
 ·
  rw [if_neg c2] at H
  exact absurd H (by simp)

/-! ### tontineref1_Reader_fails: function 34 -/
def tontineref1_Reader_fails.f (a0_0 : ByteArray) (a0_1 : Int) (a1 : Int) : Option (ByteArray × Int) := if a0_1 = 0 then (some (a0_0, a1)) else (some (a0_0, a0_1))
set_option maxHeartbeats 8000000 in
set_option maxRecDepth 100000 in
theorem tontineref1_Reader_fails.calls (g : Nat) (a0_0 : ByteArray) (a0_1 : Int) (a1 : Int) (r1 : ByteArray) (r2 : Int) (w0 w : World) (hI : w.heap[g]? = some (.cells #[.string a0_0, .int .i64 a0_1] 36 (0, 0))) (hG : w0.heap.size ≤ g) (hB : Below w0.heap.size w0 w) (h : tontineref1_Reader_fails.f a0_0 a0_1 a1 = some (r1, r2)) :
    Calls Tryd.prog 34 #[.pointer (some ⟨g, 0, none⟩), .int .i64 a1] w fun e w' => e = .returned (.tuple #[]) ∧ w'.heap[g]? = some (.cells #[.string r1, .int .i64 r2] 36 (0, 0)) ∧ Below w0.heap.size w0 w' ∧ Kept w w' (fun k_ => (Goto.None_ k_) ∨ k_ = g) := by
 have BK0 := Goto.m0 hI
 have GE0 := Goto.m0 hG
 clear hI hG
 have HK := Goto.m0 (Kept.refl w (fun k_ => (Goto.None_ k_) ∨ k_ = g))
 have HW0 := Goto.m0 hB.size
 have HB := Goto.m0 hB
 clear hB
 have H : (if a0_1 = 0 then (some (a0_0, a1)) else (some (a0_0, a0_1))) = some (r1, r2) := h
 clear h
 by_cases c3 : a0_1 = 0
 ·
  rw [if_pos c3] at H
  have c3b0 : (a0_1 == 0) = true := beq_iff_eq.mpr c3
  have c3b1 : (a0_1 != 0) = false := bne_eq_false_iff_eq.mpr c3
  clear c3
  simp only [Option.some.injEq, Prod.mk.injEq] at H
  obtain ⟨rfl, rfl⟩ := H
  have hcz4_0 := Goto.bc0 BK0; have hcz4_1 := Goto.bc1 BK0; have hfz4_0 := Goto.bf BK0 0; have hfz4_1 := Goto.bf BK0 1
  go_enter Tryd.func34, Tryd.ntmps34
  go_wp2_with (first | ((with_reducible refine gate_store (t := 3) (p := 12) rfl ?_); refine store_event (t := 3) (p := 12) (v := ?vo_w5) (w1 := (w.setCell ⟨g, 1, none⟩ (.int .i64 a1))) ?hg ?ho ?hn ?hr ?_; (case ho => rfl); (case hg => rfl); (case hn => rfl); (case hr => first | (go_simp; done) | (go_simp; rfl)); intro w5 hw; have n0_ : Aside0 (w5.heap[g]? = some (.cells #[.string a0_0, .int .i64 a1] 36 (0, 0))) := ⟨(by rw [hw]; exact (Goto.bx BK0))⟩; have n1_ : Aside0 (Kept w w5 (fun k_ => (Goto.None_ k_) ∨ k_ = g)) := ⟨(by rw [hw]; exact (by repeat (first | (with_reducible first | exact HK.out | apply Kept.alloc | apply Kept.drewN | apply Kept.drew | refine Kept.setCell ?_ (.inl (.inr rfl)) _) | exact HK.out)))⟩; have n2_ : Aside0 (Below w0.heap.size w0 w5) := ⟨(by rw [hw]; exact (Goto.hx HB))⟩; clear hw; clear BK0; clear HK; clear HB; have BK0 := n0_; have HK := n1_; have HB := n2_; clear n0_ n1_ n2_))
  first | go_end0 | ((try simp only [Exit.inBlock, Exit.then]); refine bodyPost_ret (results_none rfl _ _ _) rfl ?_)
  (try simp only [← exists_and_left])
  exact ⟨(by first | exact Goto.er | trivial), by (with_reducible repeat first | refine blk_drewN ?_ _ | refine blk_drew ?_ | refine blk_alloc ?_ _); exact BK0.out, by repeat (first | (with_reducible first | exact HB.out | apply below_alloc | apply pw_below_drewN | apply below_drew1 | refine below_set ?_ GE0.out) | exact HB.out), by repeat (first | (with_reducible first | exact HK.out | apply Kept.alloc | apply Kept.drewN | apply Kept.drew | refine Kept.setCell ?_ (.inl (.inr rfl)) _) | exact HK.out)⟩
 ·
  rw [if_neg c3] at H
  have c3b0 : (a0_1 == 0) = false := beq_eq_false_iff_ne.mpr c3
  have c3b1 : (a0_1 != 0) = true := bne_iff_ne.mpr c3
  simp only [Option.some.injEq, Prod.mk.injEq] at H
  obtain ⟨rfl, rfl⟩ := H
  have hcz6_0 := Goto.bc0 BK0; have hcz6_1 := Goto.bc1 BK0; have hfz6_0 := Goto.bf BK0 0; have hfz6_1 := Goto.bf BK0 1
  go_enter Tryd.func34, Tryd.ntmps34
  go_wp2
  first | go_end0 | ((try simp only [Exit.inBlock, Exit.then]); refine bodyPost_ret (results_none rfl _ _ _) rfl ?_)
  (try simp only [← exists_and_left])
  exact ⟨(by first | exact Goto.er | trivial), by (with_reducible repeat first | refine blk_drewN ?_ _ | refine blk_drew ?_ | refine blk_alloc ?_ _); exact BK0.out, by repeat (first | (with_reducible first | exact HB.out | apply below_alloc | apply pw_below_drewN | apply below_drew1 | refine below_set ?_ GE0.out) | exact HB.out), by repeat (first | (with_reducible first | exact HK.out | apply Kept.alloc | apply Kept.drewN | apply Kept.drew | refine Kept.setCell ?_ (.inl (.inr rfl)) _) | exact HK.out)⟩

end Go.Proofs.YtiejhnijfgdapaaDoor.P
