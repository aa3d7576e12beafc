/- Printed by a program of this workplace (a turned copy of the kit's optional print), out of the translation; not trusted: Lean checks it. -/
import Derived.Test.YtnnkmkejcmdjpaaPx0
import Derived.Test.YtnnkmkejcmdjpaaPx4
namespace Go.Proofs.Ytnnkmkejcmdjpaa.P
open Go.RowKit Go.Proofs.YtnnkmkejcmdjpaaW.PrintWords Go.Proofs.YtnnkmkejcmdjpaaW.PrintLast Go.Proofs.YtnnkmkejcmdjpaaW.PrintMore
attribute [local go_sem] max2_int min2_int max_two min_two max_three min_three max_four min_four   -- for this text's walks alone
set_option linter.unusedVariables false
set_option linter.unusedSimpArgs false

/-! ### low_high: function 30 -/
def low_high.f (a0_0 : Int) (a0_1 : Int) (l0_2 : List (List Int)) (l0_3 : List (S46)) (a1 : Int) (a2_0 : Int) (a2_1 : Int) : Option (Bool) := if 0 ≤ a1 then (if a1 < (l0_3.length : Int) then ((label_Leq.f ((rd_T46 l0_3 a1).f0.f0) ((rd_T46 l0_3 a1).f0.f1) a2_0 a2_1).bind fun t223 => (some (!t223))) else (none)) else (none)
def low_high.T1 : Bool × List (List Nat × List Nat) := (true, [([], []), ([0], [0]), ([], []), ([1, 2], [1, 2]), ([3], [3]), ([4], [4]), ([], []), ([5, 6], [5, 6]), ([7], [7]), ([8, 7, 0, 1, 2, 3, 4, 5, 6, 7, 8], [8])])
def low_high.B1 : List Nat := [0, 1, 0, 7, 15, 31, 0, 127, 255, 511]
theorem low_high.tab1 : rtab .any (opsOf Try.f30 1) = low_high.T1 := by kernel_rfl
theorem low_high.bits1 : waitsOk low_high.T1.2 low_high.B1 = true := by kernel_rfl
set_option maxHeartbeats 8000000 in
set_option maxRecDepth 100000 in
theorem low_high.calls (a0_0 : Int) (a0_1 : Int) (A0_2 : Option Addr) (c0_2 : Nat) (l0_2 : List (List Int)) (A0_3 : Option Addr) (c0_3 : Nat) (l0_3 : List (S46)) (a1 : Int) (a2_0 : Int) (a2_1 : Int) (r : Bool) (w : World) (hr0_2 : Kd.C (Kd.slice 3 (Kd.int .i64)) w A0_2 l0_2.length l0_2) (hc0_2 : l0_2.length ≤ c0_2) (hr0_3 : Kd.C k46 w A0_3 l0_3.length l0_3) (hc0_3 : l0_3.length ≤ c0_3) (h : low_high.f a0_0 a0_1 l0_2 l0_3 a1 a2_0 a2_1 = some r) :
    Calls Try.prog 30 #[.agg #[.int .i64 a0_0, .int .i64 a0_1, .slice A0_2 l0_2.length c0_2, .slice A0_3 l0_3.length c0_3], .int .i64 a1, .agg #[.int .i64 a2_0, .int .u64 a2_1]] w fun e w' => e = .returned (.bool r) ∧ Below w.heap.size w w' := by
 have hu25 := Try.underlying25; have hu32 := Try.underlying32
 have HR0_2 := Goto.m0 hr0_2
 have HC0_2 := Goto.m0 hc0_2
 clear hr0_2 hc0_2
 have HR0_3 := Goto.m0 hr0_3
 have HC0_3 := Goto.m0 hc0_3
 clear hr0_3 hc0_3
 have HB := Goto.m0 (Below.refl w.heap.size w)
 have H : (if 0 ≤ a1 then (if a1 < (l0_3.length : Int) then ((label_Leq.f ((rd_T46 l0_3 a1).f0.f0) ((rd_T46 l0_3 a1).f0.f1) a2_0 a2_1).bind fun t223 => (some (!t223))) else (none)) else (none)) = some r := h
 clear h
 by_cases c4 : 0 ≤ a1
 ·
  rw [if_pos c4] at H
  have c4b0 : decide (0 ≤ a1) = true := decide_eq_true c4
  clear c4
  by_cases c5 : a1 < (l0_3.length : Int)
  ·
   rw [if_pos c5] at H
   have c5b0 : decide (a1 < (l0_3.length : Int)) = true := decide_eq_true c5
   clear c5
   replace H := Option.bind_eq_some_iff.mp H
   obtain ⟨t223, A60, H⟩ := H
   have A6 := Goto.m0 A60
   clear A60
   obtain rfl := Option.some.inj H
   go_enter Try.func30, Try.ntmps30
   try go_wp2_with (first | ((with_reducible refine gate_dst (N := 3) rfl ?_); refine box_event ?hg (N := 3) ?hd (cs := #[.int .i64 a0_0, .int .i64 a0_1, .slice A0_2 l0_2.length c0_2, .slice A0_3 l0_3.length c0_3]) (t := 25) ?hr ?_; (case hd => rfl); (case hg => rfl); (case hr => first | (go_simp; done) | (go_simp; rfl)); intro gb220 hg w7 hbox hb; have BK220 := Goto.m0 (hbox); have GW220 := Goto.gs HB hg; have GE220 := Goto.gs HB hg; replace HB := Goto.hs HB hb; clear hb hbox hg) | ((with_reducible refine gate_dst (N := 5) rfl ?_); refine box_event ?hg (N := 5) ?hd (cs := #[.int .i64 a2_0, .int .u64 a2_1]) (t := 32) ?hr ?_; (case hd => rfl); (case hg => rfl); (case hr => first | (go_simp; done) | (go_simp; rfl)); intro gb221 hg w8 hbox hb; have BK221 := Goto.m0 (hbox); have GW221 := Goto.gs HB hg; have GE221 := Goto.gs HB hg; have NB220_221 := Goto.nl BK220 hg; have NB221_220 := Goto.nr BK220 hg; replace BK220 := Goto.bb BK220 hb; replace HB := Goto.hs HB hb; clear hb hbox hg))
   replace BK220 := Goto.m0 (blk_drew BK220.out); replace BK221 := Goto.m0 (blk_drew BK221.out); replace HB := Goto.m0 (below_drew1 HB.out)
   have p222 : 0 ≤ (a1 : Int) := Goto.od
   have q222 : a1 < (l0_3.length : Int) := Goto.od
   obtain ⟨ad222, A222_2, c222_2, A222_3, c222_3, e222, hx222_0, hx222_1, hx222_2, hx222_3, hx222_4, hx222_5, hx222_6, hx222_7, hx222_8, hx222_9, hl222_2, hi222_2, hl222_3, hi222_3⟩ := at_T46 HR0_3.out a1 p222 q222
   have hw222_9 := hx222_9; have hw222_8 := hx222_8; have hw222_7 := hx222_7; have hw222_6 := hx222_6; have hw222_5 := hx222_5; have hw222_4 := hx222_4; have hw222_3 := hx222_3; have hw222_2 := hx222_2; have hw222_1 := hx222_1; have hw222_0 := hx222_0
   cases e222
   replace hx222_0 := Goto.kc HB.out hx222_0
   replace hx222_1 := Goto.kc HB.out hx222_1
   replace hx222_2 := Goto.kc HB.out hx222_2
   replace hx222_3 := Goto.kc HB.out hx222_3
   replace hx222_4 := Goto.kc HB.out hx222_4
   replace hx222_5 := Goto.kc HB.out hx222_5
   replace hx222_6 := Goto.kc HB.out hx222_6
   replace hx222_7 := Goto.kc HB.out hx222_7
   replace hx222_8 := Goto.kc HB.out hx222_8
   replace hx222_9 := Goto.kc HB.out hx222_9
   have HR222_2 := Goto.m0 hi222_2
   have HC222_2 := Goto.m0 hl222_2
   clear hi222_2 hl222_2
   have HR222_3 := Goto.m0 hi222_3
   have HC222_3 := Goto.m0 hl222_3
   clear hi222_3 hl222_3; replace p222 := eq_true p222; replace q222 := eq_true q222
   refine start_ (n := 10) (S := fun w' => w'.cell? ⟨gb220, 0, none⟩ = some (.int .i64 a0_0) ∧ w'.cell? ⟨gb220, 1, none⟩ = some (.int .i64 a0_1) ∧ w'.cell? ⟨gb220, 2, none⟩ = some (.slice A0_2 l0_2.length c0_2) ∧ w'.cell? ⟨gb220, 3, none⟩ = some (.slice (some ad222) l0_3.length c0_3) ∧ w'.cell? ⟨gb221, 0, none⟩ = some (.int .i64 a2_0) ∧ w'.cell? ⟨gb221, 1, none⟩ = some (.int .u64 a2_1) ∧ w'.cell? (ad222.add ((a1).toNat * 10)) = some (.int .i64 ((rd_T46 l0_3 a1).f0.f0)) ∧ w'.cell? ⟨(ad222.add ((a1).toNat * 10)).block, (ad222.add ((a1).toNat * 10)).off + 1, none⟩ = some (.int .u64 ((rd_T46 l0_3 a1).f0.f1)) ∧ w'.cell? ⟨(ad222.add ((a1).toNat * 10)).block, (ad222.add ((a1).toNat * 10)).off + 2, none⟩ = some (.slice A222_2 ((rd_T46 l0_3 a1).f1).length c222_2) ∧ w'.cell? ⟨(ad222.add ((a1).toNat * 10)).block, (ad222.add ((a1).toNat * 10)).off + 3, none⟩ = some (.slice A222_3 ((rd_T46 l0_3 a1).f2).length c222_3) ∧ w'.cell? ⟨(ad222.add ((a1).toNat * 10)).block, (ad222.add ((a1).toNat * 10)).off + 4, none⟩ = some (.int .i64 ((rd_T46 l0_3 a1).f3)) ∧ w'.cell? ⟨(ad222.add ((a1).toNat * 10)).block, (ad222.add ((a1).toNat * 10)).off + 5, none⟩ = some (.int .i64 ((rd_T46 l0_3 a1).f4)) ∧ w'.cell? ⟨(ad222.add ((a1).toNat * 10)).block, (ad222.add ((a1).toNat * 10)).off + 6, none⟩ = some (.int .i64 ((rd_T46 l0_3 a1).f5)) ∧ w'.cell? ⟨(ad222.add ((a1).toNat * 10)).block, (ad222.add ((a1).toNat * 10)).off + 7, none⟩ = some (.int .i64 ((rd_T46 l0_3 a1).f6)) ∧ w'.cell? ⟨(ad222.add ((a1).toNat * 10)).block, (ad222.add ((a1).toNat * 10)).off + 8, none⟩ = some (.int .i64 ((rd_T46 l0_3 a1).f7)) ∧ w'.cell? ⟨(ad222.add ((a1).toNat * 10)).block, (ad222.add ((a1).toNat * 10)).off + 9, none⟩ = some (.int .i64 ((rd_T46 l0_3 a1).f8))) (ds := []) (.replicate 10 false) (by kernel_rfl) rfl rfl ⟨(blk_cell BK220.out 0).trans rfl, (blk_cell BK220.out 1).trans rfl, (blk_cell BK220.out 2).trans rfl, (blk_cell BK220.out 3).trans rfl, (blk_cell BK221.out 0).trans rfl, (blk_cell BK221.out 1).trans rfl, (Goto.kc HB.out hw222_0), (Goto.kc HB.out hw222_1), (Goto.kc HB.out hw222_2), (Goto.kc HB.out hw222_3), (Goto.kc HB.out hw222_4), (Goto.kc HB.out hw222_5), (Goto.kc HB.out hw222_6), (Goto.kc HB.out hw222_7), (Goto.kc HB.out hw222_8), (Goto.kc HB.out hw222_9)⟩ (fun hHeld => ?_); refine with_tabW low_high.tab1 low_high.bits1 (fun HT_ HW_ => ?_)
   generalize w8.drew = w9 at BK220 BK221 HB HR222_2 HR222_3 hx222_0 hx222_1 hx222_2 hx222_3 hx222_4 hx222_5 hx222_6 hx222_7 hx222_8 hx222_9 hHeld ⊢
   refine Goto.pu 0 7 10 1 ?_
   refine Goto.pu 2 9 10 5 ?_
   refine take_ (i := 1) (N := some 8) (v := ?_) (a' := ?_) (Goto.bs 10 7) rfl rfl (take_ofW HT_.out HW_.out (by kernel_rfl)) (fun _ _ _ h => h) (Or.inl ⟨by rfl, ?_⟩) hHeld ?_ ?_
   rotate_left
   ·
    rintro w' ⟨s0, s1, s2, s3, s4, s5, s6, s7, s8, s9, s10, s11, s12, s13, s14, s15⟩
    go_simp
    with_reducible rfl
   rotate_left
   ·
    exact Goto.ap
   refine Goto.pu 3 10 10 15 ?_
   refine Goto.pu 4 11 10 31 ?_
   refine take_ (i := 5) (N := some 12) (v := ?_) (a' := ?_) (Goto.bs 10 63) rfl rfl (take_ofW HT_.out HW_.out (by kernel_rfl)) (fun _ _ _ h => h) (Or.inl ⟨by rfl, ?_⟩) hHeld ?_ ?_
   rotate_left
   ·
    rintro w' ⟨s0, s1, s2, s3, s4, s5, s6, s7, s8, s9, s10, s11, s12, s13, s14, s15⟩
    go_simp
    with_reducible rfl
   rotate_left
   ·
    exact Goto.ap
   refine take_ (i := 6) (N := some 13) (v := ?_) (a' := ?_) (Goto.bs 10 127) rfl rfl (take_ofW HT_.out HW_.out (by kernel_rfl)) (fun _ _ _ h => h) (Or.inl ⟨by rfl, ?_⟩) hHeld ?_ ?_
   rotate_left
   ·
    rintro w' ⟨s0, s1, s2, s3, s4, s5, s6, s7, s8, s9, s10, s11, s12, s13, s14, s15⟩
    go_simp
    with_reducible rfl
   rotate_left
   ·
    exact Goto.ap
   refine one_ (i := 7) (N := some 14) (Goto.bs 10 255) rfl rfl (one_of HT_.out (by kernel_rfl)) (by decide) (fun K hK => ?_)
   refine goes_ Try.func44 (by kernel_rfl) rfl #[.agg #[.int .i64 ((rd_T46 l0_3 a1).f0.f0), .int .u64 ((rd_T46 l0_3 a1).f0.f1)], .agg #[.int .i64 a2_0, .int .u64 a2_1]] (by rfl) rfl rfl (by (try simp only [List.map_toArray, List.map_cons, List.map_nil]); first | done | rfl | (simp only [List.length_drop, List.length_take]; rfl)) ?_
   with_reducible refine (label_Leq.calls ((rd_T46 l0_3 a1).f0.f0) ((rd_T46 l0_3 a1).f0.f1) a2_0 a2_1 t223 _ A6.out).mono ?_
   rintro e w10 ⟨rfl, hb⟩
   refine ⟨_, rfl, ?_⟩
   replace BK220 := Goto.bb BK220 hb; replace BK221 := Goto.bb BK221 hb; replace HB := Goto.hs HB hb
   (try clear hb)
   (try clear hb2)
   (try clear hk)
   (try clear hi)
   refine hK.out _ _ ⟨(blk_cell BK220.out 0).trans rfl, (blk_cell BK220.out 1).trans rfl, (blk_cell BK220.out 2).trans rfl, (blk_cell BK220.out 3).trans rfl, (blk_cell BK221.out 0).trans rfl, (blk_cell BK221.out 1).trans rfl, (Goto.kc HB.out hw222_0), (Goto.kc HB.out hw222_1), (Goto.kc HB.out hw222_2), (Goto.kc HB.out hw222_3), (Goto.kc HB.out hw222_4), (Goto.kc HB.out hw222_5), (Goto.kc HB.out hw222_6), (Goto.kc HB.out hw222_7), (Goto.kc HB.out hw222_8), (Goto.kc HB.out hw222_9)⟩ (fun hHeld => ?_)
   clear hK K
   refine norm_ (a' := ?_) ?_ ?_
   rotate_left
   ·
    show Act.put _ (some 14) _ = _
    exact Goto.ap
   refine Goto.pu 8 15 10 511 ?_
   refine Goto.pu 9 6 10 1023 ?_
   refine done_ (done_of HT_.out (by kernel_rfl)) ?_
   try go_wp2
   go_ret
   exact ⟨Goto.er, by repeat (first | (with_reducible first | exact HB.out | apply below_alloc | apply pw_below_drewN | apply below_drew1 | refine below_set ?_ GE220.out | refine below_set ?_ GE221.out) | exact HB.out)⟩
  ·
   rw [if_neg c5] at H
   exact absurd H (by simp)
 ·
  rw [if_neg c4] at H
  exact absurd H (by simp)

end Go.Proofs.Ytnnkmkejcmdjpaa.P
