/- Printed by a program of this workplace (a turned copy of the kit's optional print), out of the translation; not trusted: Lean checks it. -/
import Derived.Test.YtjgdcifbhmjinaaDoorPx0
import Derived.Test.YtjgdcifbhmjinaaDoorPx2
import Derived.Test.YtjgdcifbhmjinaaDoorPx3
namespace Go.Proofs.YtjgdcifbhmjinaaDoor.P
open Go.RowKit Go.Proofs.YtjgdcifbhmjinaaDoorW.PrintWords Go.Proofs.YtjgdcifbhmjinaaDoorW.PrintLast Go.Proofs.YtjgdcifbhmjinaaDoorW.PrintMore
attribute [local go_sem] max2_int min2_int max_two min_two max_three min_three max_four min_four   -- for this text's walks alone
set_option linter.unusedVariables false
set_option linter.unusedSimpArgs false

/-! ### conf_rises: function 40 -/
def conf_rises.l0 : Nat → List Int → List (S38) → Int → Int → Int → List (List Int) → List (S40) → Option (Bool)
  | 0, _, _, _, _, _, _, _ => none
  | k + 1, x2, x7, x8, x137000, x137001, x137002, x137003 => if x8 = (x2.length : Int) then (if x8 > 0 then ((label_Chain.f k x7).bind fun t141 => (some t141)) else (some false)) else (if 0 ≤ x8 then (if x8 < (x2.length : Int) then ((conf_within.f (rd x2 x8) 0 (wrap64 ((x137003.length : Int) - 1))).bind fun t143 => (if t143 = true then (if 0 ≤ (rd x2 x8) then (if (rd x2 x8) < (x137003.length : Int) then (if x7.length < 8796093022208 then (conf_rises.l0 k x2 (x7 ++ [(⟨(rd_T40 x137003 (rd x2 x8)).f0.f0, (rd_T40 x137003 (rd x2 x8)).f0.f1⟩ : S38)]) (wrap64 (x8 + 1)) x137000 x137001 x137002 x137003) else (none)) else (none)) else (none)) else (some false))) else (none)) else (none))
def conf_rises.f (k : Nat) (a0_0 : Int) (a0_1 : Int) (l0_2 : List (List Int)) (l0_3 : List (S40)) (a1_0 : Int) (a1_1 : Int) (l1_2 : List (List Int)) (l1_3 : List Int) (a1_4 : Int) (a1_5 : Int) (a1_6 : Int) (a1_7 : Int) (a1_8 : Int) (a1_9 : Int) (l2 : List Int) : Option (Bool) := conf_rises.l0 k l2 (([(⟨a1_0, a1_1⟩ : S38)] : List (S38))) 0 a0_0 a0_1 l0_2 l0_3
def conf_rises.T5 : Bool × List (List Nat × List Nat) := (true, [([], []), ([], []), ([0, 1], [0, 1]), ([2], [2]), ([], []), ([4], [4]), ([5], [5]), ([6], [6]), ([3, 7], [3, 7]), ([8], [8])])
def conf_rises.B5 : List Nat := [0, 0, 3, 7, 0, 16, 48, 112, 255, 511]
theorem conf_rises.tab5 : rtab .any (opsOf Tryd.f40 5) = conf_rises.T5 := by kernel_rfl
theorem conf_rises.bits5 : waitsOk conf_rises.T5.2 conf_rises.B5 = true := by kernel_rfl
def conf_rises.T7 : Bool × List (List Nat × List Nat) := (true, [([], []), ([], []), ([1], [1]), ([], []), ([], []), ([3, 4], [3, 4]), ([5], [5]), ([2, 6], [2, 6]), ([7], [7]), ([8], [8]), ([9], [9]), ([0, 10], [0, 10]), ([11, 11, 0, 1, 2, 3, 4, 5, 6, 7, 8, 9, 10, 11], [0, 11])])
def conf_rises.B7 : List Nat := [0, 0, 2, 0, 0, 24, 56, 126, 254, 510, 1022, 2047, 4095]
theorem conf_rises.tab7 : rtab .any (opsOf Tryd.f40 7) = conf_rises.T7 := by kernel_rfl
theorem conf_rises.bits7 : waitsOk conf_rises.T7.2 conf_rises.B7 = true := by kernel_rfl
set_option maxHeartbeats 8000000 in
set_option maxRecDepth 100000 in
theorem conf_rises.calls (k : Nat) (a0_0 : Int) (a0_1 : Int) (A0_2 : Option Addr) (c0_2 : Nat) (l0_2 : List (List Int)) (A0_3 : Option Addr) (c0_3 : Nat) (l0_3 : List (S40)) (a1_0 : Int) (a1_1 : Int) (A1_2 : Option Addr) (c1_2 : Nat) (l1_2 : List (List Int)) (A1_3 : Option Addr) (c1_3 : Nat) (l1_3 : List Int) (a1_4 : Int) (a1_5 : Int) (a1_6 : Int) (a1_7 : Int) (a1_8 : Int) (a1_9 : Int) (A2 : Option Addr) (c2 : Nat) (l2 : List Int) (r : Bool) (w : World) (hr0_2 : Kd.C (Kd.slice 3 (Kd.int .i64)) w A0_2 l0_2.length l0_2) (hc0_2 : l0_2.length ≤ c0_2) (hr0_3 : Kd.C k40 w A0_3 l0_3.length l0_3) (hc0_3 : l0_3.length ≤ c0_3) (hr1_2 : Kd.C (Kd.slice 3 (Kd.int .i64)) w A1_2 l1_2.length l1_2) (hc1_2 : l1_2.length ≤ c1_2) (hr1_3 : Kd.C (Kd.int .i64) w A1_3 l1_3.length l1_3) (hc1_3 : l1_3.length ≤ c1_3) (hr2 : Kd.C (Kd.int .i64) w A2 l2.length l2) (hc2 : l2.length ≤ c2) (h : conf_rises.f k a0_0 a0_1 l0_2 l0_3 a1_0 a1_1 l1_2 l1_3 a1_4 a1_5 a1_6 a1_7 a1_8 a1_9 l2 = some r) :
    Calls Tryd.prog 40 #[.agg #[.int .i64 a0_0, .int .i64 a0_1, .slice A0_2 l0_2.length c0_2, .slice A0_3 l0_3.length c0_3], .agg #[.int .i64 a1_0, .int .u64 a1_1, .slice A1_2 l1_2.length c1_2, .slice A1_3 l1_3.length c1_3, .int .i64 a1_4, .int .i64 a1_5, .int .i64 a1_6, .int .i64 a1_7, .int .i64 a1_8, .int .i64 a1_9], .slice A2 l2.length c2] w fun e w' => e = .returned (.bool r) ∧ Below w.heap.size w w' := by
 have hu25 := Tryd.underlying25; have hu40 := Tryd.underlying40; have hu38 := Tryd.underlying38
 have HR0_2 := Goto.m0 hr0_2
 have HC0_2 := Goto.m0 hc0_2
 clear hr0_2 hc0_2
 have HR0_3 := Goto.m0 hr0_3
 have HC0_3 := Goto.m0 hc0_3
 clear hr0_3 hc0_3
 have HR1_2 := Goto.m0 hr1_2
 have HC1_2 := Goto.m0 hc1_2
 clear hr1_2 hc1_2
 have HR1_3 := Goto.m0 hr1_3
 have HC1_3 := Goto.m0 hc1_3
 clear hr1_3 hc1_3
 have HR2 := Goto.m0 hr2
 have HC2 := Goto.m0 hc2
 clear hr2 hc2
 have HB := Goto.m0 (Below.refl w.heap.size w)
 have H : (conf_rises.l0 k l2 (([(⟨a1_0, a1_1⟩ : S38)] : List (S38))) 0 a0_0 a0_1 l0_2 l0_3) = some r := h
 clear h
 obtain ⟨y138, hy138⟩ : ∃ y_ : List (S38), y_ = (([(⟨a1_0, a1_1⟩ : S38)] : List (S38))) := ⟨_, rfl⟩
 replace H : (conf_rises.l0 k l2 y138 0 a0_0 a0_1 l0_2 l0_3) = some r := by first | (rw [hy138]; with_reducible exact H) | (have H2_ := (Option.bind_some _ _).symm.trans H; rw [hy138]; with_reducible exact H2_) | (have H2_ := (Option.bind_some _ _).symm.trans H; with_reducible exact H2_) | with_reducible exact H | (rw [hy138]; exact H) | exact H
 have Ny138 := Goto.m0 hy138
 clear hy138
 have H' := Goto.m0 H
 clear H
 go_enter Tryd.func40, Tryd.ntmps40
 go_wp2_with (first | ((with_reducible refine gate_dst (N := 3) rfl ?_); refine box_event ?hg (N := 3) ?hd (cs := #[.int .i64 a0_0, .int .i64 a0_1, .slice A0_2 l0_2.length c0_2, .slice A0_3 l0_3.length c0_3]) (t := 25) ?hr ?_; (case hd => rfl); (case hg => rfl); (case hr => first | (go_simp; done) | (go_simp; rfl)); intro gb136 hg w4 hbox hb; have BK136 := Goto.m0 (hbox); have GW136 := Goto.gs HB hg; have GE136 := Goto.gs HB hg; replace HB := Goto.hs HB hb; clear hb hbox hg) | ((with_reducible refine gate_dst (N := 4) rfl ?_); refine box_event ?hg (N := 4) ?hd (cs := #[.int .i64 a1_0, .int .u64 a1_1, .slice A1_2 l1_2.length c1_2, .slice A1_3 l1_3.length c1_3, .int .i64 a1_4, .int .i64 a1_5, .int .i64 a1_6, .int .i64 a1_7, .int .i64 a1_8, .int .i64 a1_9]) (t := 40) ?hr ?_; (case hd => rfl); (case hg => rfl); (case hr => first | (go_simp; done) | (go_simp; rfl)); intro gb137 hg w5 hbox hb; have BK137 := Goto.m0 (hbox); have GW137 := Goto.gs HB hg; have GE137 := Goto.gs HB hg; have NB136_137 := Goto.nl BK136 hg; have NB137_136 := Goto.nr BK136 hg; replace BK136 := Goto.bb BK136 hb; replace HB := Goto.hs HB hb; clear hb hbox hg; have hnb6 := NB137_136.out; have hnc6 := NB136_137.out; have hcz7_0 := Goto.bc0 BK137; have hcz7_1 := Goto.bc1 BK137; have hcz7_2 := Goto.bc2 BK137; have hcz7_3 := Goto.bc3 BK137; have hcz7_4 := Goto.bc4 BK137; have hcz7_5 := Goto.bc5 BK137; have hcz7_6 := Goto.bc6 BK137; have hcz7_7 := Goto.bc7 BK137; have hcz7_8 := Goto.bc8 BK137; have hcz7_9 := Goto.bc9 BK137; have hfz7_0 := Goto.bf BK137 0; have hfz7_1 := Goto.bf BK137 1; have hfz7_2 := Goto.bf BK137 2; have hfz7_3 := Goto.bf BK137 3; have hfz7_4 := Goto.bf BK137 4; have hfz7_5 := Goto.bf BK137 5; have hfz7_6 := Goto.bf BK137 6; have hfz7_7 := Goto.bf BK137 7; have hfz7_8 := Goto.bf BK137 8; have hfz7_9 := Goto.bf BK137 9) | ((with_reducible refine gate_dst (N := 11) rfl ?_); refine Kd.R_lit k38 _ 38 ?hg (N := 11) ?hd (xs := ([(⟨a1_0, a1_1⟩ : S38)] : List (S38))) (inner := [.int .i64 a1_0, .int .u64 a1_1]) (ok := fun _ => True) (okp := fun _ => True) ?hr ?hp (fun _ hk => hk) trivial (Below.refl _ _) (Nat.le_refl _) (by simp) ?_; (case hd => rfl); (case hg => rfl); (case hr => first | (go_simp; done) | (go_simp; rfl)); (case hp => exact (Reps.c2 (show Kd.M k38 _ _ _ (⟨a1_0, a1_1⟩ : S38) [.int .i64 a1_0, .int .u64 a1_1] from (k38_mkM _ _ _ (⟨a1_0, a1_1⟩ : S38) )) (Reps.none _ _))); intro v139 w8 ho9 hb hg_ hnew_; clear hg_ hnew_; (first | rw [← Ny138.out] at ho9 | (simp only [Int.reduceToNat] at ho9; rw [← Ny138.out] at ho9)); have HO140 := Goto.m0 (Kd.R_lower ho9 (below_size (Goto.hx HB))); replace BK136 := Goto.bb BK136 hb; replace BK137 := Goto.bb BK137 hb; replace HB := Goto.hs HB hb; clear hb ho9) | (with_reducible refine Goto.scope_enter ?_))
 rename_i K0_ hK0_
 refine Goto.label_ghost (l := 0) hK0_ (fun a0_ kq a_ w' => ∃ w6_ v7 v8 w12_ w13_ w14_ w15_ w16_ w17_ w18_ w19_ w20_ w21_ w22_ w23_ w24_ w25_ w26_ w27_ w28_ w29_ w30_ w31_ w32_ w33_ w34_ w35_ w36_ w37_ w38_ w39_ w40_ w41_ w42_ w43_ w44_ w45_ : Value, (∃ (x7_1 : List (S38)) (x8_1 : Int), v8 = .int .i64 x8_1 ∧ Aside0 (conf_rises.l0 kq l2 x7_1 x8_1 a0_0 a0_1 l0_2 l0_3 = some r) ∧ Aside0 (kq ≤ k) ∧ Aside0 (Kd.R k38 38 w' w.heap.size (fun _ => True) v7 x7_1) ∧ Aside0 (w'.heap[gb136]? = some (.cells #[.int .i64 a0_0, .int .i64 a0_1, (.slice A0_2 l0_2.length c0_2), (.slice A0_3 l0_3.length c0_3)] 25 (0, 0))) ∧ Aside0 (w'.heap[gb137]? = some (.cells #[.int .i64 a1_0, .int .u64 a1_1, (.slice A1_2 l1_2.length c1_2), (.slice A1_3 l1_3.length c1_3), .int .i64 a1_4, .int .i64 a1_5, .int .i64 a1_6, .int .i64 a1_7, .int .i64 a1_8, .int .i64 a1_9] 40 (0, 0))) ∧ Aside0 (Below w.heap.size w w')) ∧ a_ = { tmps := #[Goto.slot a0_.tmps.toList 0, Goto.slot a0_.tmps.toList 1, Goto.slot a0_.tmps.toList 2, Goto.slot a0_.tmps.toList 3, Goto.slot a0_.tmps.toList 4, Goto.slot a0_.tmps.toList 5, w6_, v7, v8, Goto.slot a0_.tmps.toList 9, Goto.slot a0_.tmps.toList 10, Goto.slot a0_.tmps.toList 11, w12_, w13_, w14_, w15_, w16_, w17_, w18_, w19_, w20_, w21_, w22_, w23_, w24_, w25_, w26_, w27_, w28_, w29_, w30_, w31_, w32_, w33_, w34_, w35_, w36_, w37_, w38_, w39_, w40_, w41_, w42_, w43_, w44_, w45_], defers := a0_.defers }) k ?hfl_ ?atStart ?round
 case hfl_ => rfl
 case atStart => ((repeat apply Exists.intro); refine ⟨?_, ?fr_⟩; (case fr_ => ((try simp only [Goto.slot_zero, Goto.slot_succ]); rfl)); exact ⟨(y138), (0), (by first | rfl | (simp; done) | (simp [*]; done)), H', ⟨Nat.le_refl _⟩, ⟨Goto.rk HO140⟩, ⟨Goto.bx BK136⟩, ⟨Goto.bx BK137⟩, ⟨Goto.hx HB⟩⟩)
 case round =>
  clear hK0_ K0_
  clear H'
  try clear c1; try clear c2; try clear p2; try clear c4; try clear c6; try clear hcz7_0; try clear hcz7_1; try clear hcz7_2; try clear hcz7_3; try clear hcz7_4; try clear hcz7_5; try clear hcz7_6; try clear hcz7_7; try clear hcz7_8; try clear hcz7_9; try clear hfz7_0; try clear hfz7_1; try clear hfz7_2; try clear hfz7_3; try clear hfz7_4; try clear hfz7_5; try clear hfz7_6; try clear hfz7_7; try clear hfz7_8; try clear hfz7_9
  intro gk _ wr hinv_
  obtain ⟨w6_, u7, v8, w12_, w13_, w14_, w15_, w16_, w17_, w18_, w19_, w20_, w21_, w22_, w23_, w24_, w25_, w26_, w27_, w28_, w29_, w30_, w31_, w32_, w33_, w34_, w35_, w36_, w37_, w38_, w39_, w40_, w41_, w42_, w43_, w44_, w45_, hrel, ha_⟩ := hinv_
  subst ha_
  (try simp only [Goto.slot_zero, Goto.slot_succ])
  intro _ _ _ _
  obtain ⟨x7_1, x8_1, rfl, HA, HK1, HO_7, BK136, BK137, HB⟩ := hrel
  cases gk with
  | zero => exact absurd HA.out (by simp [conf_rises.l0])
  | succ k1 =>
   have H := HA.out; clear HA
   simp only [conf_rises.l0] at H
   by_cases c10 : x8_1 = (l2.length : Int)
   ·
    rw [if_pos c10] at H
    have c10b0 : (x8_1 == (l2.length : Int)) = true := beq_iff_eq.mpr c10
    have c10b1 : (x8_1 != (l2.length : Int)) = false := bne_eq_false_iff_eq.mpr c10
    clear c10
    by_cases c11 : x8_1 > 0
    ·
     rw [if_pos c11] at H
     have c11b0 : decide (0 < x8_1) = true := decide_eq_true c11
     clear c11
     replace H := Option.bind_eq_some_iff.mp H
     obtain ⟨t141, A120, H⟩ := H
     have A12 := Goto.m0 A120
     clear A120
     obtain rfl := Option.some.inj H
     obtain ⟨Ao13, co13, eo13⟩ := Kd.R_slice HO_7.out
     subst eo13
     go_wp2_with (first | (go_at_call 46; (with_reducible refine (label_Chain.calls k1 (fun k_ => some k_ = (.slice Ao13 x7_1.length co13 : Value).ownBlock) _ _ x7_1 t141 _ ?side1 A12.out).mono ?_); (case side1 => exact Kd.R_V (Kd.R_tight rfl (Kd.R_types (Kd.R_types (HO_7.out) BK136.out (by decide)) BK137.out (by decide)))); rintro e w14 ⟨rfl, hb⟩; replace HO_7 := Goto.m0 (Kd.R_below (Goto.rk HO_7) hb); replace BK136 := Goto.bb BK136 hb; replace BK137 := Goto.bb BK137 hb; replace HB := Goto.hs HB hb; (try clear hb); (try clear hb2); (try clear hk); (try clear hi)) | (with_reducible refine Goto.scope_enter ?_))
     (try simp only [Exit.inBlock, Exit.then])
     (try refine Goto.ret_hit ?_)
     (try refine Goto.end_hit ?_)
     go_ret
     exact ⟨Goto.er, by repeat (first | (with_reducible first | exact HB.out | apply below_alloc | apply pw_below_drewN | apply below_drew1 | refine below_set ?_ GE136.out | refine below_set ?_ GE137.out) | exact HB.out)⟩
    ·
     rw [if_neg c11] at H
     have c11b0 : decide (0 < x8_1) = false := decide_eq_false c11
     clear c11
     obtain rfl := Option.some.inj H
     go_wp2_with (first | (with_reducible refine Goto.scope_enter ?_))
     (try simp only [Exit.inBlock, Exit.then])
     (try refine Goto.ret_hit ?_)
     (try refine Goto.end_hit ?_)
     go_ret
     exact ⟨Goto.er, by repeat (first | (with_reducible first | exact HB.out | apply below_alloc | apply pw_below_drewN | apply below_drew1 | refine below_set ?_ GE136.out | refine below_set ?_ GE137.out) | exact HB.out)⟩
   ·
    rw [if_neg c10] at H
    have c10b0 : (x8_1 == (l2.length : Int)) = false := beq_eq_false_iff_ne.mpr c10
    have c10b1 : (x8_1 != (l2.length : Int)) = true := bne_iff_ne.mpr c10
    by_cases c15 : 0 ≤ x8_1
    ·
     rw [if_pos c15] at H
     have c15b0 : decide (0 ≤ x8_1) = true := decide_eq_true c15
     clear c15
     by_cases c16 : x8_1 < (l2.length : Int)
     ·
      rw [if_pos c16] at H
      have c16b0 : decide (x8_1 < (l2.length : Int)) = true := decide_eq_true c16
      clear c16
      replace H := Option.bind_eq_some_iff.mp H
      obtain ⟨t143, A170, H⟩ := H
      have A17 := Goto.m0 A170
      clear A170
      by_cases c18 : t143 = true
      ·
       subst c18
       rw [if_pos rfl] at H
       by_cases c19 : 0 ≤ (rd l2 x8_1)
       ·
        rw [if_pos c19] at H
        have c19b0 : decide (0 ≤ (rd l2 x8_1)) = true := decide_eq_true c19
        clear c19
        by_cases c20 : (rd l2 x8_1) < (l0_3.length : Int)
        ·
         rw [if_pos c20] at H
         have c20b0 : decide ((rd l2 x8_1) < (l0_3.length : Int)) = true := decide_eq_true c20
         clear c20
         by_cases c21 : x7_1.length < 8796093022208
         ·
          rw [if_pos c21] at H
          have LMc21 := Goto.m0 c21
          clear c21
          obtain ⟨y146, hy146⟩ : ∃ y_ : List (S38), y_ = (x7_1 ++ [(⟨(rd_T40 l0_3 (rd l2 x8_1)).f0.f0, (rd_T40 l0_3 (rd l2 x8_1)).f0.f1⟩ : S38)]) := ⟨_, rfl⟩
          replace H : (conf_rises.l0 k1 l2 y146 (wrap64 (x8_1 + 1)) a0_0 a0_1 l0_2 l0_3) = some r := by first | (rw [hy146]; with_reducible exact H) | (have H2_ := (Option.bind_some _ _).symm.trans H; rw [hy146]; with_reducible exact H2_) | (have H2_ := (Option.bind_some _ _).symm.trans H; with_reducible exact H2_) | with_reducible exact H | (rw [hy146]; exact H) | exact H
          have Ny146 := Goto.m0 hy146
          clear hy146
          have H' := Goto.m0 H
          clear H
          try go_wp2_with (first | (with_reducible refine Goto.scope_enter ?_))
          replace HO_7 := Goto.m0 (Kd.R_drew HO_7.out); replace BK136 := Goto.m0 (blk_drew BK136.out); replace BK137 := Goto.m0 (blk_drew BK137.out); replace HB := Goto.m0 (below_drew1 HB.out)
          have p142 : 0 ≤ (x8_1 : Int) := Goto.od
          have q142 : x8_1 < (l2.length : Int) := Goto.od
          obtain ⟨ad142, e142, hx142_0⟩ := Kd.at_int HR2.out x8_1 p142 q142
          have hw142_0 := hx142_0
          cases e142
          replace hx142_0 := Goto.kc HB.out hx142_0
          replace p142 := eq_true p142; replace q142 := eq_true q142
          refine start_ (n := 10) (S := fun w' => w'.cell? ⟨gb136, 0, none⟩ = some (.int .i64 a0_0) ∧ w'.cell? ⟨gb136, 1, none⟩ = some (.int .i64 a0_1) ∧ w'.cell? ⟨gb136, 2, none⟩ = some (.slice A0_2 l0_2.length c0_2) ∧ w'.cell? ⟨gb136, 3, none⟩ = some (.slice A0_3 l0_3.length c0_3) ∧ w'.cell? (ad142.add (x8_1).toNat) = some (.int .i64 (rd l2 x8_1))) (ds := []) (.replicate 10 false) (by kernel_rfl) rfl rfl ⟨(blk_cell BK136.out 0).trans rfl, (blk_cell BK136.out 1).trans rfl, (blk_cell BK136.out 2).trans rfl, (blk_cell BK136.out 3).trans rfl, (Goto.kc HB.out hw142_0)⟩ (fun hHeld => ?_); refine with_tabW conf_rises.tab5 conf_rises.bits5 (fun HT_ HW_ => ?_)
          generalize wr.drew = w22 at HO_7 BK136 BK137 HB hx142_0 hHeld ⊢
          refine Goto.pu 0 22 10 1 ?_
          refine Goto.pu 1 23 10 3 ?_
          refine Goto.pu 2 24 10 7 ?_
          refine Goto.pu 4 26 10 23 ?_
          refine take_ (i := 3) (N := some 25) (v := ?_) (a' := ?_) (Goto.bs 10 31) rfl rfl (take_ofW HT_.out HW_.out (by kernel_rfl)) (fun _ _ _ h => h) (Or.inl ⟨by rfl, ?_⟩) hHeld ?_ ?_
          rotate_left
          ·
           rintro w' ⟨s0, s1, s2, s3, s4⟩
           go_simp
           with_reducible rfl
          rotate_left
          ·
           exact Goto.ap
          refine take_ (i := 5) (N := some 27) (v := ?_) (a' := ?_) (Goto.bs 10 63) rfl rfl (take_ofW HT_.out HW_.out (by kernel_rfl)) (fun _ _ _ h => h) (Or.inl ⟨by rfl, ?_⟩) hHeld ?_ ?_
          rotate_left
          ·
           rintro w' ⟨s0, s1, s2, s3, s4⟩
           go_simp
           with_reducible rfl
          rotate_left
          ·
           exact Goto.ap
          refine Goto.pu 6 28 10 127 ?_
          refine Goto.pu 7 29 10 255 ?_
          refine one_ (i := 8) (N := some 30) (Goto.bs 10 511) rfl rfl (one_of HT_.out (by kernel_rfl)) (by decide) (fun K hK => ?_)
          refine goes_ Tryd.func36 (by kernel_rfl) rfl #[.int .i64 (rd l2 x8_1), .int .i64 0, .int .i64 (wrap64 ((l0_3.length : Int) - 1))] (by rfl) rfl rfl (by (try simp only [List.map_toArray, List.map_cons, List.map_nil]); first | done | rfl | (simp only [List.length_drop, List.length_take]; rfl)) ?_
          with_reducible refine (conf_within.calls (rd l2 x8_1) 0 (wrap64 ((l0_3.length : Int) - 1)) true _ A17.out).mono ?_
          rintro e w' ⟨rfl, ⟨nd, rfl⟩⟩
          refine ⟨_, rfl, ?_⟩
          refine hK.out _ _ ⟨(blk_cell BK136.out 0).trans rfl, (blk_cell BK136.out 1).trans rfl, (blk_cell BK136.out 2).trans rfl, (blk_cell BK136.out 3).trans rfl, (Goto.kc HB.out hw142_0)⟩ (fun hHeld => ?_)
          clear hK K
          refine norm_ (a' := ?_) ?_ ?_
          rotate_left
          ·
           show Act.put _ (some 30) _ = _
           exact Goto.ap
          refine Goto.pu 9 31 10 1023 ?_
          refine done_ (done_of HT_.out (by kernel_rfl)) ?_
          try go_wp2_with (first | (with_reducible refine Goto.scope_enter ?_))
          (try (rw [drewN_self w22]; generalize hq_ : World.drewN w22 _ = w22; have n0_ : Aside0 (Kd.R k38 38 w22 w.heap.size (fun _ => True) u7 x7_1) := ⟨by rw [← hq_]; exact (Goto.rk HO_7)⟩; have n1_ : Aside0 (w22.heap[gb136]? = some (.cells #[.int .i64 a0_0, .int .i64 a0_1, .slice A0_2 l0_2.length c0_2, .slice A0_3 l0_3.length c0_3] 25 (0, 0))) := ⟨by rw [← hq_]; exact (Goto.bx BK136)⟩; have n2_ : Aside0 (w22.heap[gb137]? = some (.cells #[.int .i64 a1_0, .int .u64 a1_1, .slice A1_2 l1_2.length c1_2, .slice A1_3 l1_3.length c1_3, .int .i64 a1_4, .int .i64 a1_5, .int .i64 a1_6, .int .i64 a1_7, .int .i64 a1_8, .int .i64 a1_9] 40 (0, 0))) := ⟨by rw [← hq_]; exact (Goto.bx BK137)⟩; have n3_ : Aside0 (Below w.heap.size w w22) := ⟨by rw [← hq_]; exact (Goto.hx HB)⟩; clear HO_7 BK136 BK137 HB hq_; have HO_7 := n0_; have BK136 := n1_; have BK137 := n2_; have HB := n3_; clear n0_ n1_ n2_ n3_))
          replace HO_7 := Goto.m0 (Kd.R_drew HO_7.out); replace BK136 := Goto.m0 (blk_drew BK136.out); replace BK137 := Goto.m0 (blk_drew BK137.out); replace HB := Goto.m0 (below_drew1 HB.out)
          have p144 : 0 ≤ (x8_1 : Int) := Goto.od
          have q144 : x8_1 < (l2.length : Int) := Goto.od
          obtain ⟨ad144, e144, hx144_0⟩ := Kd.at_int HR2.out x8_1 p144 q144
          have hw144_0 := hx144_0
          obtain rfl : ad142 = ad144 := (by injection e144)
          replace hx144_0 := Goto.kc HB.out hx144_0
          replace p144 := eq_true p144; replace q144 := eq_true q144
          have p145 : 0 ≤ ((rd l2 x8_1) : Int) := Goto.od
          have q145 : (rd l2 x8_1) < (l0_3.length : Int) := Goto.od
          obtain ⟨ad145, A145_2, c145_2, A145_3, c145_3, e145, hx145_0, hx145_1, hx145_2, hx145_3, hx145_4, hx145_5, hx145_6, hx145_7, hx145_8, hx145_9, hl145_2, hi145_2, hl145_3, hi145_3⟩ := at_T40 HR0_3.out (rd l2 x8_1) p145 q145
          have hw145_9 := hx145_9; have hw145_8 := hx145_8; have hw145_7 := hx145_7; have hw145_6 := hx145_6; have hw145_5 := hx145_5; have hw145_4 := hx145_4; have hw145_3 := hx145_3; have hw145_2 := hx145_2; have hw145_1 := hx145_1; have hw145_0 := hx145_0
          cases e145
          replace hx145_0 := Goto.kc HB.out hx145_0
          replace hx145_1 := Goto.kc HB.out hx145_1
          replace hx145_2 := Goto.kc HB.out hx145_2
          replace hx145_3 := Goto.kc HB.out hx145_3
          replace hx145_4 := Goto.kc HB.out hx145_4
          replace hx145_5 := Goto.kc HB.out hx145_5
          replace hx145_6 := Goto.kc HB.out hx145_6
          replace hx145_7 := Goto.kc HB.out hx145_7
          replace hx145_8 := Goto.kc HB.out hx145_8
          replace hx145_9 := Goto.kc HB.out hx145_9
          have HR145_2 := Goto.m0 hi145_2
          have HC145_2 := Goto.m0 hl145_2
          clear hi145_2 hl145_2
          have HR145_3 := Goto.m0 hi145_3
          have HC145_3 := Goto.m0 hl145_3
          clear hi145_3 hl145_3; replace p145 := eq_true p145; replace q145 := eq_true q145
          refine start_ (n := 13) (S := fun w' => w'.cell? ⟨gb136, 0, none⟩ = some (.int .i64 a0_0) ∧ w'.cell? ⟨gb136, 1, none⟩ = some (.int .i64 a0_1) ∧ w'.cell? ⟨gb136, 2, none⟩ = some (.slice A0_2 l0_2.length c0_2) ∧ w'.cell? ⟨gb136, 3, none⟩ = some (.slice (some ad145) l0_3.length c0_3) ∧ w'.cell? (ad142.add (x8_1).toNat) = some (.int .i64 (rd l2 x8_1)) ∧ w'.cell? (ad145.add (((rd l2 x8_1)).toNat * 10)) = some (.int .i64 ((rd_T40 l0_3 (rd l2 x8_1)).f0.f0)) ∧ w'.cell? ⟨(ad145.add (((rd l2 x8_1)).toNat * 10)).block, (ad145.add (((rd l2 x8_1)).toNat * 10)).off + 1, none⟩ = some (.int .u64 ((rd_T40 l0_3 (rd l2 x8_1)).f0.f1)) ∧ w'.cell? ⟨(ad145.add (((rd l2 x8_1)).toNat * 10)).block, (ad145.add (((rd l2 x8_1)).toNat * 10)).off + 2, none⟩ = some (.slice A145_2 ((rd_T40 l0_3 (rd l2 x8_1)).f1).length c145_2) ∧ w'.cell? ⟨(ad145.add (((rd l2 x8_1)).toNat * 10)).block, (ad145.add (((rd l2 x8_1)).toNat * 10)).off + 3, none⟩ = some (.slice A145_3 ((rd_T40 l0_3 (rd l2 x8_1)).f2).length c145_3) ∧ w'.cell? ⟨(ad145.add (((rd l2 x8_1)).toNat * 10)).block, (ad145.add (((rd l2 x8_1)).toNat * 10)).off + 4, none⟩ = some (.int .i64 ((rd_T40 l0_3 (rd l2 x8_1)).f3)) ∧ w'.cell? ⟨(ad145.add (((rd l2 x8_1)).toNat * 10)).block, (ad145.add (((rd l2 x8_1)).toNat * 10)).off + 5, none⟩ = some (.int .i64 ((rd_T40 l0_3 (rd l2 x8_1)).f4)) ∧ w'.cell? ⟨(ad145.add (((rd l2 x8_1)).toNat * 10)).block, (ad145.add (((rd l2 x8_1)).toNat * 10)).off + 6, none⟩ = some (.int .i64 ((rd_T40 l0_3 (rd l2 x8_1)).f5)) ∧ w'.cell? ⟨(ad145.add (((rd l2 x8_1)).toNat * 10)).block, (ad145.add (((rd l2 x8_1)).toNat * 10)).off + 7, none⟩ = some (.int .i64 ((rd_T40 l0_3 (rd l2 x8_1)).f6)) ∧ w'.cell? ⟨(ad145.add (((rd l2 x8_1)).toNat * 10)).block, (ad145.add (((rd l2 x8_1)).toNat * 10)).off + 8, none⟩ = some (.int .i64 ((rd_T40 l0_3 (rd l2 x8_1)).f7)) ∧ w'.cell? ⟨(ad145.add (((rd l2 x8_1)).toNat * 10)).block, (ad145.add (((rd l2 x8_1)).toNat * 10)).off + 9, none⟩ = some (.int .i64 ((rd_T40 l0_3 (rd l2 x8_1)).f8))) (ds := []) (.replicate 13 false) (by kernel_rfl) rfl rfl ⟨(blk_cell BK136.out 0).trans rfl, (blk_cell BK136.out 1).trans rfl, (blk_cell BK136.out 2).trans rfl, (blk_cell BK136.out 3).trans rfl, (Goto.kc HB.out hw144_0), (Goto.kc HB.out hw145_0), (Goto.kc HB.out hw145_1), (Goto.kc HB.out hw145_2), (Goto.kc HB.out hw145_3), (Goto.kc HB.out hw145_4), (Goto.kc HB.out hw145_5), (Goto.kc HB.out hw145_6), (Goto.kc HB.out hw145_7), (Goto.kc HB.out hw145_8), (Goto.kc HB.out hw145_9)⟩ (fun hHeld => ?_); refine with_tabW conf_rises.tab7 conf_rises.bits7 (fun HT_ HW_ => ?_)
          generalize w22.drew = w23 at HO_7 BK136 BK137 HB HR145_2 HR145_3 hx144_0 hx145_0 hx145_1 hx145_2 hx145_3 hx145_4 hx145_5 hx145_6 hx145_7 hx145_8 hx145_9 hHeld ⊢
          refine Goto.pu 0 32 13 1 ?_
          refine Goto.pu 1 33 13 3 ?_
          refine Goto.pu 3 35 13 11 ?_
          refine Goto.pu 4 36 13 27 ?_
          refine Goto.pu 5 37 13 59 ?_
          refine take_ (i := 2) (N := some 34) (v := ?_) (a' := ?_) (Goto.bs 13 63) rfl rfl (take_ofW HT_.out HW_.out (by kernel_rfl)) (fun _ _ _ h => h) (Or.inl ⟨by rfl, ?_⟩) hHeld ?_ ?_
          rotate_left
          ·
           rintro w' ⟨s0, s1, s2, s3, s4, s5, s6, s7, s8, s9, s10, s11, s12, s13, s14⟩
           go_simp
           with_reducible rfl
          rotate_left
          ·
           exact Goto.ap
          refine take_ (i := 6) (N := some 38) (v := ?_) (a' := ?_) (Goto.bs 13 127) rfl rfl (take_ofW HT_.out HW_.out (by kernel_rfl)) (fun _ _ _ h => h) (Or.inl ⟨by rfl, ?_⟩) hHeld ?_ ?_
          rotate_left
          ·
           rintro w' ⟨s0, s1, s2, s3, s4, s5, s6, s7, s8, s9, s10, s11, s12, s13, s14⟩
           go_simp
           with_reducible rfl
          rotate_left
          ·
           exact Goto.ap
          refine Goto.pu 7 39 13 255 ?_
          refine Goto.pu 8 40 13 511 ?_
          refine take_ (i := 9) (N := some 41) (v := ?_) (a' := ?_) (Goto.bs 13 1023) rfl rfl (take_ofW HT_.out HW_.out (by kernel_rfl)) (fun _ _ _ h => h) (Or.inl ⟨by rfl, ?_⟩) hHeld ?_ ?_
          rotate_left
          ·
           rintro w' ⟨s0, s1, s2, s3, s4, s5, s6, s7, s8, s9, s10, s11, s12, s13, s14⟩
           go_simp
           with_reducible rfl
          rotate_left
          ·
           exact Goto.ap
          refine one_ (i := 10) (N := some 42) (Goto.bs 13 2047) rfl rfl (one_of HT_.out (by kernel_rfl)) (by decide) (fun K hK => ?_)
          refine value_ (w1 := ?_) (v := ?_) (by rfl) rfl ?_ ?_
          rotate_left 2
          ·
           go_simp
           constructor
           ·
            rfl
           ·
            rfl
          refine hK.out _ _ ⟨(blk_cell (blk_alloc BK136.out _) 0).trans rfl, (blk_cell (blk_alloc BK136.out _) 1).trans rfl, (blk_cell (blk_alloc BK136.out _) 2).trans rfl, (blk_cell (blk_alloc BK136.out _) 3).trans rfl, (World.cell?_alloc_lt _ _ _ (World.block_lt_of_cell? _ _ ((Goto.kc HB.out hw144_0)))).trans ((Goto.kc HB.out hw144_0)), (World.cell?_alloc_lt _ _ _ (World.block_lt_of_cell? _ _ ((Goto.kc HB.out hw145_0)))).trans ((Goto.kc HB.out hw145_0)), (World.cell?_alloc_lt _ _ _ (World.block_lt_of_cell? _ _ ((Goto.kc HB.out hw145_1)))).trans ((Goto.kc HB.out hw145_1)), (World.cell?_alloc_lt _ _ _ (World.block_lt_of_cell? _ _ ((Goto.kc HB.out hw145_2)))).trans ((Goto.kc HB.out hw145_2)), (World.cell?_alloc_lt _ _ _ (World.block_lt_of_cell? _ _ ((Goto.kc HB.out hw145_3)))).trans ((Goto.kc HB.out hw145_3)), (World.cell?_alloc_lt _ _ _ (World.block_lt_of_cell? _ _ ((Goto.kc HB.out hw145_4)))).trans ((Goto.kc HB.out hw145_4)), (World.cell?_alloc_lt _ _ _ (World.block_lt_of_cell? _ _ ((Goto.kc HB.out hw145_5)))).trans ((Goto.kc HB.out hw145_5)), (World.cell?_alloc_lt _ _ _ (World.block_lt_of_cell? _ _ ((Goto.kc HB.out hw145_6)))).trans ((Goto.kc HB.out hw145_6)), (World.cell?_alloc_lt _ _ _ (World.block_lt_of_cell? _ _ ((Goto.kc HB.out hw145_7)))).trans ((Goto.kc HB.out hw145_7)), (World.cell?_alloc_lt _ _ _ (World.block_lt_of_cell? _ _ ((Goto.kc HB.out hw145_8)))).trans ((Goto.kc HB.out hw145_8)), (World.cell?_alloc_lt _ _ _ (World.block_lt_of_cell? _ _ ((Goto.kc HB.out hw145_9)))).trans ((Goto.kc HB.out hw145_9))⟩ (fun hHeld => ?_)
          clear hK K
          refine norm_ (a' := ?_) ?_ ?_
          rotate_left
          ·
           show Act.put _ (some 42) _ = _
           exact Goto.ap
          refine one_ (i := 11) (N := some 43) (Goto.bs 13 4095) rfl rfl (one_of HT_.out (by kernel_rfl)) (by decide) (fun K hK => ?_)
          refine Kd.R_append_step k38 (w0 := w) w.heap.size (by rfl) (.tmp 32) (.tmp 42) 70 38 (.agg #[(.int .i64 0), (.int .u64 0)]) 16 rfl Tryd.underlying70 info38 rfl (by decide) (by omega) u7 x7_1 (⟨(rd_T40 l0_3 (rd l2 x8_1)).f0.f0, (rd_T40 l0_3 (rd l2 x8_1)).f0.f1⟩ : S38) [.int .i64 ((rd_T40 l0_3 (rd l2 x8_1)).f0.f0), .int .u64 ((rd_T40 l0_3 (rd l2 x8_1)).f0.f1)] (fun _ => True) (fun _ => False) rfl rfl ?aP (fun _ hk => hk.elim) ?aF ?aO ?aB ?aS ?aL ?_
          (case aP => exact k38_mkM _ _ _ (⟨(rd_T40 l0_3 (rd l2 x8_1)).f0.f0, (rd_T40 l0_3 (rd l2 x8_1)).f0.f1⟩ : S38))
          (case aB => exact (Goto.hx HB))
          (case aF => exact (fun _ _ => trivial))
          (case aO => exact (Goto.rk HO_7))
          (case aS => exact (below_size (Goto.hx HB)))
          (case aL => have := LMc21.out; omega)
          intro v147 w24 ho hb hg hat
          rw [← Ny146.out] at ho
          have n0_ := Goto.m0 (blk_grown (g := gb136) (o := .cells #[.int .i64 a0_0, .int .i64 a0_1, .slice A0_2 l0_2.length c0_2, .slice (some ad145) l0_3.length c0_3] 25 (0, 0)) (Goto.bx BK136) hg (Kd.R_ne HO_7.out BK136.out (by decide)))
          have n1_ := Goto.m0 (blk_grown (g := gb137) (o := .cells #[.int .i64 a1_0, .int .u64 a1_1, .slice A1_2 l1_2.length c1_2, .slice A1_3 l1_3.length c1_3, .int .i64 a1_4, .int .i64 a1_5, .int .i64 a1_6, .int .i64 a1_7, .int .i64 a1_8, .int .i64 a1_9] 40 (0, 0)) (Goto.bx BK137) hg (Kd.R_ne HO_7.out BK137.out (by decide)))
          have n2_ := Goto.m0 (hb)
          have n3_ := Goto.m0 (ho)
          clear BK136; clear BK137; clear HB; clear HO_7; have BK136 := n0_; have BK137 := n1_; have HB := n2_; have HO148 := n3_; clear n0_ n1_ n2_ n3_; clear ho hb hg hat
          refine hK.out _ _ ⟨(blk_cell BK136.out 0).trans rfl, (blk_cell BK136.out 1).trans rfl, (blk_cell BK136.out 2).trans rfl, (blk_cell BK136.out 3).trans rfl, (Goto.kc HB.out hw144_0), (Goto.kc HB.out hw145_0), (Goto.kc HB.out hw145_1), (Goto.kc HB.out hw145_2), (Goto.kc HB.out hw145_3), (Goto.kc HB.out hw145_4), (Goto.kc HB.out hw145_5), (Goto.kc HB.out hw145_6), (Goto.kc HB.out hw145_7), (Goto.kc HB.out hw145_8), (Goto.kc HB.out hw145_9)⟩ (fun hHeld => ?_)
          clear hK K
          refine norm_ (a' := ?_) ?_ ?_
          rotate_left
          ·
           show Act.put _ (some 43) _ = _
           exact Goto.ap
          refine Goto.pu 12 7 13 8191 ?_
          refine done_ (done_of HT_.out (by kernel_rfl)) ?_
          try go_wp2_with (first | (with_reducible refine Goto.scope_enter ?_))
          refine wp_goto ?_
          (try simp only [Exit.then, Exit.inBlock])
          refine Goto.jump_hit ?_
          go_step
          go_roundg k1
          case measure => have := HK1.out; omega
          case rel => exact ⟨(y146), (wrap64 (x8_1 + 1)), (by first | rfl | (simp; done) | (simp [*]; done)), H', ⟨by have := HK1.out; omega⟩, ⟨Goto.rk HO148⟩, ⟨Goto.bx BK136⟩, ⟨Goto.bx BK137⟩, ⟨Goto.hx HB⟩⟩
         ·
          rw [if_neg c21] at H
          exact absurd H (by simp)
        ·
         rw [if_neg c20] at H
         exact absurd H (by simp)
       ·
        rw [if_neg c19] at H
        exact absurd H (by simp)
      ·
       replace c18 := Bool.eq_false_iff.mpr c18
       subst c18
       rw [if_neg (show ¬ (false = true) by decide)] at H
       obtain rfl := Option.some.inj H
       try go_wp2_with (first | (with_reducible refine Goto.scope_enter ?_))
       replace HO_7 := Goto.m0 (Kd.R_drew HO_7.out); replace BK136 := Goto.m0 (blk_drew BK136.out); replace BK137 := Goto.m0 (blk_drew BK137.out); replace HB := Goto.m0 (below_drew1 HB.out)
       have p142 : 0 ≤ (x8_1 : Int) := Goto.od
       have q142 : x8_1 < (l2.length : Int) := Goto.od
       obtain ⟨ad142, e142, hx142_0⟩ := Kd.at_int HR2.out x8_1 p142 q142
       have hw142_0 := hx142_0
       cases e142
       replace hx142_0 := Goto.kc HB.out hx142_0
       replace p142 := eq_true p142; replace q142 := eq_true q142
       refine start_ (n := 10) (S := fun w' => w'.cell? ⟨gb136, 0, none⟩ = some (.int .i64 a0_0) ∧ w'.cell? ⟨gb136, 1, none⟩ = some (.int .i64 a0_1) ∧ w'.cell? ⟨gb136, 2, none⟩ = some (.slice A0_2 l0_2.length c0_2) ∧ w'.cell? ⟨gb136, 3, none⟩ = some (.slice A0_3 l0_3.length c0_3) ∧ w'.cell? (ad142.add (x8_1).toNat) = some (.int .i64 (rd l2 x8_1))) (ds := []) (.replicate 10 false) (by kernel_rfl) rfl rfl ⟨(blk_cell BK136.out 0).trans rfl, (blk_cell BK136.out 1).trans rfl, (blk_cell BK136.out 2).trans rfl, (blk_cell BK136.out 3).trans rfl, (Goto.kc HB.out hw142_0)⟩ (fun hHeld => ?_); refine with_tabW conf_rises.tab5 conf_rises.bits5 (fun HT_ HW_ => ?_)
       generalize wr.drew = w25 at HO_7 BK136 BK137 HB hx142_0 hHeld ⊢
       refine Goto.pu 0 22 10 1 ?_
       refine Goto.pu 1 23 10 3 ?_
       refine Goto.pu 2 24 10 7 ?_
       refine Goto.pu 4 26 10 23 ?_
       refine take_ (i := 3) (N := some 25) (v := ?_) (a' := ?_) (Goto.bs 10 31) rfl rfl (take_ofW HT_.out HW_.out (by kernel_rfl)) (fun _ _ _ h => h) (Or.inl ⟨by rfl, ?_⟩) hHeld ?_ ?_
       rotate_left
       ·
        rintro w' ⟨s0, s1, s2, s3, s4⟩
        go_simp
        with_reducible rfl
       rotate_left
       ·
        exact Goto.ap
       refine take_ (i := 5) (N := some 27) (v := ?_) (a' := ?_) (Goto.bs 10 63) rfl rfl (take_ofW HT_.out HW_.out (by kernel_rfl)) (fun _ _ _ h => h) (Or.inl ⟨by rfl, ?_⟩) hHeld ?_ ?_
       rotate_left
       ·
        rintro w' ⟨s0, s1, s2, s3, s4⟩
        go_simp
        with_reducible rfl
       rotate_left
       ·
        exact Goto.ap
       refine Goto.pu 6 28 10 127 ?_
       refine Goto.pu 7 29 10 255 ?_
       refine one_ (i := 8) (N := some 30) (Goto.bs 10 511) rfl rfl (one_of HT_.out (by kernel_rfl)) (by decide) (fun K hK => ?_)
       refine goes_ Tryd.func36 (by kernel_rfl) rfl #[.int .i64 (rd l2 x8_1), .int .i64 0, .int .i64 (wrap64 ((l0_3.length : Int) - 1))] (by rfl) rfl rfl (by (try simp only [List.map_toArray, List.map_cons, List.map_nil]); first | done | rfl | (simp only [List.length_drop, List.length_take]; rfl)) ?_
       with_reducible refine (conf_within.calls (rd l2 x8_1) 0 (wrap64 ((l0_3.length : Int) - 1)) false _ A17.out).mono ?_
       rintro e w' ⟨rfl, ⟨nd, rfl⟩⟩
       refine ⟨_, rfl, ?_⟩
       refine hK.out _ _ ⟨(blk_cell BK136.out 0).trans rfl, (blk_cell BK136.out 1).trans rfl, (blk_cell BK136.out 2).trans rfl, (blk_cell BK136.out 3).trans rfl, (Goto.kc HB.out hw142_0)⟩ (fun hHeld => ?_)
       clear hK K
       refine norm_ (a' := ?_) ?_ ?_
       rotate_left
       ·
        show Act.put _ (some 30) _ = _
        exact Goto.ap
       refine Goto.pu 9 31 10 1023 ?_
       refine done_ (done_of HT_.out (by kernel_rfl)) ?_
       try go_wp2_with (first | (with_reducible refine Goto.scope_enter ?_))
       (try simp only [Exit.inBlock, Exit.then])
       (try refine Goto.ret_hit ?_)
       (try refine Goto.end_hit ?_)
       go_ret
       exact ⟨Goto.er, by repeat (first | (with_reducible first | exact HB.out | apply below_alloc | apply pw_below_drewN | apply below_drew1 | refine below_set ?_ GE136.out | refine below_set ?_ GE137.out) | exact HB.out)⟩
     ·
      rw [if_neg c16] at H
      exact absurd H (by simp)
    ·
     rw [if_neg c15] at H
     exact absurd H (by simp)

end Go.Proofs.YtjgdcifbhmjinaaDoor.P
