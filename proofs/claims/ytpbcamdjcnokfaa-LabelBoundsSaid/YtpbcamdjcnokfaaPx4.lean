/- Printed by a program of this workplace (a turned copy of the kit's optional print), out of the translation; not trusted: Lean checks it. -/
import Derived.Test.YtpbcamdjcnokfaaPx0
import Derived.Test.YtpbcamdjcnokfaaPx1
import Derived.Test.YtpbcamdjcnokfaaPx2
import Derived.Test.YtpbcamdjcnokfaaPx3
namespace Go.Proofs.Ytpbcamdjcnokfaa.P
open Go.RowKit Go.Proofs.YtpbcamdjcnokfaaW.PrintWords Go.Proofs.YtpbcamdjcnokfaaW.PrintLast Go.Proofs.YtpbcamdjcnokfaaW.PrintMore
attribute [local go_sem] max2_int min2_int max_two min_two max_three min_three max_four min_four   -- for this text's walks alone
set_option linter.unusedVariables false
set_option linter.unusedSimpArgs false

attribute [local go_sem high] eqA24
/-! ### tontinelaw1_known: function 15 -/
def tontinelaw1_known.f (k : Nat)  : Option (Bool) := (label_Is.f 1 1).bind fun t122 => (if t122 = true then ((label_Is.f 256 0).bind fun t123 => (if t123 = true then (some false) else ((label_Leq.f 1 1 2 3).bind fun t124 => (if t124 = true then ((label_Leq.f 2 3 1 1).bind fun t125 => (if t125 = true then (some false) else ((label_Join.f 1 1 2 3).bind fun bt126 => (if (bt126.1 == 2 && (bt126.2 == 3)) = true then ((label_Meet.f 1 1 2 3).bind fun bt128 => (if (bt128.1 == 1 && (bt128.2 == 1)) = true then ((label_Chain.f k (([(⟨1, 1⟩ : S24), (⟨2, 3⟩ : S24)] : List (S24)))).bind fun t133 => (if t133 = true then ((label_Chain.f k (([(⟨1, 1⟩ : S24), (⟨1, 1⟩ : S24)] : List (S24)))).bind fun t137 => (if t137 = true then (some false) else ((label_Chain.f k ([] : List (S24))).bind fun t138 => (some t138)))) else (some false))) else (some false))) else (some false))))) else (some false))))) else (some false))
theorem tontinelaw1_known.mono : ∀ k, LeO (tontinelaw1_known.f k ) (tontinelaw1_known.f (k + 1) ) := by
 intro  k
 unfold tontinelaw1_known.f
 repeat' first
   | (with_reducible exact label_Chain.mono _ _)
   | (with_reducible exact LeO.refl _)
   | (with_reducible exact LeO.none _)
   | (with_reducible refine LeO.ite ?_ ?_)
   | (with_reducible refine LeO.bind ?_ (fun _ => ?_))
   | exact label_Chain.mono _ _
   | exact LeO.none _
   | refine LeO.ite ?_ ?_
   | refine LeO.bind ?_ (fun _ => ?_)
def tontinelaw1_known.T2 : Bool × List (List Nat × List Nat) := (true, [([], []), ([0], [0]), ([1, 1], [1]), ([2], [2]), ([3, 2, 2], [2, 3]), ([4, 2], [2, 4]), ([2, 5], [2, 5]), ([6, 4], [6]), ([7], [7]), ([7], [7]), ([8, 9, 7, 7], [7, 8, 9]), ([7, 10], [7, 10]), ([11, 10], [11]), ([12], [12]), ([12], [12]), ([13, 14, 12, 12], [12, 13, 14]), ([15, 12], [12, 15]), ([12, 16], [12, 16]), ([17, 15], [17]), ([18], [18]), ([18], [18]), ([19, 20, 18, 18], [18, 19, 20]), ([18], [18]), ([21, 22, 18], [18, 21, 22]), ([18, 23], [18, 23]), ([24, 21], [24]), ([25], [25]), ([25], [25]), ([26, 27, 25, 25], [25, 26, 27]), ([25], [25]), ([28, 29, 25], [25, 28, 29]), ([25, 30], [25, 30]), ([31, 28], [31]), ([32], [32]), ([32], [32]), ([33, 34, 32], [32, 33, 34]), ([35, 32, 32], [32, 35]), ([32, 36], [32, 36]), ([37, 36], [37]), ([38], [38]), ([38], [38]), ([39, 40, 38], [38, 39, 40]), ([41, 38, 38], [38, 41]), ([42, 38], [38, 42]), ([38, 43], [38, 43]), ([44, 42], [44]), ([45, 45], [45]), ([45, 46], [45, 46]), ([47, 46, 0, 1, 2, 3, 4, 5, 6, 7, 8, 9, 10, 11, 12, 13, 14, 15, 16, 17, 18, 19, 20, 21, 22, 23, 24, 25, 26, 27, 28, 29, 30, 31, 32, 33, 34, 35, 36, 37, 38, 39, 40, 41, 42, 43, 44, 45, 46, 47], [47])])
def tontinelaw1_known.B2 : List Nat := [0, 1, 3, 7, 15, 31, 63, 127, 255, 255, 1023, 2047, 4095, 8191, 8191, 32767, 65535, 131071, 262143, 524287, 524287, 2097151, 524287, 8388607, 16777215, 33554431, 67108863, 67108863, 268435455, 67108863, 1073741823, 2147483647, 4294967295, 8589934591, 8589934591, 34359738367, 68719476735, 137438953471, 274877906943, 549755813887, 549755813887, 2199023255551, 4398046511103, 8796093022207, 17592186044415, 35184372088831, 70368744177663, 140737488355327, 281474976710655]
theorem tontinelaw1_known.tab2 : rtab .any (opsOf Try.f15 2) = tontinelaw1_known.T2 := by kernel_rfl
theorem tontinelaw1_known.bits2 : waitsOk tontinelaw1_known.T2.2 tontinelaw1_known.B2 = true := by kernel_rfl
set_option maxHeartbeats 8000000 in
set_option maxRecDepth 100000 in
theorem tontinelaw1_known.calls (k : Nat)  (r : Bool) (hrt : r = true) (w : World) (h : tontinelaw1_known.f k  = some r) :
    Calls Try.prog 15 #[] w fun e w' => e = .returned (.bool r) ∧ Below w.heap.size w w' := by
 have hu24 := Try.underlying24
 have HB := Goto.m0 (Below.refl w.heap.size w)
 have HRT := Goto.m0 hrt
 clear hrt
 have H : ((label_Is.f 1 1).bind fun t122 => (if t122 = true then ((label_Is.f 256 0).bind fun t123 => (if t123 = true then (some false) else ((label_Leq.f 1 1 2 3).bind fun t124 => (if t124 = true then ((label_Leq.f 2 3 1 1).bind fun t125 => (if t125 = true then (some false) else ((label_Join.f 1 1 2 3).bind fun bt126 => (if (bt126.1 == 2 && (bt126.2 == 3)) = true then ((label_Meet.f 1 1 2 3).bind fun bt128 => (if (bt128.1 == 1 && (bt128.2 == 1)) = true then ((label_Chain.f k (([(⟨1, 1⟩ : S24), (⟨2, 3⟩ : S24)] : List (S24)))).bind fun t133 => (if t133 = true then ((label_Chain.f k (([(⟨1, 1⟩ : S24), (⟨1, 1⟩ : S24)] : List (S24)))).bind fun t137 => (if t137 = true then (some false) else ((label_Chain.f k ([] : List (S24))).bind fun t138 => (some t138)))) else (some false))) else (some false))) else (some false))))) else (some false))))) else (some false))) = some r := h
 clear h
 replace H := Option.bind_eq_some_iff.mp H
 obtain ⟨t122, A10, H⟩ := H
 have A1 := Goto.m0 A10
 clear A10
 by_cases c2 : t122 = true
 ·
  subst c2
  rw [if_pos rfl] at H
  replace H := Option.bind_eq_some_iff.mp H
  obtain ⟨t123, A30, H⟩ := H
  have A3 := Goto.m0 A30
  clear A30
  by_cases c4 : t123 = true
  ·
   subst c4
   rw [if_pos rfl] at H
   exact absurd ((Option.some.inj H).trans HRT.out) (by decide)
  ·
   replace c4 := Bool.eq_false_iff.mpr c4
   subst c4
   rw [if_neg (show ¬ (false = true) by decide)] at H
   replace H := Option.bind_eq_some_iff.mp H
   obtain ⟨t124, A50, H⟩ := H
   have A5 := Goto.m0 A50
   clear A50
   by_cases c6 : t124 = true
   ·
    subst c6
    rw [if_pos rfl] at H
    replace H := Option.bind_eq_some_iff.mp H
    obtain ⟨t125, A70, H⟩ := H
    have A7 := Goto.m0 A70
    clear A70
    by_cases c8 : t125 = true
    ·
     subst c8
     rw [if_pos rfl] at H
     exact absurd ((Option.some.inj H).trans HRT.out) (by decide)
    ·
     replace c8 := Bool.eq_false_iff.mpr c8
     subst c8
     rw [if_neg (show ¬ (false = true) by decide)] at H
     replace H := Option.bind_eq_some_iff.mp H
     obtain ⟨⟨t126, t127⟩, A90, H⟩ := H
     replace H : (if (t126 == 2 && (t127 == 3)) = true then ((label_Meet.f 1 1 2 3).bind fun bt128 => (if (bt128.1 == 1 && (bt128.2 == 1)) = true then ((label_Chain.f k (([(⟨1, 1⟩ : S24), (⟨2, 3⟩ : S24)] : List (S24)))).bind fun t133 => (if t133 = true then ((label_Chain.f k (([(⟨1, 1⟩ : S24), (⟨1, 1⟩ : S24)] : List (S24)))).bind fun t137 => (if t137 = true then (some false) else ((label_Chain.f k ([] : List (S24))).bind fun t138 => (some t138)))) else (some false))) else (some false))) else (some false)) = some r := H
     have A9 := Goto.m0 A90
     clear A90
     by_cases c10 : (t126 == 2 && (t127 == 3)) = true
     ·
      rw [if_pos c10] at H
      have c10b0 : (t126 == 2 && (t127 == 3)) = true := c10
      (try (have c10b1 : decide (t126 = 2 && (t127 == 3)) = true := by simpa using c10))
      (try (have c10b2 : (t126 == 2 && (t127 == 3)) = true := by simpa using c10))
      clear c10
      replace H := Option.bind_eq_some_iff.mp H
      obtain ⟨⟨t128, t129⟩, A110, H⟩ := H
      replace H : (if (t128 == 1 && (t129 == 1)) = true then ((label_Chain.f k (([(⟨1, 1⟩ : S24), (⟨2, 3⟩ : S24)] : List (S24)))).bind fun t133 => (if t133 = true then ((label_Chain.f k (([(⟨1, 1⟩ : S24), (⟨1, 1⟩ : S24)] : List (S24)))).bind fun t137 => (if t137 = true then (some false) else ((label_Chain.f k ([] : List (S24))).bind fun t138 => (some t138)))) else (some false))) else (some false)) = some r := H
      have A11 := Goto.m0 A110
      clear A110
      by_cases c12 : (t128 == 1 && (t129 == 1)) = true
      ·
       rw [if_pos c12] at H
       have c12b0 : (t128 == 1 && (t129 == 1)) = true := c12
       (try (have c12b1 : decide (t128 = 1 && (t129 == 1)) = true := by simpa using c12))
       (try (have c12b2 : (t128 == 1 && (t129 == 1)) = true := by simpa using c12))
       clear c12
       obtain ⟨y130, hy130⟩ : ∃ y_ : List (S24), y_ = (([(⟨1, 1⟩ : S24), (⟨2, 3⟩ : S24)] : List (S24))) := ⟨_, rfl⟩
       replace H : ((label_Chain.f k y130).bind fun t133 => (if t133 = true then ((label_Chain.f k (([(⟨1, 1⟩ : S24), (⟨1, 1⟩ : S24)] : List (S24)))).bind fun t137 => (if t137 = true then (some false) else ((label_Chain.f k ([] : List (S24))).bind fun t138 => (some t138)))) else (some false))) = some r := by first | (rw [hy130]; with_reducible exact H) | (have H2_ := (Option.bind_some _ _).symm.trans H; rw [hy130]; with_reducible exact H2_) | (have H2_ := (Option.bind_some _ _).symm.trans H; with_reducible exact H2_) | with_reducible exact H | (rw [hy130]; exact H) | exact H
       have Ny130 := Goto.m0 hy130
       clear hy130
       replace H := Option.bind_eq_some_iff.mp H
       obtain ⟨t133, A130, H⟩ := H
       have A13 := Goto.m0 A130
       clear A130
       by_cases c14 : t133 = true
       ·
        subst c14
        rw [if_pos rfl] at H
        obtain ⟨y134, hy134⟩ : ∃ y_ : List (S24), y_ = (([(⟨1, 1⟩ : S24), (⟨1, 1⟩ : S24)] : List (S24))) := ⟨_, rfl⟩
        replace H : ((label_Chain.f k y134).bind fun t137 => (if t137 = true then (some false) else ((label_Chain.f k ([] : List (S24))).bind fun t138 => (some t138)))) = some r := by first | (rw [hy134]; with_reducible exact H) | (have H2_ := (Option.bind_some _ _).symm.trans H; rw [hy134]; with_reducible exact H2_) | (have H2_ := (Option.bind_some _ _).symm.trans H; with_reducible exact H2_) | with_reducible exact H | (rw [hy134]; exact H) | exact H
        have Ny134 := Goto.m0 hy134
        clear hy134
        replace H := Option.bind_eq_some_iff.mp H
        obtain ⟨t137, A150, H⟩ := H
        have A15 := Goto.m0 A150
        clear A150
        by_cases c16 : t137 = true
        ·
         subst c16
         rw [if_pos rfl] at H
         exact absurd ((Option.some.inj H).trans HRT.out) (by decide)
        ·
         replace c16 := Bool.eq_false_iff.mpr c16
         subst c16
         rw [if_neg (show ¬ (false = true) by decide)] at H
         replace H := Option.bind_eq_some_iff.mp H
         obtain ⟨t138, A170, H⟩ := H
         have A17 := Goto.m0 A170
         clear A170
         obtain rfl := Option.some.inj H
         go_enter Try.func15, Try.ntmps15
         try go_wp2_with (first | ((with_reducible refine gate_dst (N := 1) rfl ?_); (try (refine gate_guard (by rfl) ?_; dsimp only)); refine box_event ?hg (N := 1) ?hd (cs := #[.int .i64 0, .int .u64 0]) (t := 24) ?hr ?_; (case hd => rfl); (case hg => rfl); (case hr => first | (go_simp; done) | (go_simp; rfl)); intro gb120 hg w18 hbox hb; have BK120 := Goto.m0 (hbox); have GW120 := Goto.gs HB hg; have GE120 := Goto.gs HB hg; replace HB := Goto.hs HB hb; clear hb hbox hg) | ((with_reducible refine gate_dst (N := 2) rfl ?_); (try (refine gate_guard (by rfl) ?_; dsimp only)); refine box_event ?hg (N := 2) ?hd (cs := #[.int .i64 0, .int .u64 0]) (t := 24) ?hr ?_; (case hd => rfl); (case hg => rfl); (case hr => first | (go_simp; done) | (go_simp; rfl)); intro gb121 hg w19 hbox hb; have BK121 := Goto.m0 (hbox); have GW121 := Goto.gs HB hg; have GE121 := Goto.gs HB hg; have NB120_121 := Goto.nl BK120 hg; have NB121_120 := Goto.nr BK120 hg; replace BK120 := Goto.bb BK120 hb; replace HB := Goto.hs HB hb; clear hb hbox hg; have hnb20 := NB120_121.out; have hnc20 := NB121_120.out; have hcz21_0 : w19.cell? ⟨gb120, 0, none⟩ = some (.int .i64 0) := (blk_cell BK120.out 0).trans rfl; have hcz21_1 : w19.cell? ⟨gb120, 1, none⟩ = some (.int .u64 0) := (blk_cell BK120.out 1).trans rfl; have hfz21_0 := blk_frozen BK120.out 0; have hfz21_1 := blk_frozen BK120.out 1; have hcz22_0 : w19.cell? ⟨gb121, 0, none⟩ = some (.int .i64 0) := (blk_cell BK121.out 0).trans rfl; have hcz22_1 : w19.cell? ⟨gb121, 1, none⟩ = some (.int .u64 0) := (blk_cell BK121.out 1).trans rfl; have hfz22_0 := blk_frozen BK121.out 0; have hfz22_1 := blk_frozen BK121.out 1))
         have n0_ : Aside0 (((((w19.setCell ⟨gb120, 0, none⟩ (.int .i64 1)).setCell ⟨gb120, 1, none⟩ (.int .u64 1)).setCell ⟨gb121, 0, none⟩ (.int .i64 2)).setCell ⟨gb121, 1, none⟩ (.int .u64 3)).heap[gb120]? = some (.cells #[.int .i64 1, .int .u64 1] 24 (0, 0))) := ⟨Goto.bx BK120⟩
         have n1_ : Aside0 (((((w19.setCell ⟨gb120, 0, none⟩ (.int .i64 1)).setCell ⟨gb120, 1, none⟩ (.int .u64 1)).setCell ⟨gb121, 0, none⟩ (.int .i64 2)).setCell ⟨gb121, 1, none⟩ (.int .u64 3)).heap[gb121]? = some (.cells #[.int .i64 2, .int .u64 3] 24 (0, 0))) := ⟨Goto.bx BK121⟩
         have n2_ : Aside0 (Below w.heap.size w ((((w19.setCell ⟨gb120, 0, none⟩ (.int .i64 1)).setCell ⟨gb120, 1, none⟩ (.int .u64 1)).setCell ⟨gb121, 0, none⟩ (.int .i64 2)).setCell ⟨gb121, 1, none⟩ (.int .u64 3))) := ⟨Goto.hx HB⟩
         (try clear BK120)
         (try clear BK121)
         (try clear HB)
         generalize ((((w19.setCell ⟨gb120, 0, none⟩ (.int .i64 1)).setCell ⟨gb120, 1, none⟩ (.int .u64 1)).setCell ⟨gb121, 0, none⟩ (.int .i64 2)).setCell ⟨gb121, 1, none⟩ (.int .u64 3)) = w23 at n0_ n1_ n2_ ⊢
         have BK120 := n0_; have BK121 := n1_; have HB := n2_; clear n0_ n1_ n2_
         replace BK120 := Goto.m0 (blk_drew BK120.out); replace BK121 := Goto.m0 (blk_drew BK121.out); replace HB := Goto.m0 (below_drew1 HB.out)
         refine start_ (n := 49) (S := fun w' => w'.cell? ⟨gb120, 0, none⟩ = some (.int .i64 1) ∧ w'.cell? ⟨gb120, 1, none⟩ = some (.int .u64 1) ∧ w'.cell? ⟨gb121, 0, none⟩ = some (.int .i64 2) ∧ w'.cell? ⟨gb121, 1, none⟩ = some (.int .u64 3)) (ds := []) (.replicate 49 false) (by kernel_rfl) rfl rfl ⟨(blk_cell BK120.out 0).trans rfl, (blk_cell BK120.out 1).trans rfl, (blk_cell BK121.out 0).trans rfl, (blk_cell BK121.out 1).trans rfl⟩ (fun hHeld => ?_); refine with_tabW tontinelaw1_known.tab2 tontinelaw1_known.bits2 (fun HT_ HW_ => ?_)
         generalize w23.drew = w24 at BK120 BK121 HB hHeld ⊢
         refine take_ (i := 0) (N := some 5) (v := ?_) (a' := ?_) (Goto.bs 49 1) rfl rfl (take_ofW HT_.out HW_.out (by kernel_rfl)) (fun _ _ _ h => h) (Or.inl ⟨by rfl, ?_⟩) hHeld ?_ ?_
         rotate_left
         ·
          rintro w' ⟨s0, s1, s2, s3⟩
          go_simp
          with_reducible rfl
         rotate_left
         ·
          exact Goto.ap
         refine one_ (i := 1) (N := some 6) (Goto.bs 49 3) rfl rfl (one_of HT_.out (by kernel_rfl)) (by decide) (fun K hK => ?_)
         refine goes_ Try.func16 (by kernel_rfl) rfl #[.agg #[.int .i64 1, .int .u64 1]] (by rfl) rfl rfl (by (try simp only [List.map_toArray, List.map_cons, List.map_nil]); first | done | rfl | (simp only [List.length_drop, List.length_take]; rfl)) ?_
         with_reducible refine (label_Is.calls 1 1 true _ A1.out).mono ?_
         rintro e w25 ⟨rfl, hb⟩
         refine ⟨_, rfl, ?_⟩
         replace BK120 := Goto.bb BK120 hb; replace BK121 := Goto.bb BK121 hb; replace HB := Goto.hs HB hb
         (try clear hb)
         (try clear hb2)
         (try clear hk)
         (try clear hi)
         refine hK.out _ _ ⟨(blk_cell BK120.out 0).trans rfl, (blk_cell BK120.out 1).trans rfl, (blk_cell BK121.out 0).trans rfl, (blk_cell BK121.out 1).trans rfl⟩ (fun hHeld => ?_)
         clear hK K
         refine norm_ (a' := ?_) ?_ ?_
         rotate_left
         ·
          show Act.put _ (some 6) _ = _
          exact Goto.ap
         refine pure_ (i := 2) (N := some 7) (v := ?_) (a' := ?_) (Goto.bs 49 7) rfl rfl (any_of HT_.out (by kernel_rfl)) (fun _ _ _ h => h) (Or.inl ⟨by rfl, ?_⟩) ?_ ?_
         rotate_left
         ·
          intro w'
          go_simp
          with_reducible rfl
         rotate_left
         ·
          exact Goto.ap
         refine pure_ (i := 3) (N := some 8) (v := ?_) (a' := ?_) (Goto.bs 49 15) rfl rfl (any_of HT_.out (by kernel_rfl)) (fun _ _ _ h => h) (Or.inl ⟨by rfl, ?_⟩) ?_ ?_
         rotate_left
         ·
          intro w'
          go_simp
          with_reducible rfl
         rotate_left
         ·
          exact Goto.ap
         refine one_ (i := 4) (N := some 9) (Goto.bs 49 31) rfl rfl (one_of HT_.out (by kernel_rfl)) (by decide) (fun K hK => ?_)
         refine goes_ Try.func16 (by kernel_rfl) rfl #[.agg #[.int .i64 256, .int .u64 0]] (by rfl) rfl rfl (by (try simp only [List.map_toArray, List.map_cons, List.map_nil]); first | done | rfl | (simp only [List.length_drop, List.length_take]; rfl)) ?_
         with_reducible refine (label_Is.calls 256 0 false _ A3.out).mono ?_
         rintro e w26 ⟨rfl, hb⟩
         refine ⟨_, rfl, ?_⟩
         replace BK120 := Goto.bb BK120 hb; replace BK121 := Goto.bb BK121 hb; replace HB := Goto.hs HB hb
         (try clear hb)
         (try clear hb2)
         (try clear hk)
         (try clear hi)
         refine hK.out _ _ ⟨(blk_cell BK120.out 0).trans rfl, (blk_cell BK120.out 1).trans rfl, (blk_cell BK121.out 0).trans rfl, (blk_cell BK121.out 1).trans rfl⟩ (fun hHeld => ?_)
         clear hK K
         refine norm_ (a' := ?_) ?_ ?_
         rotate_left
         ·
          show Act.put _ (some 9) _ = _
          exact Goto.ap
         refine pure_ (i := 5) (N := some 10) (v := ?_) (a' := ?_) (Goto.bs 49 63) rfl rfl (any_of HT_.out (by kernel_rfl)) (fun _ _ _ h => h) (Or.inl ⟨by rfl, ?_⟩) ?_ ?_
         rotate_left
         ·
          intro w'
          go_simp
          with_reducible rfl
         rotate_left
         ·
          exact Goto.ap
         refine pure_ (i := 6) (N := some 11) (v := ?_) (a' := ?_) (Goto.bs 49 127) rfl rfl (any_of HT_.out (by kernel_rfl)) (fun _ _ _ h => h) (Or.inl ⟨by rfl, ?_⟩) ?_ ?_
         rotate_left
         ·
          intro w'
          go_simp
          with_reducible rfl
         rotate_left
         ·
          exact Goto.ap
         refine pure_ (i := 7) (N := some 12) (v := ?_) (a' := ?_) (Goto.bs 49 255) rfl rfl (any_of HT_.out (by kernel_rfl)) (fun _ _ _ h => h) (Or.inl ⟨by rfl, ?_⟩) ?_ ?_
         rotate_left
         ·
          intro w'
          go_simp
          with_reducible rfl
         rotate_left
         ·
          exact Goto.ap
         refine take_ (i := 8) (N := some 13) (v := ?_) (a' := ?_) (Goto.bs 49 511) rfl rfl (take_ofW HT_.out HW_.out (by kernel_rfl)) (fun _ _ _ h => h) (Or.inl ⟨by rfl, ?_⟩) hHeld ?_ ?_
         rotate_left
         ·
          rintro w' ⟨s0, s1, s2, s3⟩
          go_simp
          with_reducible rfl
         rotate_left
         ·
          exact Goto.ap
         refine take_ (i := 9) (N := some 14) (v := ?_) (a' := ?_) (Goto.bs 49 1023) rfl rfl (take_ofW HT_.out HW_.out (by kernel_rfl)) (fun _ _ _ h => h) (Or.inl ⟨by rfl, ?_⟩) hHeld ?_ ?_
         rotate_left
         ·
          rintro w' ⟨s0, s1, s2, s3⟩
          go_simp
          with_reducible rfl
         rotate_left
         ·
          exact Goto.ap
         refine one_ (i := 10) (N := some 15) (Goto.bs 49 2047) rfl rfl (one_of HT_.out (by kernel_rfl)) (by decide) (fun K hK => ?_)
         refine goes_ Try.func18 (by kernel_rfl) rfl #[.agg #[.int .i64 1, .int .u64 1], .agg #[.int .i64 2, .int .u64 3]] (by rfl) rfl rfl (by (try simp only [List.map_toArray, List.map_cons, List.map_nil]); first | done | rfl | (simp only [List.length_drop, List.length_take]; rfl)) ?_
         with_reducible refine (label_Leq.calls 1 1 2 3 true _ A5.out).mono ?_
         rintro e w27 ⟨rfl, hb⟩
         refine ⟨_, rfl, ?_⟩
         replace BK120 := Goto.bb BK120 hb; replace BK121 := Goto.bb BK121 hb; replace HB := Goto.hs HB hb
         (try clear hb)
         (try clear hb2)
         (try clear hk)
         (try clear hi)
         refine hK.out _ _ ⟨(blk_cell BK120.out 0).trans rfl, (blk_cell BK120.out 1).trans rfl, (blk_cell BK121.out 0).trans rfl, (blk_cell BK121.out 1).trans rfl⟩ (fun hHeld => ?_)
         clear hK K
         refine norm_ (a' := ?_) ?_ ?_
         rotate_left
         ·
          show Act.put _ (some 15) _ = _
          exact Goto.ap
         refine pure_ (i := 11) (N := some 16) (v := ?_) (a' := ?_) (Goto.bs 49 4095) rfl rfl (any_of HT_.out (by kernel_rfl)) (fun _ _ _ h => h) (Or.inl ⟨by rfl, ?_⟩) ?_ ?_
         rotate_left
         ·
          intro w'
          go_simp
          with_reducible rfl
         rotate_left
         ·
          exact Goto.ap
         refine pure_ (i := 12) (N := some 17) (v := ?_) (a' := ?_) (Goto.bs 49 8191) rfl rfl (any_of HT_.out (by kernel_rfl)) (fun _ _ _ h => h) (Or.inl ⟨by rfl, ?_⟩) ?_ ?_
         rotate_left
         ·
          intro w'
          go_simp
          with_reducible rfl
         rotate_left
         ·
          exact Goto.ap
         refine take_ (i := 13) (N := some 18) (v := ?_) (a' := ?_) (Goto.bs 49 16383) rfl rfl (take_ofW HT_.out HW_.out (by kernel_rfl)) (fun _ _ _ h => h) (Or.inl ⟨by rfl, ?_⟩) hHeld ?_ ?_
         rotate_left
         ·
          rintro w' ⟨s0, s1, s2, s3⟩
          go_simp
          with_reducible rfl
         rotate_left
         ·
          exact Goto.ap
         refine take_ (i := 14) (N := some 19) (v := ?_) (a' := ?_) (Goto.bs 49 32767) rfl rfl (take_ofW HT_.out HW_.out (by kernel_rfl)) (fun _ _ _ h => h) (Or.inl ⟨by rfl, ?_⟩) hHeld ?_ ?_
         rotate_left
         ·
          rintro w' ⟨s0, s1, s2, s3⟩
          go_simp
          with_reducible rfl
         rotate_left
         ·
          exact Goto.ap
         refine one_ (i := 15) (N := some 20) (Goto.bs 49 65535) rfl rfl (one_of HT_.out (by kernel_rfl)) (by decide) (fun K hK => ?_)
         refine goes_ Try.func18 (by kernel_rfl) rfl #[.agg #[.int .i64 2, .int .u64 3], .agg #[.int .i64 1, .int .u64 1]] (by rfl) rfl rfl (by (try simp only [List.map_toArray, List.map_cons, List.map_nil]); first | done | rfl | (simp only [List.length_drop, List.length_take]; rfl)) ?_
         with_reducible refine (label_Leq.calls 2 3 1 1 false _ A7.out).mono ?_
         rintro e w28 ⟨rfl, hb⟩
         refine ⟨_, rfl, ?_⟩
         replace BK120 := Goto.bb BK120 hb; replace BK121 := Goto.bb BK121 hb; replace HB := Goto.hs HB hb
         (try clear hb)
         (try clear hb2)
         (try clear hk)
         (try clear hi)
         refine hK.out _ _ ⟨(blk_cell BK120.out 0).trans rfl, (blk_cell BK120.out 1).trans rfl, (blk_cell BK121.out 0).trans rfl, (blk_cell BK121.out 1).trans rfl⟩ (fun hHeld => ?_)
         clear hK K
         refine norm_ (a' := ?_) ?_ ?_
         rotate_left
         ·
          show Act.put _ (some 20) _ = _
          exact Goto.ap
         refine pure_ (i := 16) (N := some 21) (v := ?_) (a' := ?_) (Goto.bs 49 131071) rfl rfl (any_of HT_.out (by kernel_rfl)) (fun _ _ _ h => h) (Or.inl ⟨by rfl, ?_⟩) ?_ ?_
         rotate_left
         ·
          intro w'
          go_simp
          with_reducible rfl
         rotate_left
         ·
          exact Goto.ap
         refine pure_ (i := 17) (N := some 22) (v := ?_) (a' := ?_) (Goto.bs 49 262143) rfl rfl (any_of HT_.out (by kernel_rfl)) (fun _ _ _ h => h) (Or.inl ⟨by rfl, ?_⟩) ?_ ?_
         rotate_left
         ·
          intro w'
          go_simp
          with_reducible rfl
         rotate_left
         ·
          exact Goto.ap
         refine pure_ (i := 18) (N := some 23) (v := ?_) (a' := ?_) (Goto.bs 49 524287) rfl rfl (any_of HT_.out (by kernel_rfl)) (fun _ _ _ h => h) (Or.inl ⟨by rfl, ?_⟩) ?_ ?_
         rotate_left
         ·
          intro w'
          go_simp
          with_reducible rfl
         rotate_left
         ·
          exact Goto.ap
         refine take_ (i := 19) (N := some 24) (v := ?_) (a' := ?_) (Goto.bs 49 1048575) rfl rfl (take_ofW HT_.out HW_.out (by kernel_rfl)) (fun _ _ _ h => h) (Or.inl ⟨by rfl, ?_⟩) hHeld ?_ ?_
         rotate_left
         ·
          rintro w' ⟨s0, s1, s2, s3⟩
          go_simp
          with_reducible rfl
         rotate_left
         ·
          exact Goto.ap
         refine take_ (i := 20) (N := some 25) (v := ?_) (a' := ?_) (Goto.bs 49 2097151) rfl rfl (take_ofW HT_.out HW_.out (by kernel_rfl)) (fun _ _ _ h => h) (Or.inl ⟨by rfl, ?_⟩) hHeld ?_ ?_
         rotate_left
         ·
          rintro w' ⟨s0, s1, s2, s3⟩
          go_simp
          with_reducible rfl
         rotate_left
         ·
          exact Goto.ap
         refine take_ (i := 22) (N := some 27) (v := ?_) (a' := ?_) (Goto.bs 49 6291455) rfl rfl (take_ofW HT_.out HW_.out (by kernel_rfl)) (fun _ _ _ h => h) (Or.inl ⟨by rfl, ?_⟩) hHeld ?_ ?_
         rotate_left
         ·
          rintro w' ⟨s0, s1, s2, s3⟩
          go_simp
          with_reducible rfl
         rotate_left
         ·
          exact Goto.ap
         refine one_ (i := 21) (N := some 26) (Goto.bs 49 8388607) rfl rfl (one_of HT_.out (by kernel_rfl)) (by decide) (fun K hK => ?_)
         refine goes_ Try.func20 (by kernel_rfl) rfl #[.agg #[.int .i64 1, .int .u64 1], .agg #[.int .i64 2, .int .u64 3]] (by rfl) rfl rfl (by (try simp only [List.map_toArray, List.map_cons, List.map_nil]); first | done | rfl | (simp only [List.length_drop, List.length_take]; rfl)) ?_
         with_reducible refine (label_Join.calls 1 1 2 3 t126 t127 _ A9.out).mono ?_
         rintro e w29 ⟨rfl, hb⟩
         refine ⟨_, rfl, ?_⟩
         replace BK120 := Goto.bb BK120 hb; replace BK121 := Goto.bb BK121 hb; replace HB := Goto.hs HB hb
         (try clear hb)
         (try clear hb2)
         (try clear hk)
         (try clear hi)
         refine hK.out _ _ ⟨(blk_cell BK120.out 0).trans rfl, (blk_cell BK120.out 1).trans rfl, (blk_cell BK121.out 0).trans rfl, (blk_cell BK121.out 1).trans rfl⟩ (fun hHeld => ?_)
         clear hK K
         refine norm_ (a' := ?_) ?_ ?_
         rotate_left
         ·
          show Act.put _ (some 26) _ = _
          exact Goto.ap
         refine pure_ (i := 23) (N := some 28) (v := ?_) (a' := ?_) (Goto.bs 49 16777215) rfl rfl (any_of HT_.out (by kernel_rfl)) (fun _ _ _ h => h) (Or.inl ⟨by rfl, ?_⟩) ?_ ?_
         rotate_left
         ·
          intro w'
          go_simp
          with_reducible rfl
         rotate_left
         ·
          exact Goto.ap
         refine pure_ (i := 24) (N := some 29) (v := ?_) (a' := ?_) (Goto.bs 49 33554431) rfl rfl (any_of HT_.out (by kernel_rfl)) (fun _ _ _ h => h) (Or.inl ⟨by rfl, ?_⟩) ?_ ?_
         rotate_left
         ·
          intro w'
          go_simp
          with_reducible rfl
         rotate_left
         ·
          exact Goto.ap
         refine pure_ (i := 25) (N := some 30) (v := ?_) (a' := ?_) (Goto.bs 49 67108863) rfl rfl (any_of HT_.out (by kernel_rfl)) (fun _ _ _ h => h) (Or.inl ⟨by rfl, ?_⟩) ?_ ?_
         rotate_left
         ·
          intro w'
          go_simp
          with_reducible rfl
         rotate_left
         ·
          exact Goto.ap
         refine take_ (i := 26) (N := some 31) (v := ?_) (a' := ?_) (Goto.bs 49 134217727) rfl rfl (take_ofW HT_.out HW_.out (by kernel_rfl)) (fun _ _ _ h => h) (Or.inl ⟨by rfl, ?_⟩) hHeld ?_ ?_
         rotate_left
         ·
          rintro w' ⟨s0, s1, s2, s3⟩
          go_simp
          with_reducible rfl
         rotate_left
         ·
          exact Goto.ap
         refine take_ (i := 27) (N := some 32) (v := ?_) (a' := ?_) (Goto.bs 49 268435455) rfl rfl (take_ofW HT_.out HW_.out (by kernel_rfl)) (fun _ _ _ h => h) (Or.inl ⟨by rfl, ?_⟩) hHeld ?_ ?_
         rotate_left
         ·
          rintro w' ⟨s0, s1, s2, s3⟩
          go_simp
          with_reducible rfl
         rotate_left
         ·
          exact Goto.ap
         refine take_ (i := 29) (N := some 34) (v := ?_) (a' := ?_) (Goto.bs 49 805306367) rfl rfl (take_ofW HT_.out HW_.out (by kernel_rfl)) (fun _ _ _ h => h) (Or.inl ⟨by rfl, ?_⟩) hHeld ?_ ?_
         rotate_left
         ·
          rintro w' ⟨s0, s1, s2, s3⟩
          go_simp
          with_reducible rfl
         rotate_left
         ·
          exact Goto.ap
         refine one_ (i := 28) (N := some 33) (Goto.bs 49 1073741823) rfl rfl (one_of HT_.out (by kernel_rfl)) (by decide) (fun K hK => ?_)
         refine goes_ Try.func22 (by kernel_rfl) rfl #[.agg #[.int .i64 1, .int .u64 1], .agg #[.int .i64 2, .int .u64 3]] (by rfl) rfl rfl (by (try simp only [List.map_toArray, List.map_cons, List.map_nil]); first | done | rfl | (simp only [List.length_drop, List.length_take]; rfl)) ?_
         with_reducible refine (label_Meet.calls 1 1 2 3 t128 t129 _ A11.out).mono ?_
         rintro e w30 ⟨rfl, hb⟩
         refine ⟨_, rfl, ?_⟩
         replace BK120 := Goto.bb BK120 hb; replace BK121 := Goto.bb BK121 hb; replace HB := Goto.hs HB hb
         (try clear hb)
         (try clear hb2)
         (try clear hk)
         (try clear hi)
         refine hK.out _ _ ⟨(blk_cell BK120.out 0).trans rfl, (blk_cell BK120.out 1).trans rfl, (blk_cell BK121.out 0).trans rfl, (blk_cell BK121.out 1).trans rfl⟩ (fun hHeld => ?_)
         clear hK K
         refine norm_ (a' := ?_) ?_ ?_
         rotate_left
         ·
          show Act.put _ (some 33) _ = _
          exact Goto.ap
         refine pure_ (i := 30) (N := some 35) (v := ?_) (a' := ?_) (Goto.bs 49 2147483647) rfl rfl (any_of HT_.out (by kernel_rfl)) (fun _ _ _ h => h) (Or.inl ⟨by rfl, ?_⟩) ?_ ?_
         rotate_left
         ·
          intro w'
          go_simp
          with_reducible rfl
         rotate_left
         ·
          exact Goto.ap
         refine pure_ (i := 31) (N := some 36) (v := ?_) (a' := ?_) (Goto.bs 49 4294967295) rfl rfl (any_of HT_.out (by kernel_rfl)) (fun _ _ _ h => h) (Or.inl ⟨by rfl, ?_⟩) ?_ ?_
         rotate_left
         ·
          intro w'
          go_simp
          with_reducible rfl
         rotate_left
         ·
          exact Goto.ap
         refine pure_ (i := 32) (N := some 37) (v := ?_) (a' := ?_) (Goto.bs 49 8589934591) rfl rfl (any_of HT_.out (by kernel_rfl)) (fun _ _ _ h => h) (Or.inl ⟨by rfl, ?_⟩) ?_ ?_
         rotate_left
         ·
          intro w'
          go_simp
          with_reducible rfl
         rotate_left
         ·
          exact Goto.ap
         refine take_ (i := 33) (N := some 38) (v := ?_) (a' := ?_) (Goto.bs 49 17179869183) rfl rfl (take_ofW HT_.out HW_.out (by kernel_rfl)) (fun _ _ _ h => h) (Or.inl ⟨by rfl, ?_⟩) hHeld ?_ ?_
         rotate_left
         ·
          rintro w' ⟨s0, s1, s2, s3⟩
          go_simp
          with_reducible rfl
         rotate_left
         ·
          exact Goto.ap
         refine take_ (i := 34) (N := some 39) (v := ?_) (a' := ?_) (Goto.bs 49 34359738367) rfl rfl (take_ofW HT_.out HW_.out (by kernel_rfl)) (fun _ _ _ h => h) (Or.inl ⟨by rfl, ?_⟩) hHeld ?_ ?_
         rotate_left
         ·
          rintro w' ⟨s0, s1, s2, s3⟩
          go_simp
          with_reducible rfl
         rotate_left
         ·
          exact Goto.ap
         refine one_ (i := 35) (N := some 40) (Goto.bs 49 68719476735) rfl rfl (one_of HT_.out (by kernel_rfl)) (by decide) (fun K hK => ?_)
         refine Kd.R_lit_step k24 _ 24 ?hg (N := 40) ?hd (xs := ([(⟨1, 1⟩ : S24), (⟨2, 3⟩ : S24)] : List (S24))) (inner := [.int .i64 1, .int .u64 1, .int .i64 2, .int .u64 3]) (ok := fun _ => True) (okp := fun _ => True) ?hr ?hp (fun _ hk => hk) trivial (Below.refl _ _) (Nat.le_refl _) (by simp) ?_; (case hd => rfl); (case hg => rfl); (case hr => first | (go_simp; done) | (go_simp; rfl)); (case hp => exact (Reps.c2 (show Kd.M k24 _ _ _ (⟨1, 1⟩ : S24) [.int .i64 1, .int .u64 1] from (k24_mkM _ _ _ (⟨1, 1⟩ : S24) )) (Reps.c2 (show Kd.M k24 _ _ _ (⟨2, 3⟩ : S24) [.int .i64 2, .int .u64 3] from (k24_mkM _ _ _ (⟨2, 3⟩ : S24) )) (Reps.none _ _))))
         intro v131 w31 ho32 hb hg_ hnew_
         clear hg_ hnew_
         (first | rw [← Ny130.out] at ho32 | (simp only [Int.reduceToNat] at ho32; rw [← Ny130.out] at ho32))
         have HO132 := Goto.m0 (Kd.R_lower (Kd.R_newB (Kd.R_newB ho32 (g := gb120) (o := .cells #[.int .i64 1, .int .u64 1] 24 (0, 0)) (Goto.bx BK120)) (g := gb121) (o := .cells #[.int .i64 2, .int .u64 3] 24 (0, 0)) (Goto.bx BK121)) (below_size (Goto.hx HB))); replace BK120 := Goto.bb BK120 hb; replace BK121 := Goto.bb BK121 hb; replace HB := Goto.hs HB hb; clear hb ho32
         obtain ⟨Ao33, co33, eo33⟩ := Kd.R_slice HO132.out
         (first | subst eo33 | (injection eo33 with f1_ f2_ f3_; have f4_ := f1_.symm; have f5_ := f3_.symm; clear f1_ f2_ f3_; subst f4_; subst f5_))
         refine hK.out _ _ ⟨(blk_cell BK120.out 0).trans rfl, (blk_cell BK120.out 1).trans rfl, (blk_cell BK121.out 0).trans rfl, (blk_cell BK121.out 1).trans rfl⟩ (fun hHeld => ?_)
         clear hK K
         refine norm_ (a' := ?_) ?_ ?_
         rotate_left
         ·
          show Act.put _ (some 40) _ = _
          exact Goto.ap
         refine one_ (i := 36) (N := some 41) (Goto.bs 49 137438953471) rfl rfl (one_of HT_.out (by kernel_rfl)) (by decide) (fun K hK => ?_)
         refine goes_ Try.func24 (by kernel_rfl) rfl #[.slice Ao33 y130.length co33] (by rfl) rfl rfl (by (try simp only [List.map_toArray, List.map_cons, List.map_nil]); first | done | rfl | (simp only [List.length_drop, List.length_take]; rfl)) ?_
         with_reducible refine (label_Chain.calls k (fun k_ => some k_ = (.slice Ao33 y130.length co33 : Value).ownBlock) _ _ y130 true _ ?side1 A13.out).mono ?_
         (case side1 => exact Kd.R_V (Kd.R_tight rfl (HO132.out)))
         rintro e w34 ⟨rfl, hb⟩
         refine ⟨_, rfl, ?_⟩
         replace HO132 := Goto.m0 (Kd.R_below (by (with_reducible repeat (first | apply Kd.R_alloc | apply Kd.R_drewN | apply Kd.R_drew)); exact HO132.out) hb); replace BK120 := Goto.bb BK120 hb; replace BK121 := Goto.bb BK121 hb; replace HB := Goto.hs HB hb
         (try clear hb)
         (try clear hb2)
         (try clear hk)
         (try clear hi)
         refine hK.out _ _ ⟨(blk_cell BK120.out 0).trans rfl, (blk_cell BK120.out 1).trans rfl, (blk_cell BK121.out 0).trans rfl, (blk_cell BK121.out 1).trans rfl⟩ (fun hHeld => ?_)
         clear hK K
         refine norm_ (a' := ?_) ?_ ?_
         rotate_left
         ·
          show Act.put _ (some 41) _ = _
          exact Goto.ap
         refine pure_ (i := 37) (N := some 42) (v := ?_) (a' := ?_) (Goto.bs 49 274877906943) rfl rfl (any_of HT_.out (by kernel_rfl)) (fun _ _ _ h => h) (Or.inl ⟨by rfl, ?_⟩) ?_ ?_
         rotate_left
         ·
          intro w'
          go_simp
          with_reducible rfl
         rotate_left
         ·
          exact Goto.ap
         refine pure_ (i := 38) (N := some 43) (v := ?_) (a' := ?_) (Goto.bs 49 549755813887) rfl rfl (any_of HT_.out (by kernel_rfl)) (fun _ _ _ h => h) (Or.inl ⟨by rfl, ?_⟩) ?_ ?_
         rotate_left
         ·
          intro w'
          go_simp
          with_reducible rfl
         rotate_left
         ·
          exact Goto.ap
         refine take_ (i := 39) (N := some 44) (v := ?_) (a' := ?_) (Goto.bs 49 1099511627775) rfl rfl (take_ofW HT_.out HW_.out (by kernel_rfl)) (fun _ _ _ h => h) (Or.inl ⟨by rfl, ?_⟩) hHeld ?_ ?_
         rotate_left
         ·
          rintro w' ⟨s0, s1, s2, s3⟩
          go_simp
          with_reducible rfl
         rotate_left
         ·
          exact Goto.ap
         refine take_ (i := 40) (N := some 45) (v := ?_) (a' := ?_) (Goto.bs 49 2199023255551) rfl rfl (take_ofW HT_.out HW_.out (by kernel_rfl)) (fun _ _ _ h => h) (Or.inl ⟨by rfl, ?_⟩) hHeld ?_ ?_
         rotate_left
         ·
          rintro w' ⟨s0, s1, s2, s3⟩
          go_simp
          with_reducible rfl
         rotate_left
         ·
          exact Goto.ap
         refine one_ (i := 41) (N := some 46) (Goto.bs 49 4398046511103) rfl rfl (one_of HT_.out (by kernel_rfl)) (by decide) (fun K hK => ?_)
         refine Kd.R_lit_step k24 _ 24 ?hg (N := 46) ?hd (xs := ([(⟨1, 1⟩ : S24), (⟨1, 1⟩ : S24)] : List (S24))) (inner := [.int .i64 1, .int .u64 1, .int .i64 1, .int .u64 1]) (ok := fun _ => True) (okp := fun _ => True) ?hr ?hp (fun _ hk => hk) trivial (Below.refl _ _) (Nat.le_refl _) (by simp) ?_; (case hd => rfl); (case hg => rfl); (case hr => first | (go_simp; done) | (go_simp; rfl)); (case hp => exact (Reps.c2 (show Kd.M k24 _ _ _ (⟨1, 1⟩ : S24) [.int .i64 1, .int .u64 1] from (k24_mkM _ _ _ (⟨1, 1⟩ : S24) )) (Reps.c2 (show Kd.M k24 _ _ _ (⟨1, 1⟩ : S24) [.int .i64 1, .int .u64 1] from (k24_mkM _ _ _ (⟨1, 1⟩ : S24) )) (Reps.none _ _))))
         intro v135 w35 ho36 hb hg_ hnew_
         clear hg_ hnew_
         (first | rw [← Ny134.out] at ho36 | (simp only [Int.reduceToNat] at ho36; rw [← Ny134.out] at ho36))
         have HO136 := Goto.m0 (Kd.R_lower (Kd.R_newB (Kd.R_newB (Kd.R_new' ho36 (Kd.R_lt (by (with_reducible repeat (first | apply Kd.R_alloc | apply Kd.R_drewN | apply Kd.R_drew)); exact HO132.out))) (g := gb120) (o := .cells #[.int .i64 1, .int .u64 1] 24 (0, 0)) (Goto.bx BK120)) (g := gb121) (o := .cells #[.int .i64 2, .int .u64 3] 24 (0, 0)) (Goto.bx BK121)) (below_size (Goto.hx HB))); replace HO132 := Goto.m0 (Kd.R_elder' (by (with_reducible repeat (first | apply Kd.R_alloc | apply Kd.R_drewN | apply Kd.R_drew)); exact HO132.out) (Kd.R_base ho36) hb); replace BK120 := Goto.bb BK120 hb; replace BK121 := Goto.bb BK121 hb; replace HB := Goto.hs HB hb; clear hb ho36
         obtain ⟨Ao37, co37, eo37⟩ := Kd.R_slice HO136.out
         (first | subst eo37 | (injection eo37 with f1_ f2_ f3_; have f4_ := f1_.symm; have f5_ := f3_.symm; clear f1_ f2_ f3_; subst f4_; subst f5_))
         refine hK.out _ _ ⟨(blk_cell BK120.out 0).trans rfl, (blk_cell BK120.out 1).trans rfl, (blk_cell BK121.out 0).trans rfl, (blk_cell BK121.out 1).trans rfl⟩ (fun hHeld => ?_)
         clear hK K
         refine norm_ (a' := ?_) ?_ ?_
         rotate_left
         ·
          show Act.put _ (some 46) _ = _
          exact Goto.ap
         refine one_ (i := 42) (N := some 47) (Goto.bs 49 8796093022207) rfl rfl (one_of HT_.out (by kernel_rfl)) (by decide) (fun K hK => ?_)
         refine goes_ Try.func24 (by kernel_rfl) rfl #[.slice Ao37 y134.length co37] (by rfl) rfl rfl (by (try simp only [List.map_toArray, List.map_cons, List.map_nil]); first | done | rfl | (simp only [List.length_drop, List.length_take]; rfl)) ?_
         with_reducible refine (label_Chain.calls k (fun k_ => some k_ = (.slice Ao37 y134.length co37 : Value).ownBlock) _ _ y134 false _ ?side1 A15.out).mono ?_
         (case side1 => exact Kd.R_V (Kd.R_tight rfl (HO136.out)))
         rintro e w38 ⟨rfl, hb⟩
         refine ⟨_, rfl, ?_⟩
         replace HO132 := Goto.m0 (Kd.R_below (by (with_reducible repeat (first | apply Kd.R_alloc | apply Kd.R_drewN | apply Kd.R_drew)); exact HO132.out) hb); replace HO136 := Goto.m0 (Kd.R_below (by (with_reducible repeat (first | apply Kd.R_alloc | apply Kd.R_drewN | apply Kd.R_drew)); exact HO136.out) hb); replace BK120 := Goto.bb BK120 hb; replace BK121 := Goto.bb BK121 hb; replace HB := Goto.hs HB hb
         (try clear hb)
         (try clear hb2)
         (try clear hk)
         (try clear hi)
         refine hK.out _ _ ⟨(blk_cell BK120.out 0).trans rfl, (blk_cell BK120.out 1).trans rfl, (blk_cell BK121.out 0).trans rfl, (blk_cell BK121.out 1).trans rfl⟩ (fun hHeld => ?_)
         clear hK K
         refine norm_ (a' := ?_) ?_ ?_
         rotate_left
         ·
          show Act.put _ (some 47) _ = _
          exact Goto.ap
         refine pure_ (i := 43) (N := some 48) (v := ?_) (a' := ?_) (Goto.bs 49 17592186044415) rfl rfl (any_of HT_.out (by kernel_rfl)) (fun _ _ _ h => h) (Or.inl ⟨by rfl, ?_⟩) ?_ ?_
         rotate_left
         ·
          intro w'
          go_simp
          with_reducible rfl
         rotate_left
         ·
          exact Goto.ap
         refine pure_ (i := 44) (N := some 49) (v := ?_) (a' := ?_) (Goto.bs 49 35184372088831) rfl rfl (any_of HT_.out (by kernel_rfl)) (fun _ _ _ h => h) (Or.inl ⟨by rfl, ?_⟩) ?_ ?_
         rotate_left
         ·
          intro w'
          go_simp
          with_reducible rfl
         rotate_left
         ·
          exact Goto.ap
         refine pure_ (i := 45) (N := some 50) (v := ?_) (a' := ?_) (Goto.bs 49 70368744177663) rfl rfl (any_of HT_.out (by kernel_rfl)) (fun _ _ _ h => h) (Or.inl ⟨by rfl, ?_⟩) ?_ ?_
         rotate_left
         ·
          intro w'
          go_simp
          with_reducible rfl
         rotate_left
         ·
          exact Goto.ap
         refine one_ (i := 46) (N := some 51) (Goto.bs 49 140737488355327) rfl rfl (one_of HT_.out (by kernel_rfl)) (by decide) (fun K hK => ?_)
         refine goes_ Try.func24 (by kernel_rfl) rfl #[.slice none 0 0] (by rfl) rfl rfl (by (try simp only [List.map_toArray, List.map_cons, List.map_nil]); first | done | rfl | (simp only [List.length_drop, List.length_take]; rfl)) ?_
         refine (label_Chain.calls k (fun k_ => False) _ _ ([] : List (S24)) t138 _ ?side1 A17.out).mono ?_
         (case side1 => exact Kd.V_nil _ _ _ _ _)
         rintro e w39 ⟨rfl, hb⟩
         refine ⟨_, rfl, ?_⟩
         replace HO132 := Goto.m0 (Kd.R_below (by (with_reducible repeat (first | apply Kd.R_alloc | apply Kd.R_drewN | apply Kd.R_drew)); exact HO132.out) hb); replace HO136 := Goto.m0 (Kd.R_below (by (with_reducible repeat (first | apply Kd.R_alloc | apply Kd.R_drewN | apply Kd.R_drew)); exact HO136.out) hb); replace BK120 := Goto.bb BK120 hb; replace BK121 := Goto.bb BK121 hb; replace HB := Goto.hs HB hb
         (try clear hb)
         (try clear hb2)
         (try clear hk)
         (try clear hi)
         refine hK.out _ _ ⟨(blk_cell BK120.out 0).trans rfl, (blk_cell BK120.out 1).trans rfl, (blk_cell BK121.out 0).trans rfl, (blk_cell BK121.out 1).trans rfl⟩ (fun hHeld => ?_)
         clear hK K
         refine norm_ (a' := ?_) ?_ ?_
         rotate_left
         ·
          show Act.put _ (some 51) _ = _
          exact Goto.ap
         refine pure_ (i := 47) (N := some 52) (v := ?_) (a' := ?_) (Goto.bs 49 281474976710655) rfl rfl (any_of HT_.out (by kernel_rfl)) (fun _ _ _ h => h) (Or.inl ⟨by rfl, ?_⟩) ?_ ?_
         rotate_left
         ·
          intro w'
          go_simp
          with_reducible rfl
         rotate_left
         ·
          exact Goto.ap
         refine pure_ (i := 48) (N := some 0) (v := ?_) (a' := ?_) (Goto.bs 49 562949953421311) rfl rfl (any_of HT_.out (by kernel_rfl)) (fun _ _ _ h => h) (Or.inl ⟨by rfl, ?_⟩) ?_ ?_
         rotate_left
         ·
          intro w'
          go_simp
          with_reducible rfl
         rotate_left
         ·
          exact Goto.ap
         refine done_ (done_of HT_.out (by kernel_rfl)) ?_
         try go_wp2
         go_ret
         exact ⟨by first | rfl | (simp [errW_none, errW_some] <;> rfl) | (simp [*, errW_none, errW_some] <;> rfl), by repeat (first | (with_reducible first | exact HB.out | apply below_alloc | apply pw_below_drewN | apply below_drew1 | refine below_set ?_ GE120.out | refine below_set ?_ GE121.out) | exact HB.out)⟩
       ·
        replace c14 := Bool.eq_false_iff.mpr c14
        subst c14
        rw [if_neg (show ¬ (false = true) by decide)] at H
        exact absurd ((Option.some.inj H).trans HRT.out) (by decide)
      ·
       rw [if_neg c12] at H
       have c12b0 : (t128 == 1 && (t129 == 1)) = false := by simpa using c12
       (try (have c12b1 : decide (t128 = 1 && (t129 == 1)) = false := by simpa using c12))
       (try (have c12b2 : (t128 == 1 && (t129 == 1)) = false := by simpa using c12))
       (try (have c12b3 : ¬ (t128 = 1 && (t129 == 1)) := by simpa using c12))
       clear c12
       exact absurd ((Option.some.inj H).trans HRT.out) (by decide)
     ·
      rw [if_neg c10] at H
      have c10b0 : (t126 == 2 && (t127 == 3)) = false := by simpa using c10
      (try (have c10b1 : decide (t126 = 2 && (t127 == 3)) = false := by simpa using c10))
      (try (have c10b2 : (t126 == 2 && (t127 == 3)) = false := by simpa using c10))
      (try (have c10b3 : ¬ (t126 = 2 && (t127 == 3)) := by simpa using c10))
      clear c10
      exact absurd ((Option.some.inj H).trans HRT.out) (by decide)
   ·
    replace c6 := Bool.eq_false_iff.mpr c6
    subst c6
    rw [if_neg (show ¬ (false = true) by decide)] at H
    exact absurd ((Option.some.inj H).trans HRT.out) (by decide)
 ·
  replace c2 := Bool.eq_false_iff.mpr c2
  subst c2
  rw [if_neg (show ¬ (false = true) by decide)] at H
  exact absurd ((Option.some.inj H).trans HRT.out) (by decide)

end Go.Proofs.Ytpbcamdjcnokfaa.P
