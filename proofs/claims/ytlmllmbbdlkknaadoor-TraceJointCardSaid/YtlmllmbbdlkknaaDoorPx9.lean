/- Printed by a program of this workplace (a turned copy of the kit's optional print), out of the translation; not trusted: Lean checks it. -/
import Derived.Test.YtlmllmbbdlkknaaDoorPx0
import Derived.Test.YtlmllmbbdlkknaaDoorPx1
import Derived.Test.YtlmllmbbdlkknaaDoorDec
namespace Go.Proofs.YtlmllmbbdlkknaaDoor.P
open Go.RowKit Go.Proofs.YtlmllmbbdlkknaaDoorW.PrintWords Go.Proofs.YtlmllmbbdlkknaaDoorW.PrintLast Go.Proofs.YtlmllmbbdlkknaaDoorW.PrintMore
attribute [local go_sem] max2_int min2_int max_two min_two max_three min_three max_four min_four   -- for this text's walks alone
set_option linter.unusedVariables false
set_option linter.unusedSimpArgs false

attribute [local go_sem high] eqA35
/-! ### tontineref24_Line: function 10 -/
def tontineref24_Line.f (a0_0 : Int) (a0_1 : Int) (a0_2 : Int) (a0_3 : Int) (a0_4 : Int) (a0_5 : Int) : Option (ByteArray) := if a0_1 = 1 then ((ext_27.f a0_0).bind fun t228 => (if t228.size + 5 ≤ 9223372036854775807 then ((ext_27.f a0_2).bind fun t229 => (if (t228 ++ (⟨#[32, 114, 117, 110, 32]⟩ : ByteArray)).size + t229.size ≤ 9223372036854775807 then (some ((t228 ++ (⟨#[32, 114, 117, 110, 32]⟩ : ByteArray)) ++ t229)) else (none))) else (none))) else (if a0_1 = 2 then ((ext_27.f a0_0).bind fun t230 => (if t230.size + 7 ≤ 9223372036854775807 then ((ext_27.f a0_2).bind fun t231 => (if (t230 ++ (⟨#[32, 114, 101, 112, 108, 121, 32]⟩ : ByteArray)).size + t231.size ≤ 9223372036854775807 then (if ((t230 ++ (⟨#[32, 114, 101, 112, 108, 121, 32]⟩ : ByteArray)) ++ t231).size + 1 ≤ 9223372036854775807 then ((ext_27.f a0_3).bind fun t232 => (if (((t230 ++ (⟨#[32, 114, 101, 112, 108, 121, 32]⟩ : ByteArray)) ++ t231) ++ (⟨#[32]⟩ : ByteArray)).size + t232.size ≤ 9223372036854775807 then (if ((((t230 ++ (⟨#[32, 114, 101, 112, 108, 121, 32]⟩ : ByteArray)) ++ t231) ++ (⟨#[32]⟩ : ByteArray)) ++ t232).size + 1 ≤ 9223372036854775807 then ((ext_27.f a0_4).bind fun t233 => (if (((((t230 ++ (⟨#[32, 114, 101, 112, 108, 121, 32]⟩ : ByteArray)) ++ t231) ++ (⟨#[32]⟩ : ByteArray)) ++ t232) ++ (⟨#[32]⟩ : ByteArray)).size + t233.size ≤ 9223372036854775807 then (if ((((((t230 ++ (⟨#[32, 114, 101, 112, 108, 121, 32]⟩ : ByteArray)) ++ t231) ++ (⟨#[32]⟩ : ByteArray)) ++ t232) ++ (⟨#[32]⟩ : ByteArray)) ++ t233).size + 1 ≤ 9223372036854775807 then ((ext_27.f a0_5).bind fun t234 => (if (((((((t230 ++ (⟨#[32, 114, 101, 112, 108, 121, 32]⟩ : ByteArray)) ++ t231) ++ (⟨#[32]⟩ : ByteArray)) ++ t232) ++ (⟨#[32]⟩ : ByteArray)) ++ t233) ++ (⟨#[32]⟩ : ByteArray)).size + t234.size ≤ 9223372036854775807 then (some ((((((((t230 ++ (⟨#[32, 114, 101, 112, 108, 121, 32]⟩ : ByteArray)) ++ t231) ++ (⟨#[32]⟩ : ByteArray)) ++ t232) ++ (⟨#[32]⟩ : ByteArray)) ++ t233) ++ (⟨#[32]⟩ : ByteArray)) ++ t234)) else (none))) else (none)) else (none))) else (none)) else (none))) else (none)) else (none))) else (none))) else (some (⟨#[]⟩ : ByteArray)))
def tontineref24_Line.T3 : Bool × List (List Nat × List Nat) := (true, [([], []), ([0], [0]), ([1], [1]), ([2], [2]), ([], []), ([4], [4]), ([5, 2], [5]), ([3, 6], [3, 6]), ([7, 6, 0, 1, 2, 3, 4, 5, 6, 7], [7])])
def tontineref24_Line.B3 : List Nat := [0, 1, 3, 7, 0, 16, 55, 127, 255]
theorem tontineref24_Line.tab3 : rtab .any (opsOf Tryd.f10 3) = tontineref24_Line.T3 := by kernel_rfl
theorem tontineref24_Line.bits3 : waitsOk tontineref24_Line.T3.2 tontineref24_Line.B3 = true := by kernel_rfl
def tontineref24_Line.T5 : Bool × List (List Nat × List Nat) := (true, [([], []), ([0], [0]), ([1], [1]), ([2], [2]), ([], []), ([4], [4]), ([5, 2], [5]), ([3, 6], [3, 6]), ([7], [7]), ([], []), ([9], [9]), ([10, 6], [10]), ([8, 11], [8, 11]), ([12], [12]), ([], []), ([14], [14]), ([15, 11], [15]), ([13, 16], [13, 16]), ([17], [17]), ([], []), ([19], [19]), ([20, 16], [20]), ([18, 21], [18, 21]), ([22, 21, 0, 1, 2, 3, 4, 5, 6, 7, 8, 9, 10, 11, 12, 13, 14, 15, 16, 17, 18, 19, 20, 21, 22], [22])])
def tontineref24_Line.B5 : List Nat := [0, 1, 3, 7, 0, 16, 55, 127, 255, 0, 512, 1655, 4095, 8191, 0, 16384, 52855, 131071, 262143, 0, 524288, 1691255, 4194303, 8388607]
theorem tontineref24_Line.tab5 : rtab .any (opsOf Tryd.f10 5) = tontineref24_Line.T5 := by kernel_rfl
theorem tontineref24_Line.bits5 : waitsOk tontineref24_Line.T5.2 tontineref24_Line.B5 = true := by kernel_rfl
set_option maxHeartbeats 8000000 in
set_option maxRecDepth 100000 in
theorem tontineref24_Line.calls (a0_0 : Int) (a0_1 : Int) (a0_2 : Int) (a0_3 : Int) (a0_4 : Int) (a0_5 : Int) (r : ByteArray) (w : World) (h : tontineref24_Line.f a0_0 a0_1 a0_2 a0_3 a0_4 a0_5 = some r) :
    Calls Tryd.prog 10 #[.agg #[.int .i64 a0_0, .int .i64 a0_1, .int .i64 a0_2, .int .i64 a0_3, .int .i64 a0_4, .int .i64 a0_5]] w fun e w' => e = .returned (.string r) ∧ Below w.heap.size w w' := by
 have hu35 := Tryd.underlying35
 have HB := Goto.m0 (Below.refl w.heap.size w)
 have H : (if a0_1 = 1 then ((ext_27.f a0_0).bind fun t228 => (if t228.size + 5 ≤ 9223372036854775807 then ((ext_27.f a0_2).bind fun t229 => (if (t228 ++ (⟨#[32, 114, 117, 110, 32]⟩ : ByteArray)).size + t229.size ≤ 9223372036854775807 then (some ((t228 ++ (⟨#[32, 114, 117, 110, 32]⟩ : ByteArray)) ++ t229)) else (none))) else (none))) else (if a0_1 = 2 then ((ext_27.f a0_0).bind fun t230 => (if t230.size + 7 ≤ 9223372036854775807 then ((ext_27.f a0_2).bind fun t231 => (if (t230 ++ (⟨#[32, 114, 101, 112, 108, 121, 32]⟩ : ByteArray)).size + t231.size ≤ 9223372036854775807 then (if ((t230 ++ (⟨#[32, 114, 101, 112, 108, 121, 32]⟩ : ByteArray)) ++ t231).size + 1 ≤ 9223372036854775807 then ((ext_27.f a0_3).bind fun t232 => (if (((t230 ++ (⟨#[32, 114, 101, 112, 108, 121, 32]⟩ : ByteArray)) ++ t231) ++ (⟨#[32]⟩ : ByteArray)).size + t232.size ≤ 9223372036854775807 then (if ((((t230 ++ (⟨#[32, 114, 101, 112, 108, 121, 32]⟩ : ByteArray)) ++ t231) ++ (⟨#[32]⟩ : ByteArray)) ++ t232).size + 1 ≤ 9223372036854775807 then ((ext_27.f a0_4).bind fun t233 => (if (((((t230 ++ (⟨#[32, 114, 101, 112, 108, 121, 32]⟩ : ByteArray)) ++ t231) ++ (⟨#[32]⟩ : ByteArray)) ++ t232) ++ (⟨#[32]⟩ : ByteArray)).size + t233.size ≤ 9223372036854775807 then (if ((((((t230 ++ (⟨#[32, 114, 101, 112, 108, 121, 32]⟩ : ByteArray)) ++ t231) ++ (⟨#[32]⟩ : ByteArray)) ++ t232) ++ (⟨#[32]⟩ : ByteArray)) ++ t233).size + 1 ≤ 9223372036854775807 then ((ext_27.f a0_5).bind fun t234 => (if (((((((t230 ++ (⟨#[32, 114, 101, 112, 108, 121, 32]⟩ : ByteArray)) ++ t231) ++ (⟨#[32]⟩ : ByteArray)) ++ t232) ++ (⟨#[32]⟩ : ByteArray)) ++ t233) ++ (⟨#[32]⟩ : ByteArray)).size + t234.size ≤ 9223372036854775807 then (some ((((((((t230 ++ (⟨#[32, 114, 101, 112, 108, 121, 32]⟩ : ByteArray)) ++ t231) ++ (⟨#[32]⟩ : ByteArray)) ++ t232) ++ (⟨#[32]⟩ : ByteArray)) ++ t233) ++ (⟨#[32]⟩ : ByteArray)) ++ t234)) else (none))) else (none)) else (none))) else (none)) else (none))) else (none)) else (none))) else (none))) else (some (⟨#[]⟩ : ByteArray)))) = some r := h
 clear h
 by_cases c2 : a0_1 = 1
 ·
  rw [if_pos c2] at H
  have c2b0 : (a0_1 == 1) = true := beq_iff_eq.mpr c2
  have c2b1 : (a0_1 != 1) = false := bne_eq_false_iff_eq.mpr c2
  clear c2
  replace H := Option.bind_eq_some_iff.mp H
  obtain ⟨t228, A30, H⟩ := H
  have A3 := Goto.m0 A30
  clear A30
  by_cases c4 : t228.size + 5 ≤ 9223372036854775807
  ·
   rw [if_pos c4] at H
   have c4b0 := eq_true c4
   have c4b1 : decide (t228.size + 5 ≤ 9223372036854775807) = true := decide_eq_true c4
   try have c4b2 : (9223372036854775807 < t228.size + 5) = False := eq_false (Nat.not_lt.2 c4)
   replace H := Option.bind_eq_some_iff.mp H
   obtain ⟨t229, A50, H⟩ := H
   have A5 := Goto.m0 A50
   clear A50
   by_cases c6 : (t228 ++ (⟨#[32, 114, 117, 110, 32]⟩ : ByteArray)).size + t229.size ≤ 9223372036854775807
   ·
    rw [if_pos c6] at H
    have c6b0 := eq_true c6
    have c6b1 : decide ((t228 ++ (⟨#[32, 114, 117, 110, 32]⟩ : ByteArray)).size + t229.size ≤ 9223372036854775807) = true := decide_eq_true c6
    try have c6b2 : (9223372036854775807 < (t228 ++ (⟨#[32, 114, 117, 110, 32]⟩ : ByteArray)).size + t229.size) = False := eq_false (Nat.not_lt.2 c6)
    try have c6b3 : (9223372036854775807 < t228.size + 5 + t229.size) = False := eq_false (Nat.not_lt.2 (by have h := c6; simp only [ByteArray.size_append] at h; exact h))
    obtain rfl := Option.some.inj H
    go_enter Tryd.func10, Tryd.ntmps10
    try go_wp2_with (first | ((with_reducible refine gate_dst (N := 1) rfl ?_); refine box_event ?hg (N := 1) ?hd (cs := #[.int .i64 a0_0, .int .i64 a0_1, .int .i64 a0_2, .int .i64 a0_3, .int .i64 a0_4, .int .i64 a0_5]) (t := 35) ?hr ?_; (case hd => rfl); (case hg => rfl); (case hr => first | (go_simp; done) | (go_simp; rfl)); intro gb227 hg w7 hbox hb; have BK227 := Goto.m0 (hbox); have GW227 := Goto.gs HB hg; have GE227 := Goto.gs HB hg; replace HB := Goto.hs HB hb; clear hb hbox hg; have hcz8_0 := Goto.bc0 BK227; have hcz8_1 := Goto.bc1 BK227; have hcz8_2 := Goto.bc2 BK227; have hcz8_3 := Goto.bc3 BK227; have hcz8_4 := Goto.bc4 BK227; have hcz8_5 := Goto.bc5 BK227; have hfz8_0 := Goto.bf BK227 0; have hfz8_1 := Goto.bf BK227 1; have hfz8_2 := Goto.bf BK227 2; have hfz8_3 := Goto.bf BK227 3; have hfz8_4 := Goto.bf BK227 4; have hfz8_5 := Goto.bf BK227 5))
    replace BK227 := Goto.m0 (blk_drew BK227.out); replace HB := Goto.m0 (below_drew1 HB.out)
    refine start_ (n := 9) (S := fun w' => w'.cell? ⟨gb227, 0, none⟩ = some (.int .i64 a0_0) ∧ w'.cell? ⟨gb227, 1, none⟩ = some (.int .i64 a0_1) ∧ w'.cell? ⟨gb227, 2, none⟩ = some (.int .i64 a0_2) ∧ w'.cell? ⟨gb227, 3, none⟩ = some (.int .i64 a0_3) ∧ w'.cell? ⟨gb227, 4, none⟩ = some (.int .i64 a0_4) ∧ w'.cell? ⟨gb227, 5, none⟩ = some (.int .i64 a0_5)) (ds := []) (.replicate 9 false) (by kernel_rfl) rfl rfl ⟨(blk_cell BK227.out 0).trans rfl, (blk_cell BK227.out 1).trans rfl, (blk_cell BK227.out 2).trans rfl, (blk_cell BK227.out 3).trans rfl, (blk_cell BK227.out 4).trans rfl, (blk_cell BK227.out 5).trans rfl⟩ (fun hHeld => ?_); refine with_tabW tontineref24_Line.tab3 tontineref24_Line.bits3 (fun HT_ HW_ => ?_)
    generalize w7.drew = w9 at BK227 HB hHeld ⊢
    refine Goto.pu 0 7 9 1 ?_
    refine Goto.pu 4 11 9 17 ?_
    refine take_ (i := 1) (N := some 8) (v := ?_) (a' := ?_) (Goto.bs 9 19) rfl rfl (take_ofW HT_.out HW_.out (by kernel_rfl)) (fun _ _ _ h => h) (Or.inl ⟨by rfl, ?_⟩) hHeld ?_ ?_
    rotate_left
    ·
     rintro w' ⟨s0, s1, s2, s3, s4, s5⟩
     go_simp
     with_reducible rfl
    rotate_left
    ·
     exact Goto.ap
    refine take_ (i := 5) (N := some 12) (v := ?_) (a' := ?_) (Goto.bs 9 51) rfl rfl (take_ofW HT_.out HW_.out (by kernel_rfl)) (fun _ _ _ h => h) (Or.inl ⟨by rfl, ?_⟩) hHeld ?_ ?_
    rotate_left
    ·
     rintro w' ⟨s0, s1, s2, s3, s4, s5⟩
     go_simp
     with_reducible rfl
    rotate_left
    ·
     exact Goto.ap
    refine one_ (i := 2) (N := some 9) (Goto.bs 9 55) rfl rfl (one_of HT_.out (by kernel_rfl)) (by decide) (fun K hK => ?_)
    refine goes_ Tryd.func27 (by kernel_rfl) rfl #[.int .i64 a0_0] (by rfl) rfl rfl (by (try simp only [List.map_toArray, List.map_cons, List.map_nil]); first | done | rfl | (simp only [List.length_drop, List.length_take]; rfl)) ?_
    with_reducible refine (ext_27.calls a0_0 t228 _ A3.out).mono ?_
    rintro e w10 ⟨rfl, hb⟩
    refine ⟨_, rfl, ?_⟩
    replace BK227 := Goto.bb BK227 hb; replace HB := Goto.hs HB hb
    (try clear hb)
    (try clear hb2)
    (try clear hk)
    (try clear hi)
    refine hK.out _ _ ⟨(blk_cell BK227.out 0).trans rfl, (blk_cell BK227.out 1).trans rfl, (blk_cell BK227.out 2).trans rfl, (blk_cell BK227.out 3).trans rfl, (blk_cell BK227.out 4).trans rfl, (blk_cell BK227.out 5).trans rfl⟩ (fun hHeld => ?_)
    clear hK K
    refine norm_ (a' := ?_) ?_ ?_
    rotate_left
    ·
     show Act.put _ (some 9) _ = _
     exact Goto.ap
    refine Goto.pu 3 10 9 63 ?_
    refine one_ (i := 6) (N := some 13) (Goto.bs 9 127) rfl rfl (one_of HT_.out (by kernel_rfl)) (by decide) (fun K hK => ?_)
    refine goes_ Tryd.func27 (by kernel_rfl) rfl #[.int .i64 a0_2] (by rfl) rfl rfl (by (try simp only [List.map_toArray, List.map_cons, List.map_nil]); first | done | rfl | (simp only [List.length_drop, List.length_take]; rfl)) ?_
    with_reducible refine (ext_27.calls a0_2 t229 _ A5.out).mono ?_
    rintro e w11 ⟨rfl, hb⟩
    refine ⟨_, rfl, ?_⟩
    replace BK227 := Goto.bb BK227 hb; replace HB := Goto.hs HB hb
    (try clear hb)
    (try clear hb2)
    (try clear hk)
    (try clear hi)
    refine hK.out _ _ ⟨(blk_cell BK227.out 0).trans rfl, (blk_cell BK227.out 1).trans rfl, (blk_cell BK227.out 2).trans rfl, (blk_cell BK227.out 3).trans rfl, (blk_cell BK227.out 4).trans rfl, (blk_cell BK227.out 5).trans rfl⟩ (fun hHeld => ?_)
    clear hK K
    refine norm_ (a' := ?_) ?_ ?_
    rotate_left
    ·
     show Act.put _ (some 13) _ = _
     exact Goto.ap
    refine Goto.pu 7 14 9 255 ?_
    refine Goto.pu 8 2 9 511 ?_
    refine done_ (done_of HT_.out (by kernel_rfl)) ?_
    try go_wp2
    go_ret
    exact ⟨Goto.er, by repeat (first | (with_reducible first | exact HB.out | apply below_alloc | apply pw_below_drewN | apply below_drew1 | refine below_set ?_ GE227.out) | exact HB.out)⟩
   ·
    rw [if_neg c6] at H
    exact absurd H (by simp)
  ·
   rw [if_neg c4] at H
   exact absurd H (by simp)
 ·
  rw [if_neg c2] at H
  have c2b0 : (a0_1 == 1) = false := beq_eq_false_iff_ne.mpr c2
  have c2b1 : (a0_1 != 1) = true := bne_iff_ne.mpr c2
  by_cases c12 : a0_1 = 2
  ·
   rw [if_pos c12] at H
   have c12b0 : (a0_1 == 2) = true := beq_iff_eq.mpr c12
   have c12b1 : (a0_1 != 2) = false := bne_eq_false_iff_eq.mpr c12
   clear c12
   replace H := Option.bind_eq_some_iff.mp H
   obtain ⟨t230, A130, H⟩ := H
   have A13 := Goto.m0 A130
   clear A130
   by_cases c14 : t230.size + 7 ≤ 9223372036854775807
   ·
    rw [if_pos c14] at H
    have c14b0 := eq_true c14
    have c14b1 : decide (t230.size + 7 ≤ 9223372036854775807) = true := decide_eq_true c14
    try have c14b2 : (9223372036854775807 < t230.size + 7) = False := eq_false (Nat.not_lt.2 c14)
    replace H := Option.bind_eq_some_iff.mp H
    obtain ⟨t231, A150, H⟩ := H
    have A15 := Goto.m0 A150
    clear A150
    by_cases c16 : (t230 ++ (⟨#[32, 114, 101, 112, 108, 121, 32]⟩ : ByteArray)).size + t231.size ≤ 9223372036854775807
    ·
     rw [if_pos c16] at H
     have c16b0 := eq_true c16
     have c16b1 : decide ((t230 ++ (⟨#[32, 114, 101, 112, 108, 121, 32]⟩ : ByteArray)).size + t231.size ≤ 9223372036854775807) = true := decide_eq_true c16
     try have c16b2 : (9223372036854775807 < (t230 ++ (⟨#[32, 114, 101, 112, 108, 121, 32]⟩ : ByteArray)).size + t231.size) = False := eq_false (Nat.not_lt.2 c16)
     try have c16b3 : (9223372036854775807 < t230.size + 7 + t231.size) = False := eq_false (Nat.not_lt.2 (by have h := c16; simp only [ByteArray.size_append] at h; exact h))
     by_cases c17 : ((t230 ++ (⟨#[32, 114, 101, 112, 108, 121, 32]⟩ : ByteArray)) ++ t231).size + 1 ≤ 9223372036854775807
     ·
      rw [if_pos c17] at H
      have c17b0 := eq_true c17
      have c17b1 : decide (((t230 ++ (⟨#[32, 114, 101, 112, 108, 121, 32]⟩ : ByteArray)) ++ t231).size + 1 ≤ 9223372036854775807) = true := decide_eq_true c17
      try have c17b2 : (9223372036854775807 < ((t230 ++ (⟨#[32, 114, 101, 112, 108, 121, 32]⟩ : ByteArray)) ++ t231).size + 1) = False := eq_false (Nat.not_lt.2 c17)
      try have c17b3 : (9223372036854775807 < t230.size + 7 + t231.size + 1) = False := eq_false (Nat.not_lt.2 (by have h := c17; simp only [ByteArray.size_append] at h; exact h))
      replace H := Option.bind_eq_some_iff.mp H
      obtain ⟨t232, A180, H⟩ := H
      have A18 := Goto.m0 A180
      clear A180
      by_cases c19 : (((t230 ++ (⟨#[32, 114, 101, 112, 108, 121, 32]⟩ : ByteArray)) ++ t231) ++ (⟨#[32]⟩ : ByteArray)).size + t232.size ≤ 9223372036854775807
      ·
       rw [if_pos c19] at H
       have c19b0 := eq_true c19
       have c19b1 : decide ((((t230 ++ (⟨#[32, 114, 101, 112, 108, 121, 32]⟩ : ByteArray)) ++ t231) ++ (⟨#[32]⟩ : ByteArray)).size + t232.size ≤ 9223372036854775807) = true := decide_eq_true c19
       try have c19b2 : (9223372036854775807 < (((t230 ++ (⟨#[32, 114, 101, 112, 108, 121, 32]⟩ : ByteArray)) ++ t231) ++ (⟨#[32]⟩ : ByteArray)).size + t232.size) = False := eq_false (Nat.not_lt.2 c19)
       try have c19b3 : (9223372036854775807 < t230.size + 7 + t231.size + 1 + t232.size) = False := eq_false (Nat.not_lt.2 (by have h := c19; simp only [ByteArray.size_append] at h; exact h))
       by_cases c20 : ((((t230 ++ (⟨#[32, 114, 101, 112, 108, 121, 32]⟩ : ByteArray)) ++ t231) ++ (⟨#[32]⟩ : ByteArray)) ++ t232).size + 1 ≤ 9223372036854775807
       ·
        rw [if_pos c20] at H
        have c20b0 := eq_true c20
        have c20b1 : decide (((((t230 ++ (⟨#[32, 114, 101, 112, 108, 121, 32]⟩ : ByteArray)) ++ t231) ++ (⟨#[32]⟩ : ByteArray)) ++ t232).size + 1 ≤ 9223372036854775807) = true := decide_eq_true c20
        try have c20b2 : (9223372036854775807 < ((((t230 ++ (⟨#[32, 114, 101, 112, 108, 121, 32]⟩ : ByteArray)) ++ t231) ++ (⟨#[32]⟩ : ByteArray)) ++ t232).size + 1) = False := eq_false (Nat.not_lt.2 c20)
        try have c20b3 : (9223372036854775807 < t230.size + 7 + t231.size + 1 + t232.size + 1) = False := eq_false (Nat.not_lt.2 (by have h := c20; simp only [ByteArray.size_append] at h; exact h))
        replace H := Option.bind_eq_some_iff.mp H
        obtain ⟨t233, A210, H⟩ := H
        have A21 := Goto.m0 A210
        clear A210
        by_cases c22 : (((((t230 ++ (⟨#[32, 114, 101, 112, 108, 121, 32]⟩ : ByteArray)) ++ t231) ++ (⟨#[32]⟩ : ByteArray)) ++ t232) ++ (⟨#[32]⟩ : ByteArray)).size + t233.size ≤ 9223372036854775807
        ·
         rw [if_pos c22] at H
         have c22b0 := eq_true c22
         have c22b1 : decide ((((((t230 ++ (⟨#[32, 114, 101, 112, 108, 121, 32]⟩ : ByteArray)) ++ t231) ++ (⟨#[32]⟩ : ByteArray)) ++ t232) ++ (⟨#[32]⟩ : ByteArray)).size + t233.size ≤ 9223372036854775807) = true := decide_eq_true c22
         try have c22b2 : (9223372036854775807 < (((((t230 ++ (⟨#[32, 114, 101, 112, 108, 121, 32]⟩ : ByteArray)) ++ t231) ++ (⟨#[32]⟩ : ByteArray)) ++ t232) ++ (⟨#[32]⟩ : ByteArray)).size + t233.size) = False := eq_false (Nat.not_lt.2 c22)
         try have c22b3 : (9223372036854775807 < t230.size + 7 + t231.size + 1 + t232.size + 1 + t233.size) = False := eq_false (Nat.not_lt.2 (by have h := c22; simp only [ByteArray.size_append] at h; exact h))
         by_cases c23 : ((((((t230 ++ (⟨#[32, 114, 101, 112, 108, 121, 32]⟩ : ByteArray)) ++ t231) ++ (⟨#[32]⟩ : ByteArray)) ++ t232) ++ (⟨#[32]⟩ : ByteArray)) ++ t233).size + 1 ≤ 9223372036854775807
         ·
          rw [if_pos c23] at H
          have c23b0 := eq_true c23
          have c23b1 : decide (((((((t230 ++ (⟨#[32, 114, 101, 112, 108, 121, 32]⟩ : ByteArray)) ++ t231) ++ (⟨#[32]⟩ : ByteArray)) ++ t232) ++ (⟨#[32]⟩ : ByteArray)) ++ t233).size + 1 ≤ 9223372036854775807) = true := decide_eq_true c23
          try have c23b2 : (9223372036854775807 < ((((((t230 ++ (⟨#[32, 114, 101, 112, 108, 121, 32]⟩ : ByteArray)) ++ t231) ++ (⟨#[32]⟩ : ByteArray)) ++ t232) ++ (⟨#[32]⟩ : ByteArray)) ++ t233).size + 1) = False := eq_false (Nat.not_lt.2 c23)
          try have c23b3 : (9223372036854775807 < t230.size + 7 + t231.size + 1 + t232.size + 1 + t233.size + 1) = False := eq_false (Nat.not_lt.2 (by have h := c23; simp only [ByteArray.size_append] at h; exact h))
          replace H := Option.bind_eq_some_iff.mp H
          obtain ⟨t234, A240, H⟩ := H
          have A24 := Goto.m0 A240
          clear A240
          by_cases c25 : (((((((t230 ++ (⟨#[32, 114, 101, 112, 108, 121, 32]⟩ : ByteArray)) ++ t231) ++ (⟨#[32]⟩ : ByteArray)) ++ t232) ++ (⟨#[32]⟩ : ByteArray)) ++ t233) ++ (⟨#[32]⟩ : ByteArray)).size + t234.size ≤ 9223372036854775807
          ·
           rw [if_pos c25] at H
           have c25b0 := eq_true c25
           have c25b1 : decide ((((((((t230 ++ (⟨#[32, 114, 101, 112, 108, 121, 32]⟩ : ByteArray)) ++ t231) ++ (⟨#[32]⟩ : ByteArray)) ++ t232) ++ (⟨#[32]⟩ : ByteArray)) ++ t233) ++ (⟨#[32]⟩ : ByteArray)).size + t234.size ≤ 9223372036854775807) = true := decide_eq_true c25
           try have c25b2 : (9223372036854775807 < (((((((t230 ++ (⟨#[32, 114, 101, 112, 108, 121, 32]⟩ : ByteArray)) ++ t231) ++ (⟨#[32]⟩ : ByteArray)) ++ t232) ++ (⟨#[32]⟩ : ByteArray)) ++ t233) ++ (⟨#[32]⟩ : ByteArray)).size + t234.size) = False := eq_false (Nat.not_lt.2 c25)
           try have c25b3 : (9223372036854775807 < t230.size + 7 + t231.size + 1 + t232.size + 1 + t233.size + 1 + t234.size) = False := eq_false (Nat.not_lt.2 (by have h := c25; simp only [ByteArray.size_append] at h; exact h))
           obtain rfl := Option.some.inj H
           go_enter Tryd.func10, Tryd.ntmps10
           try go_wp2_with (first | ((with_reducible refine gate_dst (N := 1) rfl ?_); refine box_event ?hg (N := 1) ?hd (cs := #[.int .i64 a0_0, .int .i64 a0_1, .int .i64 a0_2, .int .i64 a0_3, .int .i64 a0_4, .int .i64 a0_5]) (t := 35) ?hr ?_; (case hd => rfl); (case hg => rfl); (case hr => first | (go_simp; done) | (go_simp; rfl)); intro gb227 hg w26 hbox hb; have BK227 := Goto.m0 (hbox); have GW227 := Goto.gs HB hg; have GE227 := Goto.gs HB hg; replace HB := Goto.hs HB hb; clear hb hbox hg; have hcz27_0 := Goto.bc0 BK227; have hcz27_1 := Goto.bc1 BK227; have hcz27_2 := Goto.bc2 BK227; have hcz27_3 := Goto.bc3 BK227; have hcz27_4 := Goto.bc4 BK227; have hcz27_5 := Goto.bc5 BK227; have hfz27_0 := Goto.bf BK227 0; have hfz27_1 := Goto.bf BK227 1; have hfz27_2 := Goto.bf BK227 2; have hfz27_3 := Goto.bf BK227 3; have hfz27_4 := Goto.bf BK227 4; have hfz27_5 := Goto.bf BK227 5))
           replace BK227 := Goto.m0 (blk_drew BK227.out); replace HB := Goto.m0 (below_drew1 HB.out)
           refine start_ (n := 24) (S := fun w' => w'.cell? ⟨gb227, 0, none⟩ = some (.int .i64 a0_0) ∧ w'.cell? ⟨gb227, 1, none⟩ = some (.int .i64 a0_1) ∧ w'.cell? ⟨gb227, 2, none⟩ = some (.int .i64 a0_2) ∧ w'.cell? ⟨gb227, 3, none⟩ = some (.int .i64 a0_3) ∧ w'.cell? ⟨gb227, 4, none⟩ = some (.int .i64 a0_4) ∧ w'.cell? ⟨gb227, 5, none⟩ = some (.int .i64 a0_5)) (ds := []) (.replicate 24 false) (by kernel_rfl) rfl rfl ⟨(blk_cell BK227.out 0).trans rfl, (blk_cell BK227.out 1).trans rfl, (blk_cell BK227.out 2).trans rfl, (blk_cell BK227.out 3).trans rfl, (blk_cell BK227.out 4).trans rfl, (blk_cell BK227.out 5).trans rfl⟩ (fun hHeld => ?_); refine with_tabW tontineref24_Line.tab5 tontineref24_Line.bits5 (fun HT_ HW_ => ?_)
           generalize w26.drew = w28 at BK227 HB hHeld ⊢
           refine Goto.pu 0 17 24 1 ?_
           refine Goto.pu 4 21 24 17 ?_
           refine Goto.pu 9 26 24 529 ?_
           refine Goto.pu 14 31 24 16913 ?_
           refine Goto.pu 19 36 24 541201 ?_
           refine take_ (i := 1) (N := some 18) (v := ?_) (a' := ?_) (Goto.bs 24 541203) rfl rfl (take_ofW HT_.out HW_.out (by kernel_rfl)) (fun _ _ _ h => h) (Or.inl ⟨by rfl, ?_⟩) hHeld ?_ ?_
           rotate_left
           ·
            rintro w' ⟨s0, s1, s2, s3, s4, s5⟩
            go_simp
            with_reducible rfl
           rotate_left
           ·
            exact Goto.ap
           refine take_ (i := 5) (N := some 22) (v := ?_) (a' := ?_) (Goto.bs 24 541235) rfl rfl (take_ofW HT_.out HW_.out (by kernel_rfl)) (fun _ _ _ h => h) (Or.inl ⟨by rfl, ?_⟩) hHeld ?_ ?_
           rotate_left
           ·
            rintro w' ⟨s0, s1, s2, s3, s4, s5⟩
            go_simp
            with_reducible rfl
           rotate_left
           ·
            exact Goto.ap
           refine take_ (i := 10) (N := some 27) (v := ?_) (a' := ?_) (Goto.bs 24 542259) rfl rfl (take_ofW HT_.out HW_.out (by kernel_rfl)) (fun _ _ _ h => h) (Or.inl ⟨by rfl, ?_⟩) hHeld ?_ ?_
           rotate_left
           ·
            rintro w' ⟨s0, s1, s2, s3, s4, s5⟩
            go_simp
            with_reducible rfl
           rotate_left
           ·
            exact Goto.ap
           refine take_ (i := 15) (N := some 32) (v := ?_) (a' := ?_) (Goto.bs 24 575027) rfl rfl (take_ofW HT_.out HW_.out (by kernel_rfl)) (fun _ _ _ h => h) (Or.inl ⟨by rfl, ?_⟩) hHeld ?_ ?_
           rotate_left
           ·
            rintro w' ⟨s0, s1, s2, s3, s4, s5⟩
            go_simp
            with_reducible rfl
           rotate_left
           ·
            exact Goto.ap
           refine take_ (i := 20) (N := some 37) (v := ?_) (a' := ?_) (Goto.bs 24 1623603) rfl rfl (take_ofW HT_.out HW_.out (by kernel_rfl)) (fun _ _ _ h => h) (Or.inl ⟨by rfl, ?_⟩) hHeld ?_ ?_
           rotate_left
           ·
            rintro w' ⟨s0, s1, s2, s3, s4, s5⟩
            go_simp
            with_reducible rfl
           rotate_left
           ·
            exact Goto.ap
           refine one_ (i := 2) (N := some 19) (Goto.bs 24 1623607) rfl rfl (one_of HT_.out (by kernel_rfl)) (by decide) (fun K hK => ?_)
           refine goes_ Tryd.func27 (by kernel_rfl) rfl #[.int .i64 a0_0] (by rfl) rfl rfl (by (try simp only [List.map_toArray, List.map_cons, List.map_nil]); first | done | rfl | (simp only [List.length_drop, List.length_take]; rfl)) ?_
           with_reducible refine (ext_27.calls a0_0 t230 _ A13.out).mono ?_
           rintro e w29 ⟨rfl, hb⟩
           refine ⟨_, rfl, ?_⟩
           replace BK227 := Goto.bb BK227 hb; replace HB := Goto.hs HB hb
           (try clear hb)
           (try clear hb2)
           (try clear hk)
           (try clear hi)
           refine hK.out _ _ ⟨(blk_cell BK227.out 0).trans rfl, (blk_cell BK227.out 1).trans rfl, (blk_cell BK227.out 2).trans rfl, (blk_cell BK227.out 3).trans rfl, (blk_cell BK227.out 4).trans rfl, (blk_cell BK227.out 5).trans rfl⟩ (fun hHeld => ?_)
           clear hK K
           refine norm_ (a' := ?_) ?_ ?_
           rotate_left
           ·
            show Act.put _ (some 19) _ = _
            exact Goto.ap
           refine Goto.pu 3 20 24 1623615 ?_
           refine one_ (i := 6) (N := some 23) (Goto.bs 24 1623679) rfl rfl (one_of HT_.out (by kernel_rfl)) (by decide) (fun K hK => ?_)
           refine goes_ Tryd.func27 (by kernel_rfl) rfl #[.int .i64 a0_2] (by rfl) rfl rfl (by (try simp only [List.map_toArray, List.map_cons, List.map_nil]); first | done | rfl | (simp only [List.length_drop, List.length_take]; rfl)) ?_
           with_reducible refine (ext_27.calls a0_2 t231 _ A15.out).mono ?_
           rintro e w30 ⟨rfl, hb⟩
           refine ⟨_, rfl, ?_⟩
           replace BK227 := Goto.bb BK227 hb; replace HB := Goto.hs HB hb
           (try clear hb)
           (try clear hb2)
           (try clear hk)
           (try clear hi)
           refine hK.out _ _ ⟨(blk_cell BK227.out 0).trans rfl, (blk_cell BK227.out 1).trans rfl, (blk_cell BK227.out 2).trans rfl, (blk_cell BK227.out 3).trans rfl, (blk_cell BK227.out 4).trans rfl, (blk_cell BK227.out 5).trans rfl⟩ (fun hHeld => ?_)
           clear hK K
           refine norm_ (a' := ?_) ?_ ?_
           rotate_left
           ·
            show Act.put _ (some 23) _ = _
            exact Goto.ap
           refine Goto.pu 7 24 24 1623807 ?_
           refine Goto.pu 8 25 24 1624063 ?_
           refine one_ (i := 11) (N := some 28) (Goto.bs 24 1626111) rfl rfl (one_of HT_.out (by kernel_rfl)) (by decide) (fun K hK => ?_)
           refine goes_ Tryd.func27 (by kernel_rfl) rfl #[.int .i64 a0_3] (by rfl) rfl rfl (by (try simp only [List.map_toArray, List.map_cons, List.map_nil]); first | done | rfl | (simp only [List.length_drop, List.length_take]; rfl)) ?_
           with_reducible refine (ext_27.calls a0_3 t232 _ A18.out).mono ?_
           rintro e w31 ⟨rfl, hb⟩
           refine ⟨_, rfl, ?_⟩
           replace BK227 := Goto.bb BK227 hb; replace HB := Goto.hs HB hb
           (try clear hb)
           (try clear hb2)
           (try clear hk)
           (try clear hi)
           refine hK.out _ _ ⟨(blk_cell BK227.out 0).trans rfl, (blk_cell BK227.out 1).trans rfl, (blk_cell BK227.out 2).trans rfl, (blk_cell BK227.out 3).trans rfl, (blk_cell BK227.out 4).trans rfl, (blk_cell BK227.out 5).trans rfl⟩ (fun hHeld => ?_)
           clear hK K
           refine norm_ (a' := ?_) ?_ ?_
           rotate_left
           ·
            show Act.put _ (some 28) _ = _
            exact Goto.ap
           refine Goto.pu 12 29 24 1630207 ?_
           refine Goto.pu 13 30 24 1638399 ?_
           refine one_ (i := 16) (N := some 33) (Goto.bs 24 1703935) rfl rfl (one_of HT_.out (by kernel_rfl)) (by decide) (fun K hK => ?_)
           refine goes_ Tryd.func27 (by kernel_rfl) rfl #[.int .i64 a0_4] (by rfl) rfl rfl (by (try simp only [List.map_toArray, List.map_cons, List.map_nil]); first | done | rfl | (simp only [List.length_drop, List.length_take]; rfl)) ?_
           with_reducible refine (ext_27.calls a0_4 t233 _ A21.out).mono ?_
           rintro e w32 ⟨rfl, hb⟩
           refine ⟨_, rfl, ?_⟩
           replace BK227 := Goto.bb BK227 hb; replace HB := Goto.hs HB hb
           (try clear hb)
           (try clear hb2)
           (try clear hk)
           (try clear hi)
           refine hK.out _ _ ⟨(blk_cell BK227.out 0).trans rfl, (blk_cell BK227.out 1).trans rfl, (blk_cell BK227.out 2).trans rfl, (blk_cell BK227.out 3).trans rfl, (blk_cell BK227.out 4).trans rfl, (blk_cell BK227.out 5).trans rfl⟩ (fun hHeld => ?_)
           clear hK K
           refine norm_ (a' := ?_) ?_ ?_
           rotate_left
           ·
            show Act.put _ (some 33) _ = _
            exact Goto.ap
           refine Goto.pu 17 34 24 1835007 ?_
           refine Goto.pu 18 35 24 2097151 ?_
           refine one_ (i := 21) (N := some 38) (Goto.bs 24 4194303) rfl rfl (one_of HT_.out (by kernel_rfl)) (by decide) (fun K hK => ?_)
           refine goes_ Tryd.func27 (by kernel_rfl) rfl #[.int .i64 a0_5] (by rfl) rfl rfl (by (try simp only [List.map_toArray, List.map_cons, List.map_nil]); first | done | rfl | (simp only [List.length_drop, List.length_take]; rfl)) ?_
           with_reducible refine (ext_27.calls a0_5 t234 _ A24.out).mono ?_
           rintro e w33 ⟨rfl, hb⟩
           refine ⟨_, rfl, ?_⟩
           replace BK227 := Goto.bb BK227 hb; replace HB := Goto.hs HB hb
           (try clear hb)
           (try clear hb2)
           (try clear hk)
           (try clear hi)
           refine hK.out _ _ ⟨(blk_cell BK227.out 0).trans rfl, (blk_cell BK227.out 1).trans rfl, (blk_cell BK227.out 2).trans rfl, (blk_cell BK227.out 3).trans rfl, (blk_cell BK227.out 4).trans rfl, (blk_cell BK227.out 5).trans rfl⟩ (fun hHeld => ?_)
           clear hK K
           refine norm_ (a' := ?_) ?_ ?_
           rotate_left
           ·
            show Act.put _ (some 38) _ = _
            exact Goto.ap
           refine Goto.pu 22 39 24 8388607 ?_
           refine Goto.pu 23 2 24 16777215 ?_
           refine done_ (done_of HT_.out (by kernel_rfl)) ?_
           try go_wp2
           go_ret
           exact ⟨Goto.er, by repeat (first | (with_reducible first | exact HB.out | apply below_alloc | apply pw_below_drewN | apply below_drew1 | refine below_set ?_ GE227.out) | exact HB.out)⟩
          ·
           rw [if_neg c25] at H
           exact absurd H (by simp)
         ·
          rw [if_neg c23] at H
          exact absurd H (by simp)
        ·
         rw [if_neg c22] at H
         exact absurd H (by simp)
       ·
        rw [if_neg c20] at H
        exact absurd H (by simp)
      ·
       rw [if_neg c19] at H
       exact absurd H (by simp)
     ·
      rw [if_neg c17] at H
      exact absurd H (by simp)
    ·
     rw [if_neg c16] at H
     exact absurd H (by simp)
   ·
    rw [if_neg c14] at H
    exact absurd H (by simp)
  ·
   rw [if_neg c12] at H
   have c12b0 : (a0_1 == 2) = false := beq_eq_false_iff_ne.mpr c12
   have c12b1 : (a0_1 != 2) = true := bne_iff_ne.mpr c12
   obtain rfl := Option.some.inj H
   go_enter Tryd.func10, Tryd.ntmps10
   go_wp2_with (first | ((with_reducible refine gate_dst (N := 1) rfl ?_); refine box_event ?hg (N := 1) ?hd (cs := #[.int .i64 a0_0, .int .i64 a0_1, .int .i64 a0_2, .int .i64 a0_3, .int .i64 a0_4, .int .i64 a0_5]) (t := 35) ?hr ?_; (case hd => rfl); (case hg => rfl); (case hr => first | (go_simp; done) | (go_simp; rfl)); intro gb227 hg w34 hbox hb; have BK227 := Goto.m0 (hbox); have GW227 := Goto.gs HB hg; have GE227 := Goto.gs HB hg; replace HB := Goto.hs HB hb; clear hb hbox hg; have hcz35_0 := Goto.bc0 BK227; have hcz35_1 := Goto.bc1 BK227; have hcz35_2 := Goto.bc2 BK227; have hcz35_3 := Goto.bc3 BK227; have hcz35_4 := Goto.bc4 BK227; have hcz35_5 := Goto.bc5 BK227; have hfz35_0 := Goto.bf BK227 0; have hfz35_1 := Goto.bf BK227 1; have hfz35_2 := Goto.bf BK227 2; have hfz35_3 := Goto.bf BK227 3; have hfz35_4 := Goto.bf BK227 4; have hfz35_5 := Goto.bf BK227 5))
   go_ret
   exact ⟨Goto.er, by repeat (first | (with_reducible first | exact HB.out | apply below_alloc | apply pw_below_drewN | apply below_drew1 | refine below_set ?_ GE227.out) | exact HB.out)⟩

/-! ### tontineref21_SameObs: function 12 -/
def tontineref21_SameObs.l0 : Nat → List (S35) → List (S35) → Int → Option (Bool)
  | 0, _, _, _ => none
  | k + 1, x0, x1, x5 => if x5 < (x0.length : Int) then (if 0 ≤ x5 then (if x5 < (x1.length : Int) then (if (!(((rd_T35 x0 x5).f0) == ((rd_T35 x1 x5).f0)) || (!(((rd_T35 x0 x5).f1) == ((rd_T35 x1 x5).f1)) || (!(((rd_T35 x0 x5).f2) == ((rd_T35 x1 x5).f2)) || (!(((rd_T35 x0 x5).f3) == ((rd_T35 x1 x5).f3)) || (!(((rd_T35 x0 x5).f4) == ((rd_T35 x1 x5).f4)) || (!(((rd_T35 x0 x5).f5) == ((rd_T35 x1 x5).f5)))))))) = true then (some false) else (tontineref21_SameObs.l0 k x0 x1 (wrap64 (x5 + 1)))) else (none)) else (none)) else (some true)
def tontineref21_SameObs.f (k : Nat) (l0 : List (S35)) (l1 : List (S35)) : Option (Bool) := if (l0.length : Int) = (l1.length : Int) then (tontineref21_SameObs.l0 k l0 l1 0) else (some false)
theorem tontineref21_SameObs.mono_l : ∀ k, (∀ y0 y1 y2, LeO (tontineref21_SameObs.l0 k y0 y1 y2) (tontineref21_SameObs.l0 (k + 1) y0 y1 y2))
  | 0 => fun _ _ _ r h => by simp [tontineref21_SameObs.l0] at h
  | k + 1 => by
    have ih0 := tontineref21_SameObs.mono_l k
    · intro y0 y1 y2
      unfold tontineref21_SameObs.l0
      repeat' first
      | (with_reducible exact ih0 _ _ _)
      | (with_reducible exact LeO.refl _)
      | (with_reducible exact LeO.none _)
      | (with_reducible refine LeO.ite ?_ ?_)
      | (with_reducible refine LeO.bind ?_ (fun _ => ?_))
      | exact ih0 _ _ _
      | exact LeO.none _
      | refine LeO.ite ?_ ?_
      | refine LeO.bind ?_ (fun _ => ?_)
theorem tontineref21_SameObs.mono : ∀ a0 a1 k, LeO (tontineref21_SameObs.f k a0 a1) (tontineref21_SameObs.f (k + 1) a0 a1) := by
 intro a0 a1 k
 have ih0 := tontineref21_SameObs.mono_l k
 unfold tontineref21_SameObs.f
 repeat' first
   | (with_reducible exact ih0 _ _ _)
   | (with_reducible exact LeO.refl _)
   | (with_reducible exact LeO.none _)
   | (with_reducible refine LeO.ite ?_ ?_)
   | (with_reducible refine LeO.bind ?_ (fun _ => ?_))
   | exact ih0 _ _ _
   | exact LeO.none _
   | refine LeO.ite ?_ ?_
   | refine LeO.bind ?_ (fun _ => ?_)
set_option maxHeartbeats 8000000 in
set_option maxRecDepth 100000 in
theorem tontineref21_SameObs.calls (k : Nat) (A0 : Option Addr) (c0 : Nat) (l0 : List (S35)) (A1 : Option Addr) (c1 : Nat) (l1 : List (S35)) (r : Bool) (w : World) (hr0 : Kd.C k35 w A0 l0.length l0) (hc0 : l0.length ≤ c0) (hr1 : Kd.C k35 w A1 l1.length l1) (hc1 : l1.length ≤ c1) (h : tontineref21_SameObs.f k l0 l1 = some r) :
    Calls Tryd.prog 12 #[.slice A0 l0.length c0, .slice A1 l1.length c1] w fun e w' => e = .returned (.bool r) ∧ Drawn0 w w' := by
 have hu35 := Tryd.underlying35
 have HR0 := Goto.m0 hr0
 have HC0 := Goto.m0 hc0
 clear hr0 hc0
 have HR1 := Goto.m0 hr1
 have HC1 := Goto.m0 hc1
 clear hr1 hc1
 have H : (if (l0.length : Int) = (l1.length : Int) then (tontineref21_SameObs.l0 k l0 l1 0) else (some false)) = some r := h
 clear h
 by_cases c3 : (l0.length : Int) = (l1.length : Int)
 ·
  rw [if_pos c3] at H
  have c3b0 : ((l0.length : Int) == (l1.length : Int)) = true := beq_iff_eq.mpr c3
  have c3b1 : ((l0.length : Int) != (l1.length : Int)) = false := bne_eq_false_iff_eq.mpr c3
  have c3b2 : (l0.length == l1.length) = true := by first | simpa using c3 | (simp at c3 ⊢; omega)
  clear c3
  have H' := Goto.m0 H
  clear H
  go_enter Tryd.func12, Tryd.ntmps12
  go_wp2
  repeat (go_quiet (fail); try go_wp2)
  go_loopg [5] k (fun kq v5 w' => ∃ (x5_1 : Int), v5 = .int .i64 x5_1 ∧ Aside0 (tontineref21_SameObs.l0 kq l0 l1 x5_1 = some r) ∧ Aside0 (kq ≤ k) ∧ Drawn0 w w')
  case atStart => exact ⟨(0), (by first | rfl | (simp; done) | (simp [*]; done)), H', ⟨Nat.le_refl _⟩, by repeat (first | exact Drawn0.refl _ | apply Drawn0.step)⟩
  case round =>
   clear H'
   try clear c1; try clear p2; try clear c3; try clear c3b0; try clear c3b1; try clear c3b2
   obtain ⟨x5_1, rfl, HA, HK1, ⟨m1, rfl⟩⟩ := hrel
   cases gk with
   | zero => exact absurd HA.out (by simp [tontineref21_SameObs.l0])
   | succ k1 =>
    have H := HA.out; clear HA
    simp only [tontineref21_SameObs.l0] at H
    by_cases c4 : x5_1 < (l0.length : Int)
    ·
     rw [if_pos c4] at H
     have c4b0 : decide (x5_1 < (l0.length : Int)) = true := decide_eq_true c4
     clear c4
     by_cases c5 : 0 ≤ x5_1
     ·
      rw [if_pos c5] at H
      have c5b0 : decide (0 ≤ x5_1) = true := decide_eq_true c5
      clear c5
      by_cases c6 : x5_1 < (l1.length : Int)
      ·
       rw [if_pos c6] at H
       have c6b0 : decide (x5_1 < (l1.length : Int)) = true := decide_eq_true c6
       clear c6
       by_cases c7 : (!(((rd_T35 l0 x5_1).f0) == ((rd_T35 l1 x5_1).f0)) || (!(((rd_T35 l0 x5_1).f1) == ((rd_T35 l1 x5_1).f1)) || (!(((rd_T35 l0 x5_1).f2) == ((rd_T35 l1 x5_1).f2)) || (!(((rd_T35 l0 x5_1).f3) == ((rd_T35 l1 x5_1).f3)) || (!(((rd_T35 l0 x5_1).f4) == ((rd_T35 l1 x5_1).f4)) || (!(((rd_T35 l0 x5_1).f5) == ((rd_T35 l1 x5_1).f5)))))))) = true
       ·
        rw [if_pos c7] at H
        have c7b0 : (!(((rd_T35 l0 x5_1).f0) == ((rd_T35 l1 x5_1).f0)) || (!(((rd_T35 l0 x5_1).f1) == ((rd_T35 l1 x5_1).f1)) || (!(((rd_T35 l0 x5_1).f2) == ((rd_T35 l1 x5_1).f2)) || (!(((rd_T35 l0 x5_1).f3) == ((rd_T35 l1 x5_1).f3)) || (!(((rd_T35 l0 x5_1).f4) == ((rd_T35 l1 x5_1).f4)) || (!(((rd_T35 l0 x5_1).f5) == ((rd_T35 l1 x5_1).f5)))))))) = true := c7
        clear c7
        obtain rfl := Option.some.inj H
        have p235 : 0 ≤ (x5_1 : Int) := Goto.od
        have q235 : x5_1 < (l0.length : Int) := Goto.od
        obtain ⟨ad235, e235, hx235_0, hx235_1, hx235_2, hx235_3, hx235_4, hx235_5⟩ := at_T35 HR0.out x5_1 p235 q235
        cases e235
        replace p235 := eq_true p235; replace q235 := eq_true q235
        have p236 : 0 ≤ (x5_1 : Int) := Goto.od
        have q236 : x5_1 < (l1.length : Int) := Goto.od
        obtain ⟨ad236, e236, hx236_0, hx236_1, hx236_2, hx236_3, hx236_4, hx236_5⟩ := at_T35 HR1.out x5_1 p236 q236
        cases e236
        replace p236 := eq_true p236; replace q236 := eq_true q236
        go_wp2
        repeat (go_quiet (fail); try go_wp2)
        go_ret
        exact ⟨by first | rfl | (simp; done) | (simp [*]; done), by repeat (first | exact Drawn0.refl _ | apply Drawn0.step)⟩
       ·
        rw [if_neg c7] at H
        have c7b0 : (!(((rd_T35 l0 x5_1).f0) == ((rd_T35 l1 x5_1).f0)) || (!(((rd_T35 l0 x5_1).f1) == ((rd_T35 l1 x5_1).f1)) || (!(((rd_T35 l0 x5_1).f2) == ((rd_T35 l1 x5_1).f2)) || (!(((rd_T35 l0 x5_1).f3) == ((rd_T35 l1 x5_1).f3)) || (!(((rd_T35 l0 x5_1).f4) == ((rd_T35 l1 x5_1).f4)) || (!(((rd_T35 l0 x5_1).f5) == ((rd_T35 l1 x5_1).f5)))))))) = false := by simpa using c7
        clear c7
        have H' := Goto.m0 H
        clear H
        have p235 : 0 ≤ (x5_1 : Int) := Goto.od
        have q235 : x5_1 < (l0.length : Int) := Goto.od
        obtain ⟨ad235, e235, hx235_0, hx235_1, hx235_2, hx235_3, hx235_4, hx235_5⟩ := at_T35 HR0.out x5_1 p235 q235
        cases e235
        replace p235 := eq_true p235; replace q235 := eq_true q235
        have p236 : 0 ≤ (x5_1 : Int) := Goto.od
        have q236 : x5_1 < (l1.length : Int) := Goto.od
        obtain ⟨ad236, e236, hx236_0, hx236_1, hx236_2, hx236_3, hx236_4, hx236_5⟩ := at_T35 HR1.out x5_1 p236 q236
        cases e236
        replace p236 := eq_true p236; replace q236 := eq_true q236
        go_wp2
        repeat (go_quiet (fail); try go_wp2)
        go_roundg k1
        case measure => have := HK1.out; omega
        case rel => exact ⟨(wrap64 (x5_1 + 1)), (by first | rfl | (simp; done) | (simp [*]; done)), H', ⟨by have := HK1.out; omega⟩, by repeat (first | exact Drawn0.refl _ | apply Drawn0.step)⟩
      ·
       rw [if_neg c6] at H
       exact absurd H (by simp)
     ·
      rw [if_neg c5] at H
      exact absurd H (by simp)
    ·
     rw [if_neg c4] at H
     have c4b0 : decide (x5_1 < (l0.length : Int)) = false := decide_eq_false c4
     clear c4
     obtain rfl := Option.some.inj H
     go_wp2
     repeat (go_quiet (fail); try go_wp2)
     go_ret
     exact ⟨by first | rfl | (simp; done) | (simp [*]; done), by repeat (first | exact Drawn0.refl _ | apply Drawn0.step)⟩
 ·
  rw [if_neg c3] at H
  have c3b0 : ((l0.length : Int) == (l1.length : Int)) = false := beq_eq_false_iff_ne.mpr c3
  have c3b1 : ((l0.length : Int) != (l1.length : Int)) = true := bne_iff_ne.mpr c3
  have c3b2 : (l0.length == l1.length) = false := by first | simpa using c3 | (simp at c3 ⊢; omega)
  obtain rfl := Option.some.inj H
  go_enter Tryd.func12, Tryd.ntmps12
  go_wp2
  repeat (go_quiet (fail); try go_wp2)
  go_ret
  exact ⟨by first | rfl | (simp; done) | (simp [*]; done), by repeat (first | exact Drawn0.refl _ | apply Drawn0.step)⟩

/-! ### tontineref24_Text: function 14 -/
def tontineref24_Text.l0 : Nat → List (S35) → ByteArray → Int → Option (ByteArray)
  | 0, _, _, _ => none
  | k + 1, x0, x3, x4 => if x4 < (x0.length : Int) then (if 0 ≤ x4 then ((tontineref24_Line.f ((rd_T35 x0 x4).f0) ((rd_T35 x0 x4).f1) ((rd_T35 x0 x4).f2) ((rd_T35 x0 x4).f3) ((rd_T35 x0 x4).f4) ((rd_T35 x0 x4).f5)).bind fun t238 => (if x3.size + t238.size ≤ 9223372036854775807 then (if (x3 ++ t238).size + 1 ≤ 9223372036854775807 then (tontineref24_Text.l0 k x0 ((x3 ++ t238) ++ (⟨#[10]⟩ : ByteArray)) (wrap64 (x4 + 1))) else (none)) else (none))) else (none)) else (some x3)
def tontineref24_Text.f (k : Nat) (l0 : List (S35)) : Option (ByteArray) := tontineref24_Text.l0 k l0 (⟨#[]⟩ : ByteArray) 0
theorem tontineref24_Text.mono_l : ∀ k, (∀ y0 y1 y2, LeO (tontineref24_Text.l0 k y0 y1 y2) (tontineref24_Text.l0 (k + 1) y0 y1 y2))
  | 0 => fun _ _ _ r h => by simp [tontineref24_Text.l0] at h
  | k + 1 => by
    have ih0 := tontineref24_Text.mono_l k
    · intro y0 y1 y2
      unfold tontineref24_Text.l0
      repeat' first
      | (with_reducible exact ih0 _ _ _)
      | (with_reducible exact LeO.refl _)
      | (with_reducible exact LeO.none _)
      | (with_reducible refine LeO.ite ?_ ?_)
      | (with_reducible refine LeO.bind ?_ (fun _ => ?_))
      | exact ih0 _ _ _
      | exact LeO.none _
      | refine LeO.ite ?_ ?_
      | refine LeO.bind ?_ (fun _ => ?_)
theorem tontineref24_Text.mono : ∀ a0 k, LeO (tontineref24_Text.f k a0) (tontineref24_Text.f (k + 1) a0) := by
 intro a0 k
 have ih0 := tontineref24_Text.mono_l k
 unfold tontineref24_Text.f
 repeat' first
   | (with_reducible exact ih0 _ _ _)
   | (with_reducible exact LeO.refl _)
   | (with_reducible exact LeO.none _)
   | (with_reducible refine LeO.ite ?_ ?_)
   | (with_reducible refine LeO.bind ?_ (fun _ => ?_))
   | exact ih0 _ _ _
   | exact LeO.none _
   | refine LeO.ite ?_ ?_
   | refine LeO.bind ?_ (fun _ => ?_)
set_option maxHeartbeats 8000000 in
set_option maxRecDepth 100000 in
theorem tontineref24_Text.calls (k : Nat) (A0 : Option Addr) (c0 : Nat) (l0 : List (S35)) (r : ByteArray) (w : World) (hr0 : Kd.C k35 w A0 l0.length l0) (hc0 : l0.length ≤ c0) (h : tontineref24_Text.f k l0 = some r) :
    Calls Tryd.prog 14 #[.slice A0 l0.length c0] w fun e w' => e = .returned (.string r) ∧ Below w.heap.size w w' := by
 have hu35 := Tryd.underlying35
 have HR0 := Goto.m0 hr0
 have HC0 := Goto.m0 hc0
 clear hr0 hc0
 have HB := Goto.m0 (Below.refl w.heap.size w)
 have H : (tontineref24_Text.l0 k l0 (⟨#[]⟩ : ByteArray) 0) = some r := h
 clear h
 have H' := Goto.m0 H
 clear H
 go_enter Tryd.func14, Tryd.ntmps14
 go_wp2
 go_loopg [3, 4] k (fun kq v3 v4 w' => ∃ (x3_1 : ByteArray) (x4_1 : Int), v3 = .string x3_1 ∧ v4 = .int .i64 x4_1 ∧ Aside0 (tontineref24_Text.l0 kq l0 x3_1 x4_1 = some r) ∧ Aside0 (kq ≤ k) ∧ Aside0 (Below w.heap.size w w'))
 case atStart => exact ⟨((⟨#[]⟩ : ByteArray)), (0), (by first | rfl | (simp; done) | (simp [*]; done)), (by first | rfl | (simp; done) | (simp [*]; done)), H', ⟨Nat.le_refl _⟩, ⟨Goto.hx HB⟩⟩
 case round =>
  clear H'
  try clear c1
  obtain ⟨x3_1, x4_1, rfl, rfl, HA, HK1, HB⟩ := hrel
  cases gk with
  | zero => exact absurd HA.out (by simp [tontineref24_Text.l0])
  | succ k1 =>
   have H := HA.out; clear HA
   simp only [tontineref24_Text.l0] at H
   by_cases c2 : x4_1 < (l0.length : Int)
   ·
    rw [if_pos c2] at H
    have c2b0 : decide (x4_1 < (l0.length : Int)) = true := decide_eq_true c2
    clear c2
    by_cases c3 : 0 ≤ x4_1
    ·
     rw [if_pos c3] at H
     have c3b0 : decide (0 ≤ x4_1) = true := decide_eq_true c3
     clear c3
     replace H := Option.bind_eq_some_iff.mp H
     obtain ⟨t238, A40, H⟩ := H
     have A4 := Goto.m0 A40
     clear A40
     by_cases c5 : x3_1.size + t238.size ≤ 9223372036854775807
     ·
      rw [if_pos c5] at H
      have c5b0 := eq_true c5
      have c5b1 : decide (x3_1.size + t238.size ≤ 9223372036854775807) = true := decide_eq_true c5
      try have c5b2 : (9223372036854775807 < x3_1.size + t238.size) = False := eq_false (Nat.not_lt.2 c5)
      by_cases c6 : (x3_1 ++ t238).size + 1 ≤ 9223372036854775807
      ·
       rw [if_pos c6] at H
       have c6b0 := eq_true c6
       have c6b1 : decide ((x3_1 ++ t238).size + 1 ≤ 9223372036854775807) = true := decide_eq_true c6
       try have c6b2 : (9223372036854775807 < (x3_1 ++ t238).size + 1) = False := eq_false (Nat.not_lt.2 c6)
       try have c6b3 : (9223372036854775807 < x3_1.size + t238.size + 1) = False := eq_false (Nat.not_lt.2 (by have h := c6; simp only [ByteArray.size_append] at h; exact h))
       have H' := Goto.m0 H
       clear H
       have p237 : 0 ≤ (x4_1 : Int) := Goto.od
       have q237 : x4_1 < (l0.length : Int) := Goto.od
       obtain ⟨ad237, e237, hx237_0, hx237_1, hx237_2, hx237_3, hx237_4, hx237_5⟩ := at_T35 HR0.out x4_1 p237 q237
       cases e237
       replace hx237_0 := Goto.kc HB.out hx237_0
       replace hx237_1 := Goto.kc HB.out hx237_1
       replace hx237_2 := Goto.kc HB.out hx237_2
       replace hx237_3 := Goto.kc HB.out hx237_3
       replace hx237_4 := Goto.kc HB.out hx237_4
       replace hx237_5 := Goto.kc HB.out hx237_5
       replace p237 := eq_true p237; replace q237 := eq_true q237
       go_wp2_with (first | ((with_reducible refine gate_callee (f := 10) rfl ?_); refine goesL_ (some 16) rfl rfl Tryd.func10 (by kernel_rfl) rfl #[.agg #[.int .i64 ((rd_T35 l0 x4_1).f0), .int .i64 ((rd_T35 l0 x4_1).f1), .int .i64 ((rd_T35 l0 x4_1).f2), .int .i64 ((rd_T35 l0 x4_1).f3), .int .i64 ((rd_T35 l0 x4_1).f4), .int .i64 ((rd_T35 l0 x4_1).f5)]] rfl (by (try simp only [List.map_toArray, List.map_cons, List.map_nil]); first | done | rfl | (simp only [List.length_drop, List.length_take]; rfl)) ?_; (with_reducible refine (tontineref24_Line.calls ((rd_T35 l0 x4_1).f0) ((rd_T35 l0 x4_1).f1) ((rd_T35 l0 x4_1).f2) ((rd_T35 l0 x4_1).f3) ((rd_T35 l0 x4_1).f4) ((rd_T35 l0 x4_1).f5) t238 _ A4.out).mono ?_); rintro e w7 ⟨rfl, hb⟩; refine ⟨_, rfl, ?_⟩; replace HB := Goto.hs HB hb; (try clear hb); (try clear hb2); (try clear hk); (try clear hi)))
       go_roundg k1
       case measure => have := HK1.out; omega
       case rel => exact ⟨((x3_1 ++ t238) ++ (⟨#[10]⟩ : ByteArray)), (wrap64 (x4_1 + 1)), (by first | rfl | (simp; done) | (simp [*]; done)), (by first | rfl | (simp; done) | (simp [*]; done)), H', ⟨by have := HK1.out; omega⟩, ⟨Goto.hx HB⟩⟩
      ·
       rw [if_neg c6] at H
       exact absurd H (by simp)
     ·
      rw [if_neg c5] at H
      exact absurd H (by simp)
    ·
     rw [if_neg c3] at H
     exact absurd H (by simp)
   ·
    rw [if_neg c2] at H
    have c2b0 : decide (x4_1 < (l0.length : Int)) = false := decide_eq_false c2
    clear c2
    obtain rfl := Option.some.inj H
    go_wp2
    go_ret
    exact ⟨Goto.er, by repeat (first | (with_reducible first | exact HB.out | apply below_alloc | apply pw_below_drewN | apply below_drew1) | exact HB.out)⟩

/-! ### tontineref1_Leq: function 21 -/
def tontineref1_Leq.f (a0_0 : Int) (a0_1 : Int) (a1_0 : Int) (a1_1 : Int) : Option (Bool) := if a0_0 ≤ a1_0 then (some ((Go.bits .andNot .u64 a0_1 a1_1) == 0)) else (some false)
set_option maxHeartbeats 8000000 in
set_option maxRecDepth 100000 in
theorem tontineref1_Leq.calls (a0_0 : Int) (a0_1 : Int) (a1_0 : Int) (a1_1 : Int) (r : Bool) (w : World) (h : tontineref1_Leq.f a0_0 a0_1 a1_0 a1_1 = some r) :
    Calls Tryd.prog 21 #[.agg #[.int .i64 a0_0, .int .u64 a0_1], .agg #[.int .i64 a1_0, .int .u64 a1_1]] w fun e w' => e = .returned (.bool r) ∧ Below w.heap.size w w' := by
 have hu30 := Tryd.underlying30
 have HB := Goto.m0 (Below.refl w.heap.size w)
 have H : (if a0_0 ≤ a1_0 then (some ((Go.bits .andNot .u64 a0_1 a1_1) == 0)) else (some false)) = some r := h
 clear h
 by_cases c3 : a0_0 ≤ a1_0
 ·
  rw [if_pos c3] at H
  have c3b0 : decide (a0_0 ≤ a1_0) = true := decide_eq_true c3
  clear c3
  obtain rfl := Option.some.inj H
  go_enter Tryd.func21, Tryd.ntmps21
  go_wp2_with (first | ((with_reducible refine gate_dst (N := 2) rfl ?_); refine box_event ?hg (N := 2) ?hd (cs := #[.int .i64 a0_0, .int .u64 a0_1]) (t := 30) ?hr ?_; (case hd => rfl); (case hg => rfl); (case hr => first | (go_simp; done) | (go_simp; rfl)); intro gb239 hg w4 hbox hb; have BK239 := Goto.m0 (hbox); have GW239 := Goto.gs HB hg; have GE239 := Goto.gs HB hg; replace HB := Goto.hs HB hb; clear hb hbox hg) | ((with_reducible refine gate_dst (N := 3) rfl ?_); refine box_event ?hg (N := 3) ?hd (cs := #[.int .i64 a1_0, .int .u64 a1_1]) (t := 30) ?hr ?_; (case hd => rfl); (case hg => rfl); (case hr => first | (go_simp; done) | (go_simp; rfl)); intro gb240 hg w5 hbox hb; have BK240 := Goto.m0 (hbox); have GW240 := Goto.gs HB hg; have GE240 := Goto.gs HB hg; have NB239_240 := Goto.nl BK239 hg; have NB240_239 := Goto.nr BK239 hg; replace BK239 := Goto.bb BK239 hb; replace HB := Goto.hs HB hb; clear hb hbox hg; have hnb6 := NB239_240.out; have hnc6 := NB240_239.out; have hcz7_0 := Goto.bc0 BK239; have hcz7_1 := Goto.bc1 BK239; have hfz7_0 := Goto.bf BK239 0; have hfz7_1 := Goto.bf BK239 1; have hcz8_0 := Goto.bc0 BK240; have hcz8_1 := Goto.bc1 BK240; have hfz8_0 := Goto.bf BK240 0; have hfz8_1 := Goto.bf BK240 1))
  go_ret
  exact ⟨Goto.er, by repeat (first | (with_reducible first | exact HB.out | apply below_alloc | apply pw_below_drewN | apply below_drew1 | refine below_set ?_ GE239.out | refine below_set ?_ GE240.out) | exact HB.out)⟩
 ·
  rw [if_neg c3] at H
  have c3b0 : decide (a0_0 ≤ a1_0) = false := decide_eq_false c3
  clear c3
  obtain rfl := Option.some.inj H
  go_enter Tryd.func21, Tryd.ntmps21
  go_wp2_with (first | ((with_reducible refine gate_dst (N := 2) rfl ?_); refine box_event ?hg (N := 2) ?hd (cs := #[.int .i64 a0_0, .int .u64 a0_1]) (t := 30) ?hr ?_; (case hd => rfl); (case hg => rfl); (case hr => first | (go_simp; done) | (go_simp; rfl)); intro gb239 hg w9 hbox hb; have BK239 := Goto.m0 (hbox); have GW239 := Goto.gs HB hg; have GE239 := Goto.gs HB hg; replace HB := Goto.hs HB hb; clear hb hbox hg) | ((with_reducible refine gate_dst (N := 3) rfl ?_); refine box_event ?hg (N := 3) ?hd (cs := #[.int .i64 a1_0, .int .u64 a1_1]) (t := 30) ?hr ?_; (case hd => rfl); (case hg => rfl); (case hr => first | (go_simp; done) | (go_simp; rfl)); intro gb240 hg w10 hbox hb; have BK240 := Goto.m0 (hbox); have GW240 := Goto.gs HB hg; have GE240 := Goto.gs HB hg; have NB239_240 := Goto.nl BK239 hg; have NB240_239 := Goto.nr BK239 hg; replace BK239 := Goto.bb BK239 hb; replace HB := Goto.hs HB hb; clear hb hbox hg; have hnb11 := NB239_240.out; have hnc11 := NB240_239.out; have hcz12_0 := Goto.bc0 BK239; have hcz12_1 := Goto.bc1 BK239; have hfz12_0 := Goto.bf BK239 0; have hfz12_1 := Goto.bf BK239 1; have hcz13_0 := Goto.bc0 BK240; have hcz13_1 := Goto.bc1 BK240; have hfz13_0 := Goto.bf BK240 0; have hfz13_1 := Goto.bf BK240 1))
  go_ret
  exact ⟨Goto.er, by repeat (first | (with_reducible first | exact HB.out | apply below_alloc | apply pw_below_drewN | apply below_drew1 | refine below_set ?_ GE239.out | refine below_set ?_ GE240.out) | exact HB.out)⟩

end Go.Proofs.YtlmllmbbdlkknaaDoor.P
