/- Printed by a program of this workplace (a turned copy of the kit's optional print), out of the translation; not trusted: Lean checks it. -/
import Derived.Test.YtpbcamdjcnokfaaPx0
import Derived.Test.YtpbcamdjcnokfaaPx1
import Derived.Test.YtpbcamdjcnokfaaPx2
import Derived.Test.YtpbcamdjcnokfaaPx4
namespace Go.Proofs.Ytpbcamdjcnokfaa.P
open Go.RowKit Go.Proofs.YtpbcamdjcnokfaaW.PrintWords Go.Proofs.YtpbcamdjcnokfaaW.PrintLast Go.Proofs.YtpbcamdjcnokfaaW.PrintMore
attribute [local go_sem] max2_int min2_int max_two min_two max_three min_three max_four min_four   -- for this text's walks alone
set_option linter.unusedVariables false
set_option linter.unusedSimpArgs false

attribute [local go_sem high] eqA24
/-! ### tontinelaw1_LabelBounds: function 5 -/
def tontinelaw1_LabelBounds.j0 : Nat → Bool → Int → Int → Int → Int → Int → Int → Int → Int → Int → Int → Option (Bool)
  | 0, _, _, _, _, _, _, _, _, _, _, _ => none
  | k + 1, x38, x140000, x140001, x141000, x141001, x142000, x142001, x148000, x148001, x149000, x149001 => if x38 = true then (some false) else ((label_Leq.f x148000 x148001 x142000 x142001).bind fun t153 => ((label_Leq.f x140000 x140001 x142000 x142001).bind fun t154 => (if t154 = true then ((label_Leq.f x141000 x141001 x142000 x142001).bind fun t155 => (if (t153 == t155) = true then ((label_Leq.f x142000 x142001 x149000 x149001).bind fun t156 => ((label_Leq.f x142000 x142001 x140000 x140001).bind fun t157 => (if t157 = true then ((label_Leq.f x142000 x142001 x141000 x141001).bind fun t158 => (if (t156 == t158) = true then ((label_Leq.f x140000 x140001 x141000 x141001).bind fun t159 => (if (t159 == (x148000 == x141000 && (x148001 == x141001))) = true then ((label_Leq.f x140000 x140001 x141000 x141001).bind fun t160 => (some (t160 == (x149000 == x140000 && (x149001 == x140001))))) else (some false))) else (some false))) else (if (t156 == false) = true then ((label_Leq.f x140000 x140001 x141000 x141001).bind fun t161 => (if (t161 == (x148000 == x141000 && (x148001 == x141001))) = true then ((label_Leq.f x140000 x140001 x141000 x141001).bind fun t162 => (some (t162 == (x149000 == x140000 && (x149001 == x140001))))) else (some false))) else (some false))))) else (some false))) else (if (t153 == false) = true then ((label_Leq.f x142000 x142001 x149000 x149001).bind fun t163 => ((label_Leq.f x142000 x142001 x140000 x140001).bind fun t164 => (if t164 = true then ((label_Leq.f x142000 x142001 x141000 x141001).bind fun t165 => (if (t163 == t165) = true then ((label_Leq.f x140000 x140001 x141000 x141001).bind fun t166 => (if (t166 == (x148000 == x141000 && (x148001 == x141001))) = true then ((label_Leq.f x140000 x140001 x141000 x141001).bind fun t167 => (some (t167 == (x149000 == x140000 && (x149001 == x140001))))) else (some false))) else (some false))) else (if (t163 == false) = true then ((label_Leq.f x140000 x140001 x141000 x141001).bind fun t168 => (if (t168 == (x148000 == x141000 && (x148001 == x141001))) = true then ((label_Leq.f x140000 x140001 x141000 x141001).bind fun t169 => (some (t169 == (x149000 == x140000 && (x149001 == x140001))))) else (some false))) else (some false))))) else (some false)))))
def tontinelaw1_LabelBounds.f (k : Nat) (a0_0 : Int) (a0_1 : Int) (a1_0 : Int) (a1_1 : Int) (a2_0 : Int) (a2_1 : Int) : Option (Bool) := (tontinelaw1_known.f k).bind fun t142 => (if t142 = true then ((label_Join.f a0_0 a0_1 a1_0 a1_1).bind fun bt143 => ((label_Meet.f a0_0 a0_1 a1_0 a1_1).bind fun bt145 => ((label_Leq.f a0_0 a0_1 bt143.1 bt143.2).bind fun t149 => (if t149 = true then ((label_Leq.f a1_0 a1_1 bt143.1 bt143.2).bind fun t150 => (if t150 = true then ((label_Leq.f bt145.1 bt145.2 a0_0 a0_1).bind fun t151 => (if t151 = true then ((label_Leq.f bt145.1 bt145.2 a1_0 a1_1).bind fun t152 => (tontinelaw1_LabelBounds.j0 k (!t152) a0_0 a0_1 a1_0 a1_1 a2_0 a2_1 bt143.1 bt143.2 bt145.1 bt145.2)) else (tontinelaw1_LabelBounds.j0 k true a0_0 a0_1 a1_0 a1_1 a2_0 a2_1 bt143.1 bt143.2 bt145.1 bt145.2))) else (tontinelaw1_LabelBounds.j0 k true a0_0 a0_1 a1_0 a1_1 a2_0 a2_1 bt143.1 bt143.2 bt145.1 bt145.2))) else (tontinelaw1_LabelBounds.j0 k true a0_0 a0_1 a1_0 a1_1 a2_0 a2_1 bt143.1 bt143.2 bt145.1 bt145.2))))) else (some false))
theorem tontinelaw1_LabelBounds.mono_l : ∀ k, (∀ y0 y1 y2 y3 y4 y5 y6 y7 y8 y9 y10, LeO (tontinelaw1_LabelBounds.j0 k y0 y1 y2 y3 y4 y5 y6 y7 y8 y9 y10) (tontinelaw1_LabelBounds.j0 (k + 1) y0 y1 y2 y3 y4 y5 y6 y7 y8 y9 y10))
  | 0 => fun _ _ _ _ _ _ _ _ _ _ _ r h => by simp [tontinelaw1_LabelBounds.j0] at h
  | k + 1 => by
    have ih0 := tontinelaw1_LabelBounds.mono_l k
    · intro y0 y1 y2 y3 y4 y5 y6 y7 y8 y9 y10
      unfold tontinelaw1_LabelBounds.j0
      repeat' first
      | (with_reducible exact ih0 _ _ _ _ _ _ _ _ _ _ _)
      | (with_reducible exact tontinelaw1_known.mono _)
      | (with_reducible exact LeO.refl _)
      | (with_reducible exact LeO.none _)
      | (with_reducible refine LeO.ite ?_ ?_)
      | (with_reducible refine LeO.bind ?_ (fun _ => ?_))
      | exact ih0 _ _ _ _ _ _ _ _ _ _ _
      | exact tontinelaw1_known.mono _
      | exact LeO.none _
      | refine LeO.ite ?_ ?_
      | refine LeO.bind ?_ (fun _ => ?_)
theorem tontinelaw1_LabelBounds.mono : ∀ a0 a1 a2 a3 a4 a5 k, LeO (tontinelaw1_LabelBounds.f k a0 a1 a2 a3 a4 a5) (tontinelaw1_LabelBounds.f (k + 1) a0 a1 a2 a3 a4 a5) := by
 intro a0 a1 a2 a3 a4 a5 k
 have ih0 := tontinelaw1_LabelBounds.mono_l k
 unfold tontinelaw1_LabelBounds.f
 repeat' first
   | (with_reducible exact ih0 _ _ _ _ _ _ _ _ _ _ _)
   | (with_reducible exact tontinelaw1_known.mono _)
   | (with_reducible exact LeO.refl _)
   | (with_reducible exact LeO.none _)
   | (with_reducible refine LeO.ite ?_ ?_)
   | (with_reducible refine LeO.bind ?_ (fun _ => ?_))
   | exact ih0 _ _ _ _ _ _ _ _ _ _ _
   | exact tontinelaw1_known.mono _
   | exact LeO.none _
   | refine LeO.ite ?_ ?_
   | refine LeO.bind ?_ (fun _ => ?_)
def tontinelaw1_LabelBounds.T3 : Bool × List (List Nat × List Nat) := (true, [([], []), ([], []), ([0, 1], [0, 1]), ([], []), ([], []), ([3, 4, 2], [3, 4]), ([], []), ([], []), ([6, 2, 5, 0, 1, 2, 6, 7], [2, 6]), ([7, 5, 8, 0, 1, 2, 3, 4, 5, 6, 7, 8], [5, 7])])
def tontinelaw1_LabelBounds.B3 : List Nat := [0, 0, 3, 0, 0, 31, 0, 0, 255, 511]
theorem tontinelaw1_LabelBounds.tab3 : rtab .any (opsOf Try.f5 3) = tontinelaw1_LabelBounds.T3 := by kernel_rfl
theorem tontinelaw1_LabelBounds.bits3 : waitsOk tontinelaw1_LabelBounds.T3.2 tontinelaw1_LabelBounds.B3 = true := by kernel_rfl
def tontinelaw1_LabelBounds.T6 : Bool × List (List Nat × List Nat) := (true, [([], []), ([], []), ([0, 1], [0, 1]), ([], []), ([], []), ([3, 4, 2], [3, 4]), ([5, 5], [5]), ([6], [6]), ([6], [6]), ([7, 8, 6, 6], [6, 7, 8]), ([6, 9], [6, 9]), ([2, 10], [2, 10]), ([11, 9], [11]), ([12], [12]), ([12], [12]), ([13, 14, 12, 12], [12, 13, 14]), ([12], [12]), ([12], [12]), ([16, 17, 15, 12], [12, 16, 17]), ([18, 18, 12], [12, 18]), ([19], [19]), ([19], [19]), ([20, 21, 19, 19], [19, 20, 21]), ([19, 22, 12], [12, 19, 22]), ([15, 23, 12], [12, 15, 23]), ([12, 24], [12, 24]), ([25, 22], [25]), ([26], [26]), ([26], [26]), ([27, 28, 26, 26], [26, 27, 28]), ([26], [26]), ([26], [26]), ([30, 31, 26], [26, 30, 31]), ([29, 32, 26], [26, 29, 32]), ([26, 33], [26, 33]), ([34, 29], [34]), ([35], [35]), ([35], [35]), ([36, 37, 35, 35], [35, 36, 37]), ([35], [35]), ([35], [35]), ([39, 40, 35], [35, 39, 40]), ([38, 41, 35], [35, 38, 41]), ([35, 42], [35, 42]), ([43, 38, 0, 1, 2, 3, 4, 5, 6, 7, 8, 9, 10, 11, 12, 13, 14, 15, 16, 17, 18, 19, 20, 21, 22, 23, 24, 25, 26, 27, 28, 29, 30, 31, 32, 33, 34, 35, 36, 37, 38, 39, 40, 41, 42, 43], [43])])
def tontinelaw1_LabelBounds.B6 : List Nat := [0, 0, 3, 0, 0, 31, 63, 127, 127, 511, 1023, 2047, 4095, 8191, 8191, 32767, 8191, 8191, 262143, 524287, 1048575, 1048575, 4194303, 8388607, 16777215, 33554431, 67108863, 134217727, 134217727, 536870911, 134217727, 134217727, 3355443199, 8589934591, 17179869183, 34359738367, 68719476735, 68719476735, 274877906943, 68719476735, 68719476735, 1717986918399, 4398046511103, 8796093022207, 17592186044415]
theorem tontinelaw1_LabelBounds.tab6 : rtab .any (opsOf Try.f5 6) = tontinelaw1_LabelBounds.T6 := by kernel_rfl
theorem tontinelaw1_LabelBounds.bits6 : waitsOk tontinelaw1_LabelBounds.T6.2 tontinelaw1_LabelBounds.B6 = true := by kernel_rfl
set_option maxHeartbeats 8000000 in
set_option maxRecDepth 100000 in
theorem tontinelaw1_LabelBounds.calls (k : Nat) (a0_0 : Int) (a0_1 : Int) (a1_0 : Int) (a1_1 : Int) (a2_0 : Int) (a2_1 : Int) (r : Bool) (hrt : r = true) (w : World) (h : tontinelaw1_LabelBounds.f k a0_0 a0_1 a1_0 a1_1 a2_0 a2_1 = some r) :
    Calls Try.prog 5 #[.agg #[.int .i64 a0_0, .int .u64 a0_1], .agg #[.int .i64 a1_0, .int .u64 a1_1], .agg #[.int .i64 a2_0, .int .u64 a2_1]] w fun e w' => e = .returned (.bool r) ∧ Below w.heap.size w w' := by
 have hu24 := Try.underlying24
 have HB := Goto.m0 (Below.refl w.heap.size w)
 have HRT := Goto.m0 hrt
 clear hrt
 have H : ((tontinelaw1_known.f k).bind fun t142 => (if t142 = true then ((label_Join.f a0_0 a0_1 a1_0 a1_1).bind fun bt143 => ((label_Meet.f a0_0 a0_1 a1_0 a1_1).bind fun bt145 => ((label_Leq.f a0_0 a0_1 bt143.1 bt143.2).bind fun t149 => (if t149 = true then ((label_Leq.f a1_0 a1_1 bt143.1 bt143.2).bind fun t150 => (if t150 = true then ((label_Leq.f bt145.1 bt145.2 a0_0 a0_1).bind fun t151 => (if t151 = true then ((label_Leq.f bt145.1 bt145.2 a1_0 a1_1).bind fun t152 => (tontinelaw1_LabelBounds.j0 k (!t152) a0_0 a0_1 a1_0 a1_1 a2_0 a2_1 bt143.1 bt143.2 bt145.1 bt145.2)) else (tontinelaw1_LabelBounds.j0 k true a0_0 a0_1 a1_0 a1_1 a2_0 a2_1 bt143.1 bt143.2 bt145.1 bt145.2))) else (tontinelaw1_LabelBounds.j0 k true a0_0 a0_1 a1_0 a1_1 a2_0 a2_1 bt143.1 bt143.2 bt145.1 bt145.2))) else (tontinelaw1_LabelBounds.j0 k true a0_0 a0_1 a1_0 a1_1 a2_0 a2_1 bt143.1 bt143.2 bt145.1 bt145.2))))) else (some false))) = some r := h
 clear h
 replace H := Option.bind_eq_some_iff.mp H
 obtain ⟨t142, A40, H⟩ := H
 have A4 := Goto.m0 A40
 clear A40
 by_cases c5 : t142 = true
 ·
  subst c5
  rw [if_pos rfl] at H
  replace H := Option.bind_eq_some_iff.mp H
  obtain ⟨⟨t143, t144⟩, A60, H⟩ := H
  replace H : ((label_Meet.f a0_0 a0_1 a1_0 a1_1).bind fun bt145 => ((label_Leq.f a0_0 a0_1 t143 t144).bind fun t149 => (if t149 = true then ((label_Leq.f a1_0 a1_1 t143 t144).bind fun t150 => (if t150 = true then ((label_Leq.f bt145.1 bt145.2 a0_0 a0_1).bind fun t151 => (if t151 = true then ((label_Leq.f bt145.1 bt145.2 a1_0 a1_1).bind fun t152 => (tontinelaw1_LabelBounds.j0 k (!t152) a0_0 a0_1 a1_0 a1_1 a2_0 a2_1 t143 t144 bt145.1 bt145.2)) else (tontinelaw1_LabelBounds.j0 k true a0_0 a0_1 a1_0 a1_1 a2_0 a2_1 t143 t144 bt145.1 bt145.2))) else (tontinelaw1_LabelBounds.j0 k true a0_0 a0_1 a1_0 a1_1 a2_0 a2_1 t143 t144 bt145.1 bt145.2))) else (tontinelaw1_LabelBounds.j0 k true a0_0 a0_1 a1_0 a1_1 a2_0 a2_1 t143 t144 bt145.1 bt145.2)))) = some r := H
  have A6 := Goto.m0 A60
  clear A60
  replace H := Option.bind_eq_some_iff.mp H
  obtain ⟨⟨t145, t146⟩, A70, H⟩ := H
  replace H : ((label_Leq.f a0_0 a0_1 t143 t144).bind fun t149 => (if t149 = true then ((label_Leq.f a1_0 a1_1 t143 t144).bind fun t150 => (if t150 = true then ((label_Leq.f t145 t146 a0_0 a0_1).bind fun t151 => (if t151 = true then ((label_Leq.f t145 t146 a1_0 a1_1).bind fun t152 => (tontinelaw1_LabelBounds.j0 k (!t152) a0_0 a0_1 a1_0 a1_1 a2_0 a2_1 t143 t144 t145 t146)) else (tontinelaw1_LabelBounds.j0 k true a0_0 a0_1 a1_0 a1_1 a2_0 a2_1 t143 t144 t145 t146))) else (tontinelaw1_LabelBounds.j0 k true a0_0 a0_1 a1_0 a1_1 a2_0 a2_1 t143 t144 t145 t146))) else (tontinelaw1_LabelBounds.j0 k true a0_0 a0_1 a1_0 a1_1 a2_0 a2_1 t143 t144 t145 t146))) = some r := H
  have A7 := Goto.m0 A70
  clear A70
  have HC8 := Goto.m0 H
  clear H
  go_enter Try.func5, Try.ntmps5
  try go_wp2_with (first | ((with_reducible refine gate_dst (N := 3) rfl ?_); refine box_event ?hg (N := 3) ?hd (cs := #[.int .i64 a0_0, .int .u64 a0_1]) (t := 24) ?hr ?_; (case hd => rfl); (case hg => rfl); (case hr => first | (go_simp; done) | (go_simp; rfl)); intro gb139 hg w9 hbox hb; have BK139 := Goto.m0 (hbox); have GW139 := Goto.gs HB hg; have GE139 := Goto.gs HB hg; replace HB := Goto.hs HB hb; clear hb hbox hg) | ((with_reducible refine gate_dst (N := 4) rfl ?_); refine box_event ?hg (N := 4) ?hd (cs := #[.int .i64 a1_0, .int .u64 a1_1]) (t := 24) ?hr ?_; (case hd => rfl); (case hg => rfl); (case hr => first | (go_simp; done) | (go_simp; rfl)); intro gb140 hg w10 hbox hb; have BK140 := Goto.m0 (hbox); have GW140 := Goto.gs HB hg; have GE140 := Goto.gs HB hg; have NB139_140 := Goto.nl BK139 hg; have NB140_139 := Goto.nr BK139 hg; replace BK139 := Goto.bb BK139 hb; replace HB := Goto.hs HB hb; clear hb hbox hg) | ((with_reducible refine gate_dst (N := 5) rfl ?_); refine box_event ?hg (N := 5) ?hd (cs := #[.int .i64 a2_0, .int .u64 a2_1]) (t := 24) ?hr ?_; (case hd => rfl); (case hg => rfl); (case hr => first | (go_simp; done) | (go_simp; rfl)); intro gb141 hg w11 hbox hb; have BK141 := Goto.m0 (hbox); have GW141 := Goto.gs HB hg; have GE141 := Goto.gs HB hg; have NB139_141 := Goto.nl BK139 hg; have NB141_139 := Goto.nr BK139 hg; have NB140_141 := Goto.nl BK140 hg; have NB141_140 := Goto.nr BK140 hg; replace BK139 := Goto.bb BK139 hb; replace BK140 := Goto.bb BK140 hb; replace HB := Goto.hs HB hb; clear hb hbox hg) | ((with_reducible refine gate_callee (f := 15) rfl ?_); refine goesL_ (some 9) rfl rfl Try.func15 (by kernel_rfl) rfl #[] rfl (by (try simp only [List.map_toArray, List.map_cons, List.map_nil]); first | done | rfl | (simp only [List.length_drop, List.length_take]; rfl)) ?_; (with_reducible refine (tontinelaw1_known.calls k  true (by first | rfl | assumption | (simp only [Bool.not_eq_true, Bool.not_eq_false] at *; assumption)) _ A4.out).mono ?_); rintro e w12 ⟨rfl, hb⟩; refine ⟨_, rfl, ?_⟩; replace BK139 := Goto.bb BK139 hb; replace BK140 := Goto.bb BK140 hb; replace BK141 := Goto.bb BK141 hb; replace HB := Goto.hs HB hb; (try clear hb); (try clear hb2); (try clear hk); (try clear hi)))
  replace BK139 := Goto.m0 (blk_drew BK139.out); replace BK140 := Goto.m0 (blk_drew BK140.out); replace BK141 := Goto.m0 (blk_drew BK141.out); replace HB := Goto.m0 (below_drew1 HB.out)
  refine start_ (n := 10) (S := fun w' => w'.cell? ⟨gb139, 0, none⟩ = some (.int .i64 a0_0) ∧ w'.cell? ⟨gb139, 1, none⟩ = some (.int .u64 a0_1) ∧ w'.cell? ⟨gb140, 0, none⟩ = some (.int .i64 a1_0) ∧ w'.cell? ⟨gb140, 1, none⟩ = some (.int .u64 a1_1)) (ds := []) (.replicate 10 false) (by kernel_rfl) rfl rfl ⟨(blk_cell BK139.out 0).trans rfl, (blk_cell BK139.out 1).trans rfl, (blk_cell BK140.out 0).trans rfl, (blk_cell BK140.out 1).trans rfl⟩ (fun hHeld => ?_); refine with_tabW tontinelaw1_LabelBounds.tab3 tontinelaw1_LabelBounds.bits3 (fun HT_ HW_ => ?_)
  generalize w12.drew = w13 at BK139 BK140 BK141 HB hHeld ⊢
  refine take_ (i := 0) (N := some 11) (v := ?_) (a' := ?_) (Goto.bs 10 1) rfl rfl (take_ofW HT_.out HW_.out (by kernel_rfl)) (fun _ _ _ h => h) (Or.inl ⟨by rfl, ?_⟩) hHeld ?_ ?_
  rotate_left
  ·
   rintro w' ⟨s0, s1, s2, s3⟩
   go_simp
   with_reducible rfl
  rotate_left
  ·
   exact Goto.ap
  refine take_ (i := 1) (N := some 12) (v := ?_) (a' := ?_) (Goto.bs 10 3) rfl rfl (take_ofW HT_.out HW_.out (by kernel_rfl)) (fun _ _ _ h => h) (Or.inl ⟨by rfl, ?_⟩) hHeld ?_ ?_
  rotate_left
  ·
   rintro w' ⟨s0, s1, s2, s3⟩
   go_simp
   with_reducible rfl
  rotate_left
  ·
   exact Goto.ap
  refine take_ (i := 3) (N := some 14) (v := ?_) (a' := ?_) (Goto.bs 10 11) rfl rfl (take_ofW HT_.out HW_.out (by kernel_rfl)) (fun _ _ _ h => h) (Or.inl ⟨by rfl, ?_⟩) hHeld ?_ ?_
  rotate_left
  ·
   rintro w' ⟨s0, s1, s2, s3⟩
   go_simp
   with_reducible rfl
  rotate_left
  ·
   exact Goto.ap
  refine take_ (i := 4) (N := some 15) (v := ?_) (a' := ?_) (Goto.bs 10 27) rfl rfl (take_ofW HT_.out HW_.out (by kernel_rfl)) (fun _ _ _ h => h) (Or.inl ⟨by rfl, ?_⟩) hHeld ?_ ?_
  rotate_left
  ·
   rintro w' ⟨s0, s1, s2, s3⟩
   go_simp
   with_reducible rfl
  rotate_left
  ·
   exact Goto.ap
  refine join_ (σ := Nat × Nat) 2 (Goto.bs 10 255) (fun s_ => [(13, .agg #[.int .i64 t143, .int .u64 t144]), (16, .agg #[.int .i64 t145, .int .u64 t146]), (7, .pointer (some ⟨s_.1, 0, none⟩)), (8, .pointer (some ⟨s_.2, 0, none⟩))]) (fun s_ w' => (w'.cell? ⟨gb139, 0, none⟩ = some (.int .i64 a0_0) ∧ w'.cell? ⟨gb139, 1, none⟩ = some (.int .u64 a0_1) ∧ w'.cell? ⟨gb140, 0, none⟩ = some (.int .i64 a1_0) ∧ w'.cell? ⟨gb140, 1, none⟩ = some (.int .u64 a1_1)) ∧ (w'.heap[gb139]? = some (.cells #[.int .i64 a0_0, .int .u64 a0_1] 24 (0, 0))) ∧ (w'.heap[gb140]? = some (.cells #[.int .i64 a1_0, .int .u64 a1_1] 24 (0, 0))) ∧ (w'.heap[gb141]? = some (.cells #[.int .i64 a2_0, .int .u64 a2_1] 24 (0, 0))) ∧ (w'.heap[s_.1]? = some (.cells #[.int .i64 0, .int .u64 0] 24 (0, 0))) ∧ (w'.heap[s_.2]? = some (.cells #[.int .i64 0, .int .u64 0] 24 (0, 0))) ∧ (w.heap.size ≤ s_.1) ∧ (w.heap.size ≤ s_.1) ∧ (gb139 ≠ s_.1) ∧ (s_.1 ≠ gb139) ∧ (gb140 ≠ s_.1) ∧ (s_.1 ≠ gb140) ∧ (gb141 ≠ s_.1) ∧ (s_.1 ≠ gb141) ∧ (s_.2 ≠ s_.1) ∧ (s_.1 ≠ s_.2) ∧ (w.heap.size ≤ s_.2) ∧ (w.heap.size ≤ s_.2) ∧ (gb139 ≠ s_.2) ∧ (s_.2 ≠ gb139) ∧ (gb140 ≠ s_.2) ∧ (s_.2 ≠ gb140) ∧ (gb141 ≠ s_.2) ∧ (s_.2 ≠ gb141) ∧ (Below w.heap.size w w')) ?_ ?_
  rotate_left
  ·
   intro hJ2_5_6_7
   refine join_ (σ := Nat) 3 (Goto.bs 10 127) (fun s_ => [(13, .agg #[.int .i64 t143, .int .u64 t144]), (16, .agg #[.int .i64 t145, .int .u64 t146]), (7, .pointer (some ⟨s_, 0, none⟩))]) (fun s_ w' => (w'.cell? ⟨gb139, 0, none⟩ = some (.int .i64 a0_0) ∧ w'.cell? ⟨gb139, 1, none⟩ = some (.int .u64 a0_1) ∧ w'.cell? ⟨gb140, 0, none⟩ = some (.int .i64 a1_0) ∧ w'.cell? ⟨gb140, 1, none⟩ = some (.int .u64 a1_1)) ∧ (w'.heap[gb139]? = some (.cells #[.int .i64 a0_0, .int .u64 a0_1] 24 (0, 0))) ∧ (w'.heap[gb140]? = some (.cells #[.int .i64 a1_0, .int .u64 a1_1] 24 (0, 0))) ∧ (w'.heap[gb141]? = some (.cells #[.int .i64 a2_0, .int .u64 a2_1] 24 (0, 0))) ∧ (w'.heap[s_]? = some (.cells #[.int .i64 0, .int .u64 0] 24 (0, 0))) ∧ (w.heap.size ≤ s_) ∧ (w.heap.size ≤ s_) ∧ (gb139 ≠ s_) ∧ (s_ ≠ gb139) ∧ (gb140 ≠ s_) ∧ (s_ ≠ gb140) ∧ (gb141 ≠ s_) ∧ (s_ ≠ gb141) ∧ (Below w.heap.size w w')) ?_ ?_
   rotate_left
   ·
    intro hJ2_5_6
    refine join_ (σ := Nat) 3 (Goto.bs 10 191) (fun s_ => [(13, .agg #[.int .i64 t143, .int .u64 t144]), (16, .agg #[.int .i64 t145, .int .u64 t146]), (8, .pointer (some ⟨s_, 0, none⟩))]) (fun s_ w' => (w'.cell? ⟨gb139, 0, none⟩ = some (.int .i64 a0_0) ∧ w'.cell? ⟨gb139, 1, none⟩ = some (.int .u64 a0_1) ∧ w'.cell? ⟨gb140, 0, none⟩ = some (.int .i64 a1_0) ∧ w'.cell? ⟨gb140, 1, none⟩ = some (.int .u64 a1_1)) ∧ (w'.heap[gb139]? = some (.cells #[.int .i64 a0_0, .int .u64 a0_1] 24 (0, 0))) ∧ (w'.heap[gb140]? = some (.cells #[.int .i64 a1_0, .int .u64 a1_1] 24 (0, 0))) ∧ (w'.heap[gb141]? = some (.cells #[.int .i64 a2_0, .int .u64 a2_1] 24 (0, 0))) ∧ (w'.heap[s_]? = some (.cells #[.int .i64 0, .int .u64 0] 24 (0, 0))) ∧ (w.heap.size ≤ s_) ∧ (w.heap.size ≤ s_) ∧ (gb139 ≠ s_) ∧ (s_ ≠ gb139) ∧ (gb140 ≠ s_) ∧ (s_ ≠ gb140) ∧ (gb141 ≠ s_) ∧ (s_ ≠ gb141) ∧ (Below w.heap.size w w')) ?_ ?_
    rotate_left
    ·
     intro hJ2_5_7
     refine join_ (σ := Nat × Nat) 3 (Goto.bs 10 223) (fun s_ => [(13, .agg #[.int .i64 t143, .int .u64 t144]), (7, .pointer (some ⟨s_.1, 0, none⟩)), (8, .pointer (some ⟨s_.2, 0, none⟩))]) (fun s_ w' => (w'.cell? ⟨gb139, 0, none⟩ = some (.int .i64 a0_0) ∧ w'.cell? ⟨gb139, 1, none⟩ = some (.int .u64 a0_1) ∧ w'.cell? ⟨gb140, 0, none⟩ = some (.int .i64 a1_0) ∧ w'.cell? ⟨gb140, 1, none⟩ = some (.int .u64 a1_1)) ∧ (w'.heap[gb139]? = some (.cells #[.int .i64 a0_0, .int .u64 a0_1] 24 (0, 0))) ∧ (w'.heap[gb140]? = some (.cells #[.int .i64 a1_0, .int .u64 a1_1] 24 (0, 0))) ∧ (w'.heap[gb141]? = some (.cells #[.int .i64 a2_0, .int .u64 a2_1] 24 (0, 0))) ∧ (w'.heap[s_.1]? = some (.cells #[.int .i64 0, .int .u64 0] 24 (0, 0))) ∧ (w'.heap[s_.2]? = some (.cells #[.int .i64 0, .int .u64 0] 24 (0, 0))) ∧ (w.heap.size ≤ s_.1) ∧ (w.heap.size ≤ s_.1) ∧ (gb139 ≠ s_.1) ∧ (s_.1 ≠ gb139) ∧ (gb140 ≠ s_.1) ∧ (s_.1 ≠ gb140) ∧ (gb141 ≠ s_.1) ∧ (s_.1 ≠ gb141) ∧ (s_.2 ≠ s_.1) ∧ (s_.1 ≠ s_.2) ∧ (w.heap.size ≤ s_.2) ∧ (w.heap.size ≤ s_.2) ∧ (gb139 ≠ s_.2) ∧ (s_.2 ≠ gb139) ∧ (gb140 ≠ s_.2) ∧ (s_.2 ≠ gb140) ∧ (gb141 ≠ s_.2) ∧ (s_.2 ≠ gb141) ∧ (Below w.heap.size w w')) ?_ ?_
     rotate_left
     ·
      intro hJ2_6_7
      refine join_ (σ := Unit) 4 (Goto.bs 10 63) (fun s_ => [(13, .agg #[.int .i64 t143, .int .u64 t144]), (16, .agg #[.int .i64 t145, .int .u64 t146])]) (fun s_ w' => (w'.cell? ⟨gb139, 0, none⟩ = some (.int .i64 a0_0) ∧ w'.cell? ⟨gb139, 1, none⟩ = some (.int .u64 a0_1) ∧ w'.cell? ⟨gb140, 0, none⟩ = some (.int .i64 a1_0) ∧ w'.cell? ⟨gb140, 1, none⟩ = some (.int .u64 a1_1)) ∧ (w'.heap[gb139]? = some (.cells #[.int .i64 a0_0, .int .u64 a0_1] 24 (0, 0))) ∧ (w'.heap[gb140]? = some (.cells #[.int .i64 a1_0, .int .u64 a1_1] 24 (0, 0))) ∧ (w'.heap[gb141]? = some (.cells #[.int .i64 a2_0, .int .u64 a2_1] 24 (0, 0))) ∧ (Below w.heap.size w w')) ?_ ?_
      rotate_left
      ·
       intro hJ2_5
       refine join_ (σ := Nat) 4 (Goto.bs 10 95) (fun s_ => [(13, .agg #[.int .i64 t143, .int .u64 t144]), (7, .pointer (some ⟨s_, 0, none⟩))]) (fun s_ w' => (w'.cell? ⟨gb139, 0, none⟩ = some (.int .i64 a0_0) ∧ w'.cell? ⟨gb139, 1, none⟩ = some (.int .u64 a0_1) ∧ w'.cell? ⟨gb140, 0, none⟩ = some (.int .i64 a1_0) ∧ w'.cell? ⟨gb140, 1, none⟩ = some (.int .u64 a1_1)) ∧ (w'.heap[gb139]? = some (.cells #[.int .i64 a0_0, .int .u64 a0_1] 24 (0, 0))) ∧ (w'.heap[gb140]? = some (.cells #[.int .i64 a1_0, .int .u64 a1_1] 24 (0, 0))) ∧ (w'.heap[gb141]? = some (.cells #[.int .i64 a2_0, .int .u64 a2_1] 24 (0, 0))) ∧ (w'.heap[s_]? = some (.cells #[.int .i64 0, .int .u64 0] 24 (0, 0))) ∧ (w.heap.size ≤ s_) ∧ (w.heap.size ≤ s_) ∧ (gb139 ≠ s_) ∧ (s_ ≠ gb139) ∧ (gb140 ≠ s_) ∧ (s_ ≠ gb140) ∧ (gb141 ≠ s_) ∧ (s_ ≠ gb141) ∧ (Below w.heap.size w w')) ?_ ?_
       rotate_left
       ·
        intro hJ2_6
        refine join_ (σ := Nat) 4 (Goto.bs 10 159) (fun s_ => [(13, .agg #[.int .i64 t143, .int .u64 t144]), (8, .pointer (some ⟨s_, 0, none⟩))]) (fun s_ w' => (w'.cell? ⟨gb139, 0, none⟩ = some (.int .i64 a0_0) ∧ w'.cell? ⟨gb139, 1, none⟩ = some (.int .u64 a0_1) ∧ w'.cell? ⟨gb140, 0, none⟩ = some (.int .i64 a1_0) ∧ w'.cell? ⟨gb140, 1, none⟩ = some (.int .u64 a1_1)) ∧ (w'.heap[gb139]? = some (.cells #[.int .i64 a0_0, .int .u64 a0_1] 24 (0, 0))) ∧ (w'.heap[gb140]? = some (.cells #[.int .i64 a1_0, .int .u64 a1_1] 24 (0, 0))) ∧ (w'.heap[gb141]? = some (.cells #[.int .i64 a2_0, .int .u64 a2_1] 24 (0, 0))) ∧ (w'.heap[s_]? = some (.cells #[.int .i64 0, .int .u64 0] 24 (0, 0))) ∧ (w.heap.size ≤ s_) ∧ (w.heap.size ≤ s_) ∧ (gb139 ≠ s_) ∧ (s_ ≠ gb139) ∧ (gb140 ≠ s_) ∧ (s_ ≠ gb140) ∧ (gb141 ≠ s_) ∧ (s_ ≠ gb141) ∧ (Below w.heap.size w w')) ?_ ?_
        rotate_left
        ·
         intro hJ2_7
         refine join_ (σ := Nat × Nat) 4 (Goto.bs 10 219) (fun s_ => [(7, .pointer (some ⟨s_.1, 0, none⟩)), (8, .pointer (some ⟨s_.2, 0, none⟩))]) (fun s_ w' => (w'.cell? ⟨gb139, 0, none⟩ = some (.int .i64 a0_0) ∧ w'.cell? ⟨gb139, 1, none⟩ = some (.int .u64 a0_1) ∧ w'.cell? ⟨gb140, 0, none⟩ = some (.int .i64 a1_0) ∧ w'.cell? ⟨gb140, 1, none⟩ = some (.int .u64 a1_1)) ∧ (w'.heap[gb139]? = some (.cells #[.int .i64 a0_0, .int .u64 a0_1] 24 (0, 0))) ∧ (w'.heap[gb140]? = some (.cells #[.int .i64 a1_0, .int .u64 a1_1] 24 (0, 0))) ∧ (w'.heap[gb141]? = some (.cells #[.int .i64 a2_0, .int .u64 a2_1] 24 (0, 0))) ∧ (w'.heap[s_.1]? = some (.cells #[.int .i64 0, .int .u64 0] 24 (0, 0))) ∧ (w'.heap[s_.2]? = some (.cells #[.int .i64 0, .int .u64 0] 24 (0, 0))) ∧ (w.heap.size ≤ s_.1) ∧ (w.heap.size ≤ s_.1) ∧ (gb139 ≠ s_.1) ∧ (s_.1 ≠ gb139) ∧ (gb140 ≠ s_.1) ∧ (s_.1 ≠ gb140) ∧ (gb141 ≠ s_.1) ∧ (s_.1 ≠ gb141) ∧ (s_.2 ≠ s_.1) ∧ (s_.1 ≠ s_.2) ∧ (w.heap.size ≤ s_.2) ∧ (w.heap.size ≤ s_.2) ∧ (gb139 ≠ s_.2) ∧ (s_.2 ≠ gb139) ∧ (gb140 ≠ s_.2) ∧ (s_.2 ≠ gb140) ∧ (gb141 ≠ s_.2) ∧ (s_.2 ≠ gb141) ∧ (Below w.heap.size w w')) ?_ ?_
         rotate_left
         ·
          intro hJ6_7
          refine join_ (σ := Unit) 5 (Goto.bs 10 31) (fun s_ => [(13, .agg #[.int .i64 t143, .int .u64 t144])]) (fun s_ w' => (w'.cell? ⟨gb139, 0, none⟩ = some (.int .i64 a0_0) ∧ w'.cell? ⟨gb139, 1, none⟩ = some (.int .u64 a0_1) ∧ w'.cell? ⟨gb140, 0, none⟩ = some (.int .i64 a1_0) ∧ w'.cell? ⟨gb140, 1, none⟩ = some (.int .u64 a1_1)) ∧ (w'.heap[gb139]? = some (.cells #[.int .i64 a0_0, .int .u64 a0_1] 24 (0, 0))) ∧ (w'.heap[gb140]? = some (.cells #[.int .i64 a1_0, .int .u64 a1_1] 24 (0, 0))) ∧ (w'.heap[gb141]? = some (.cells #[.int .i64 a2_0, .int .u64 a2_1] 24 (0, 0))) ∧ (Below w.heap.size w w')) ?_ ?_
          rotate_left
          ·
           intro hJ2
           refine join_ (σ := Nat) 5 (Goto.bs 10 91) (fun s_ => [(7, .pointer (some ⟨s_, 0, none⟩))]) (fun s_ w' => (w'.cell? ⟨gb139, 0, none⟩ = some (.int .i64 a0_0) ∧ w'.cell? ⟨gb139, 1, none⟩ = some (.int .u64 a0_1) ∧ w'.cell? ⟨gb140, 0, none⟩ = some (.int .i64 a1_0) ∧ w'.cell? ⟨gb140, 1, none⟩ = some (.int .u64 a1_1)) ∧ (w'.heap[gb139]? = some (.cells #[.int .i64 a0_0, .int .u64 a0_1] 24 (0, 0))) ∧ (w'.heap[gb140]? = some (.cells #[.int .i64 a1_0, .int .u64 a1_1] 24 (0, 0))) ∧ (w'.heap[gb141]? = some (.cells #[.int .i64 a2_0, .int .u64 a2_1] 24 (0, 0))) ∧ (w'.heap[s_]? = some (.cells #[.int .i64 0, .int .u64 0] 24 (0, 0))) ∧ (w.heap.size ≤ s_) ∧ (w.heap.size ≤ s_) ∧ (gb139 ≠ s_) ∧ (s_ ≠ gb139) ∧ (gb140 ≠ s_) ∧ (s_ ≠ gb140) ∧ (gb141 ≠ s_) ∧ (s_ ≠ gb141) ∧ (Below w.heap.size w w')) ?_ ?_
           rotate_left
           ·
            intro hJ6
            refine join_ (σ := Nat) 5 (Goto.bs 10 155) (fun s_ => [(8, .pointer (some ⟨s_, 0, none⟩))]) (fun s_ w' => (w'.cell? ⟨gb139, 0, none⟩ = some (.int .i64 a0_0) ∧ w'.cell? ⟨gb139, 1, none⟩ = some (.int .u64 a0_1) ∧ w'.cell? ⟨gb140, 0, none⟩ = some (.int .i64 a1_0) ∧ w'.cell? ⟨gb140, 1, none⟩ = some (.int .u64 a1_1)) ∧ (w'.heap[gb139]? = some (.cells #[.int .i64 a0_0, .int .u64 a0_1] 24 (0, 0))) ∧ (w'.heap[gb140]? = some (.cells #[.int .i64 a1_0, .int .u64 a1_1] 24 (0, 0))) ∧ (w'.heap[gb141]? = some (.cells #[.int .i64 a2_0, .int .u64 a2_1] 24 (0, 0))) ∧ (w'.heap[s_]? = some (.cells #[.int .i64 0, .int .u64 0] 24 (0, 0))) ∧ (w.heap.size ≤ s_) ∧ (w.heap.size ≤ s_) ∧ (gb139 ≠ s_) ∧ (s_ ≠ gb139) ∧ (gb140 ≠ s_) ∧ (s_ ≠ gb140) ∧ (gb141 ≠ s_) ∧ (s_ ≠ gb141) ∧ (Below w.heap.size w w')) ?_ ?_
            rotate_left
            ·
             intro hJ7
             refine three_ (i := 2) (j := 6) (k := 7) (Ni := some 13) (Nj := some 7) (Nk := some 8) (Goto.bs 10 31) (Goto.bs 10 91) (Goto.bs 10 155) rfl rfl rfl rfl rfl rfl (three_of HT_.out (by kernel_rfl)) (by decide) (by decide) (by decide) (fun K hK => ?_) (fun K hK => ?_) (fun K hK => ?_)
             ·
              skip
              refine goes_ Try.func20 (by kernel_rfl) rfl #[.agg #[.int .i64 a0_0, .int .u64 a0_1], .agg #[.int .i64 a1_0, .int .u64 a1_1]] (by rfl) rfl rfl (by (try simp only [List.map_toArray, List.map_cons, List.map_nil]); first | done | rfl | (simp only [List.length_drop, List.length_take]; rfl)) ?_
              with_reducible refine (label_Join.calls a0_0 a0_1 a1_0 a1_1 t143 t144 _ A6.out).mono ?_
              rintro e w14 ⟨rfl, hb⟩
              refine ⟨_, rfl, ?_⟩
              replace BK139 := Goto.bb BK139 hb; replace BK140 := Goto.bb BK140 hb; replace BK141 := Goto.bb BK141 hb; replace HB := Goto.hs HB hb
              (try clear hb)
              (try clear hb2)
              (try clear hk)
              (try clear hi)
              refine hK.out _ _ ⟨(blk_cell BK139.out 0).trans rfl, (blk_cell BK139.out 1).trans rfl, (blk_cell BK140.out 0).trans rfl, (blk_cell BK140.out 1).trans rfl⟩ (fun hHeld => ?_)
              clear hK K
              refine norm_ (a' := ?_) ?_ ?_
              rotate_left
              ·
               show Act.put _ (some 13) _ = _
               exact Goto.ap
              exact Goto.nm (hJ2 () _ ⟨hHeld, (Goto.bx BK139), (Goto.bx BK140), (Goto.bx BK141), (Goto.hx HB)⟩)
             ·
              skip
              refine box_step ?hg (N := 7) ?hd (cs := #[.int .i64 0, .int .u64 0]) (t := 24) ?hr ?_; (case hd => rfl); (case hg => rfl); (case hr => first | (go_simp; done) | (go_simp; rfl))
              intro gb147 hg w14 hbox hb
              have BK147 := Goto.m0 (hbox); have GW147 := Goto.gs HB hg; have GE147 := Goto.gs HB hg; have NB139_147 := Goto.nl BK139 hg; have NB147_139 := Goto.nr BK139 hg; have NB140_147 := Goto.nl BK140 hg; have NB147_140 := Goto.nr BK140 hg; have NB141_147 := Goto.nl BK141 hg; have NB147_141 := Goto.nr BK141 hg; replace BK139 := Goto.bb BK139 hb; replace BK140 := Goto.bb BK140 hb; replace BK141 := Goto.bb BK141 hb; replace HB := Goto.hs HB hb; clear hb hbox hg
              refine hK.out _ _ ⟨(blk_cell BK139.out 0).trans rfl, (blk_cell BK139.out 1).trans rfl, (blk_cell BK140.out 0).trans rfl, (blk_cell BK140.out 1).trans rfl⟩ (fun hHeld => ?_)
              clear hK K
              refine norm_ (a' := ?_) ?_ ?_
              rotate_left
              ·
               show Act.put _ (some 7) _ = _
               exact Goto.ap
              exact Goto.nm (hJ6 (gb147) _ ⟨hHeld, (Goto.bx BK139), (Goto.bx BK140), (Goto.bx BK141), (Goto.bx BK147), GW147.out, GE147.out, NB139_147.out, NB147_139.out, NB140_147.out, NB147_140.out, NB141_147.out, NB147_141.out, (Goto.hx HB)⟩)
             ·
              skip
              refine box_step ?hg (N := 8) ?hd (cs := #[.int .i64 0, .int .u64 0]) (t := 24) ?hr ?_; (case hd => rfl); (case hg => rfl); (case hr => first | (go_simp; done) | (go_simp; rfl))
              intro gb148 hg w14 hbox hb
              have BK148 := Goto.m0 (hbox); have GW148 := Goto.gs HB hg; have GE148 := Goto.gs HB hg; have NB139_148 := Goto.nl BK139 hg; have NB148_139 := Goto.nr BK139 hg; have NB140_148 := Goto.nl BK140 hg; have NB148_140 := Goto.nr BK140 hg; have NB141_148 := Goto.nl BK141 hg; have NB148_141 := Goto.nr BK141 hg; replace BK139 := Goto.bb BK139 hb; replace BK140 := Goto.bb BK140 hb; replace BK141 := Goto.bb BK141 hb; replace HB := Goto.hs HB hb; clear hb hbox hg
              refine hK.out _ _ ⟨(blk_cell BK139.out 0).trans rfl, (blk_cell BK139.out 1).trans rfl, (blk_cell BK140.out 0).trans rfl, (blk_cell BK140.out 1).trans rfl⟩ (fun hHeld => ?_)
              clear hK K
              refine norm_ (a' := ?_) ?_ ?_
              rotate_left
              ·
               show Act.put _ (some 8) _ = _
               exact Goto.ap
              exact Goto.nm (hJ7 (gb148) _ ⟨hHeld, (Goto.bx BK139), (Goto.bx BK140), (Goto.bx BK141), (Goto.bx BK148), GW148.out, GE148.out, NB139_148.out, NB148_139.out, NB140_148.out, NB148_140.out, NB141_148.out, NB148_141.out, (Goto.hx HB)⟩)
            ·
             skip
             rintro gb148 w15 ⟨hS_, h0_, h1_, h2_, h3_, h4_, h5_, h6_, h7_, h8_, h9_, h10_, h11_, h12_⟩
             have n0_ : Aside0 (w15.heap[gb139]? = some (.cells #[.int .i64 a0_0, .int .u64 a0_1] 24 (0, 0))) := ⟨h0_⟩
             have n1_ : Aside0 (w15.heap[gb140]? = some (.cells #[.int .i64 a1_0, .int .u64 a1_1] 24 (0, 0))) := ⟨h1_⟩
             have n2_ : Aside0 (w15.heap[gb141]? = some (.cells #[.int .i64 a2_0, .int .u64 a2_1] 24 (0, 0))) := ⟨h2_⟩
             have n3_ : Aside0 (w15.heap[gb148]? = some (.cells #[.int .i64 0, .int .u64 0] 24 (0, 0))) := ⟨h3_⟩
             have n4_ : Aside0 (w.heap.size ≤ gb148) := ⟨h4_⟩
             have n5_ : Aside0 (w.heap.size ≤ gb148) := ⟨h5_⟩
             have n6_ : Aside0 (gb139 ≠ gb148) := ⟨h6_⟩
             have n7_ : Aside0 (gb148 ≠ gb139) := ⟨h7_⟩
             have n8_ : Aside0 (gb140 ≠ gb148) := ⟨h8_⟩
             have n9_ : Aside0 (gb148 ≠ gb140) := ⟨h9_⟩
             have n10_ : Aside0 (gb141 ≠ gb148) := ⟨h10_⟩
             have n11_ : Aside0 (gb148 ≠ gb141) := ⟨h11_⟩
             have n12_ : Aside0 (Below w.heap.size w w15) := ⟨h12_⟩
             clear BK139; clear BK140; clear BK141; clear HB; clear h0_ h1_ h2_ h3_ h4_ h5_ h6_ h7_ h8_ h9_ h10_ h11_ h12_; have BK139 := n0_; have BK140 := n1_; have BK141 := n2_; have BK148 := n3_; have GW148 := n4_; have GE148 := n5_; have NB139_148 := n6_; have NB148_139 := n7_; have NB140_148 := n8_; have NB148_140 := n9_; have NB141_148 := n10_; have NB148_141 := n11_; have HB := n12_; clear n0_ n1_ n2_ n3_ n4_ n5_ n6_ n7_ n8_ n9_ n10_ n11_ n12_
             have hHeld : w15.cell? ⟨gb139, 0, none⟩ = some (.int .i64 a0_0) ∧ w15.cell? ⟨gb139, 1, none⟩ = some (.int .u64 a0_1) ∧ w15.cell? ⟨gb140, 0, none⟩ = some (.int .i64 a1_0) ∧ w15.cell? ⟨gb140, 1, none⟩ = some (.int .u64 a1_1) := hS_
             refine norm_ (a' := ?_) ?_ ?_
             rotate_left
             ·
              simp only [putAll, Act.put, List.setIfInBounds_toArray, List.set_cons_zero, List.set_cons_succ]
              rfl
             refine two_ (i := 2) (j := 6) (Ni := some 13) (Nj := some 7) (Goto.bs 10 159) (Goto.bs 10 219) rfl rfl rfl rfl (two_of HT_.out (by kernel_rfl)) (by decide) (by decide) (fun K hK => ?_) (fun K hK => ?_)
             ·
              skip
              refine goes_ Try.func20 (by kernel_rfl) rfl #[.agg #[.int .i64 a0_0, .int .u64 a0_1], .agg #[.int .i64 a1_0, .int .u64 a1_1]] (by rfl) rfl rfl (by (try simp only [List.map_toArray, List.map_cons, List.map_nil]); first | done | rfl | (simp only [List.length_drop, List.length_take]; rfl)) ?_
              with_reducible refine (label_Join.calls a0_0 a0_1 a1_0 a1_1 t143 t144 _ A6.out).mono ?_
              rintro e w16 ⟨rfl, hb⟩
              refine ⟨_, rfl, ?_⟩
              replace BK139 := Goto.bb BK139 hb; replace BK140 := Goto.bb BK140 hb; replace BK141 := Goto.bb BK141 hb; replace BK148 := Goto.bb BK148 hb; replace HB := Goto.hs HB hb
              (try clear hb)
              (try clear hb2)
              (try clear hk)
              (try clear hi)
              refine hK.out _ _ ⟨(blk_cell BK139.out 0).trans rfl, (blk_cell BK139.out 1).trans rfl, (blk_cell BK140.out 0).trans rfl, (blk_cell BK140.out 1).trans rfl⟩ (fun hHeld => ?_)
              clear hK K
              refine norm_ (a' := ?_) ?_ ?_
              rotate_left
              ·
               show Act.put _ (some 13) _ = _
               exact Goto.ap
              exact Goto.nm (hJ2_7 (gb148) _ ⟨hHeld, (Goto.bx BK139), (Goto.bx BK140), (Goto.bx BK141), (Goto.bx BK148), GW148.out, GE148.out, NB139_148.out, NB148_139.out, NB140_148.out, NB148_140.out, NB141_148.out, NB148_141.out, (Goto.hx HB)⟩)
             ·
              skip
              refine box_step ?hg (N := 7) ?hd (cs := #[.int .i64 0, .int .u64 0]) (t := 24) ?hr ?_; (case hd => rfl); (case hg => rfl); (case hr => first | (go_simp; done) | (go_simp; rfl))
              intro gb147 hg w16 hbox hb
              have BK147 := Goto.m0 (hbox); have GW147 := Goto.gs HB hg; have GE147 := Goto.gs HB hg; have NB139_147 := Goto.nl BK139 hg; have NB147_139 := Goto.nr BK139 hg; have NB140_147 := Goto.nl BK140 hg; have NB147_140 := Goto.nr BK140 hg; have NB141_147 := Goto.nl BK141 hg; have NB147_141 := Goto.nr BK141 hg; have NB148_147 := Goto.nl BK148 hg; have NB147_148 := Goto.nr BK148 hg; replace BK139 := Goto.bb BK139 hb; replace BK140 := Goto.bb BK140 hb; replace BK141 := Goto.bb BK141 hb; replace BK148 := Goto.bb BK148 hb; replace HB := Goto.hs HB hb; clear hb hbox hg
              refine hK.out _ _ ⟨(blk_cell BK139.out 0).trans rfl, (blk_cell BK139.out 1).trans rfl, (blk_cell BK140.out 0).trans rfl, (blk_cell BK140.out 1).trans rfl⟩ (fun hHeld => ?_)
              clear hK K
              refine norm_ (a' := ?_) ?_ ?_
              rotate_left
              ·
               show Act.put _ (some 7) _ = _
               exact Goto.ap
              exact Goto.nm (hJ6_7 (gb147, gb148) _ ⟨hHeld, (Goto.bx BK139), (Goto.bx BK140), (Goto.bx BK141), (Goto.bx BK147), (Goto.bx BK148), GW147.out, GE147.out, NB139_147.out, NB147_139.out, NB140_147.out, NB147_140.out, NB141_147.out, NB147_141.out, NB148_147.out, NB147_148.out, GW148.out, GE148.out, NB139_148.out, NB148_139.out, NB140_148.out, NB148_140.out, NB141_148.out, NB148_141.out, (Goto.hx HB)⟩)
           ·
            skip
            rintro gb147 w15 ⟨hS_, h0_, h1_, h2_, h3_, h4_, h5_, h6_, h7_, h8_, h9_, h10_, h11_, h12_⟩
            have n0_ : Aside0 (w15.heap[gb139]? = some (.cells #[.int .i64 a0_0, .int .u64 a0_1] 24 (0, 0))) := ⟨h0_⟩
            have n1_ : Aside0 (w15.heap[gb140]? = some (.cells #[.int .i64 a1_0, .int .u64 a1_1] 24 (0, 0))) := ⟨h1_⟩
            have n2_ : Aside0 (w15.heap[gb141]? = some (.cells #[.int .i64 a2_0, .int .u64 a2_1] 24 (0, 0))) := ⟨h2_⟩
            have n3_ : Aside0 (w15.heap[gb147]? = some (.cells #[.int .i64 0, .int .u64 0] 24 (0, 0))) := ⟨h3_⟩
            have n4_ : Aside0 (w.heap.size ≤ gb147) := ⟨h4_⟩
            have n5_ : Aside0 (w.heap.size ≤ gb147) := ⟨h5_⟩
            have n6_ : Aside0 (gb139 ≠ gb147) := ⟨h6_⟩
            have n7_ : Aside0 (gb147 ≠ gb139) := ⟨h7_⟩
            have n8_ : Aside0 (gb140 ≠ gb147) := ⟨h8_⟩
            have n9_ : Aside0 (gb147 ≠ gb140) := ⟨h9_⟩
            have n10_ : Aside0 (gb141 ≠ gb147) := ⟨h10_⟩
            have n11_ : Aside0 (gb147 ≠ gb141) := ⟨h11_⟩
            have n12_ : Aside0 (Below w.heap.size w w15) := ⟨h12_⟩
            clear BK139; clear BK140; clear BK141; clear HB; clear h0_ h1_ h2_ h3_ h4_ h5_ h6_ h7_ h8_ h9_ h10_ h11_ h12_; have BK139 := n0_; have BK140 := n1_; have BK141 := n2_; have BK147 := n3_; have GW147 := n4_; have GE147 := n5_; have NB139_147 := n6_; have NB147_139 := n7_; have NB140_147 := n8_; have NB147_140 := n9_; have NB141_147 := n10_; have NB147_141 := n11_; have HB := n12_; clear n0_ n1_ n2_ n3_ n4_ n5_ n6_ n7_ n8_ n9_ n10_ n11_ n12_
            have hHeld : w15.cell? ⟨gb139, 0, none⟩ = some (.int .i64 a0_0) ∧ w15.cell? ⟨gb139, 1, none⟩ = some (.int .u64 a0_1) ∧ w15.cell? ⟨gb140, 0, none⟩ = some (.int .i64 a1_0) ∧ w15.cell? ⟨gb140, 1, none⟩ = some (.int .u64 a1_1) := hS_
            refine norm_ (a' := ?_) ?_ ?_
            rotate_left
            ·
             simp only [putAll, Act.put, List.setIfInBounds_toArray, List.set_cons_zero, List.set_cons_succ]
             rfl
            refine two_ (i := 2) (j := 7) (Ni := some 13) (Nj := some 8) (Goto.bs 10 95) (Goto.bs 10 219) rfl rfl rfl rfl (two_of HT_.out (by kernel_rfl)) (by decide) (by decide) (fun K hK => ?_) (fun K hK => ?_)
            ·
             skip
             refine goes_ Try.func20 (by kernel_rfl) rfl #[.agg #[.int .i64 a0_0, .int .u64 a0_1], .agg #[.int .i64 a1_0, .int .u64 a1_1]] (by rfl) rfl rfl (by (try simp only [List.map_toArray, List.map_cons, List.map_nil]); first | done | rfl | (simp only [List.length_drop, List.length_take]; rfl)) ?_
             with_reducible refine (label_Join.calls a0_0 a0_1 a1_0 a1_1 t143 t144 _ A6.out).mono ?_
             rintro e w16 ⟨rfl, hb⟩
             refine ⟨_, rfl, ?_⟩
             replace BK139 := Goto.bb BK139 hb; replace BK140 := Goto.bb BK140 hb; replace BK141 := Goto.bb BK141 hb; replace BK147 := Goto.bb BK147 hb; replace HB := Goto.hs HB hb
             (try clear hb)
             (try clear hb2)
             (try clear hk)
             (try clear hi)
             refine hK.out _ _ ⟨(blk_cell BK139.out 0).trans rfl, (blk_cell BK139.out 1).trans rfl, (blk_cell BK140.out 0).trans rfl, (blk_cell BK140.out 1).trans rfl⟩ (fun hHeld => ?_)
             clear hK K
             refine norm_ (a' := ?_) ?_ ?_
             rotate_left
             ·
              show Act.put _ (some 13) _ = _
              exact Goto.ap
             exact Goto.nm (hJ2_6 (gb147) _ ⟨hHeld, (Goto.bx BK139), (Goto.bx BK140), (Goto.bx BK141), (Goto.bx BK147), GW147.out, GE147.out, NB139_147.out, NB147_139.out, NB140_147.out, NB147_140.out, NB141_147.out, NB147_141.out, (Goto.hx HB)⟩)
            ·
             skip
             refine box_step ?hg (N := 8) ?hd (cs := #[.int .i64 0, .int .u64 0]) (t := 24) ?hr ?_; (case hd => rfl); (case hg => rfl); (case hr => first | (go_simp; done) | (go_simp; rfl))
             intro gb148 hg w16 hbox hb
             have BK148 := Goto.m0 (hbox); have GW148 := Goto.gs HB hg; have GE148 := Goto.gs HB hg; have NB139_148 := Goto.nl BK139 hg; have NB148_139 := Goto.nr BK139 hg; have NB140_148 := Goto.nl BK140 hg; have NB148_140 := Goto.nr BK140 hg; have NB141_148 := Goto.nl BK141 hg; have NB148_141 := Goto.nr BK141 hg; have NB147_148 := Goto.nl BK147 hg; have NB148_147 := Goto.nr BK147 hg; replace BK139 := Goto.bb BK139 hb; replace BK140 := Goto.bb BK140 hb; replace BK141 := Goto.bb BK141 hb; replace BK147 := Goto.bb BK147 hb; replace HB := Goto.hs HB hb; clear hb hbox hg
             refine hK.out _ _ ⟨(blk_cell BK139.out 0).trans rfl, (blk_cell BK139.out 1).trans rfl, (blk_cell BK140.out 0).trans rfl, (blk_cell BK140.out 1).trans rfl⟩ (fun hHeld => ?_)
             clear hK K
             refine norm_ (a' := ?_) ?_ ?_
             rotate_left
             ·
              show Act.put _ (some 8) _ = _
              exact Goto.ap
             exact Goto.nm (hJ6_7 (gb147, gb148) _ ⟨hHeld, (Goto.bx BK139), (Goto.bx BK140), (Goto.bx BK141), (Goto.bx BK147), (Goto.bx BK148), GW147.out, GE147.out, NB139_147.out, NB147_139.out, NB140_147.out, NB147_140.out, NB141_147.out, NB147_141.out, NB148_147.out, NB147_148.out, GW148.out, GE148.out, NB139_148.out, NB148_139.out, NB140_148.out, NB148_140.out, NB141_148.out, NB148_141.out, (Goto.hx HB)⟩)
          ·
           skip
           rintro _ w15 ⟨hS_, h0_, h1_, h2_, h3_⟩
           have n0_ : Aside0 (w15.heap[gb139]? = some (.cells #[.int .i64 a0_0, .int .u64 a0_1] 24 (0, 0))) := ⟨h0_⟩
           have n1_ : Aside0 (w15.heap[gb140]? = some (.cells #[.int .i64 a1_0, .int .u64 a1_1] 24 (0, 0))) := ⟨h1_⟩
           have n2_ : Aside0 (w15.heap[gb141]? = some (.cells #[.int .i64 a2_0, .int .u64 a2_1] 24 (0, 0))) := ⟨h2_⟩
           have n3_ : Aside0 (Below w.heap.size w w15) := ⟨h3_⟩
           clear BK139; clear BK140; clear BK141; clear HB; clear h0_ h1_ h2_ h3_; have BK139 := n0_; have BK140 := n1_; have BK141 := n2_; have HB := n3_; clear n0_ n1_ n2_ n3_
           have hHeld : w15.cell? ⟨gb139, 0, none⟩ = some (.int .i64 a0_0) ∧ w15.cell? ⟨gb139, 1, none⟩ = some (.int .u64 a0_1) ∧ w15.cell? ⟨gb140, 0, none⟩ = some (.int .i64 a1_0) ∧ w15.cell? ⟨gb140, 1, none⟩ = some (.int .u64 a1_1) := hS_
           refine norm_ (a' := ?_) ?_ ?_
           rotate_left
           ·
            simp only [putAll, Act.put, List.setIfInBounds_toArray, List.set_cons_zero, List.set_cons_succ]
            rfl
           refine three_ (i := 5) (j := 6) (k := 7) (Ni := some 16) (Nj := some 7) (Nk := some 8) (Goto.bs 10 63) (Goto.bs 10 95) (Goto.bs 10 159) rfl rfl rfl rfl rfl rfl (three_of HT_.out (by kernel_rfl)) (by decide) (by decide) (by decide) (fun K hK => ?_) (fun K hK => ?_) (fun K hK => ?_)
           ·
            skip
            refine goes_ Try.func22 (by kernel_rfl) rfl #[.agg #[.int .i64 a0_0, .int .u64 a0_1], .agg #[.int .i64 a1_0, .int .u64 a1_1]] (by rfl) rfl rfl (by (try simp only [List.map_toArray, List.map_cons, List.map_nil]); first | done | rfl | (simp only [List.length_drop, List.length_take]; rfl)) ?_
            with_reducible refine (label_Meet.calls a0_0 a0_1 a1_0 a1_1 t145 t146 _ A7.out).mono ?_
            rintro e w16 ⟨rfl, hb⟩
            refine ⟨_, rfl, ?_⟩
            replace BK139 := Goto.bb BK139 hb; replace BK140 := Goto.bb BK140 hb; replace BK141 := Goto.bb BK141 hb; replace HB := Goto.hs HB hb
            (try clear hb)
            (try clear hb2)
            (try clear hk)
            (try clear hi)
            refine hK.out _ _ ⟨(blk_cell BK139.out 0).trans rfl, (blk_cell BK139.out 1).trans rfl, (blk_cell BK140.out 0).trans rfl, (blk_cell BK140.out 1).trans rfl⟩ (fun hHeld => ?_)
            clear hK K
            refine norm_ (a' := ?_) ?_ ?_
            rotate_left
            ·
             show Act.put _ (some 16) _ = _
             exact Goto.ap
            exact Goto.nm (hJ2_5 () _ ⟨hHeld, (Goto.bx BK139), (Goto.bx BK140), (Goto.bx BK141), (Goto.hx HB)⟩)
           ·
            skip
            refine box_step ?hg (N := 7) ?hd (cs := #[.int .i64 0, .int .u64 0]) (t := 24) ?hr ?_; (case hd => rfl); (case hg => rfl); (case hr => first | (go_simp; done) | (go_simp; rfl))
            intro gb147 hg w16 hbox hb
            have BK147 := Goto.m0 (hbox); have GW147 := Goto.gs HB hg; have GE147 := Goto.gs HB hg; have NB139_147 := Goto.nl BK139 hg; have NB147_139 := Goto.nr BK139 hg; have NB140_147 := Goto.nl BK140 hg; have NB147_140 := Goto.nr BK140 hg; have NB141_147 := Goto.nl BK141 hg; have NB147_141 := Goto.nr BK141 hg; replace BK139 := Goto.bb BK139 hb; replace BK140 := Goto.bb BK140 hb; replace BK141 := Goto.bb BK141 hb; replace HB := Goto.hs HB hb; clear hb hbox hg
            refine hK.out _ _ ⟨(blk_cell BK139.out 0).trans rfl, (blk_cell BK139.out 1).trans rfl, (blk_cell BK140.out 0).trans rfl, (blk_cell BK140.out 1).trans rfl⟩ (fun hHeld => ?_)
            clear hK K
            refine norm_ (a' := ?_) ?_ ?_
            rotate_left
            ·
             show Act.put _ (some 7) _ = _
             exact Goto.ap
            exact Goto.nm (hJ2_6 (gb147) _ ⟨hHeld, (Goto.bx BK139), (Goto.bx BK140), (Goto.bx BK141), (Goto.bx BK147), GW147.out, GE147.out, NB139_147.out, NB147_139.out, NB140_147.out, NB147_140.out, NB141_147.out, NB147_141.out, (Goto.hx HB)⟩)
           ·
            skip
            refine box_step ?hg (N := 8) ?hd (cs := #[.int .i64 0, .int .u64 0]) (t := 24) ?hr ?_; (case hd => rfl); (case hg => rfl); (case hr => first | (go_simp; done) | (go_simp; rfl))
            intro gb148 hg w16 hbox hb
            have BK148 := Goto.m0 (hbox); have GW148 := Goto.gs HB hg; have GE148 := Goto.gs HB hg; have NB139_148 := Goto.nl BK139 hg; have NB148_139 := Goto.nr BK139 hg; have NB140_148 := Goto.nl BK140 hg; have NB148_140 := Goto.nr BK140 hg; have NB141_148 := Goto.nl BK141 hg; have NB148_141 := Goto.nr BK141 hg; replace BK139 := Goto.bb BK139 hb; replace BK140 := Goto.bb BK140 hb; replace BK141 := Goto.bb BK141 hb; replace HB := Goto.hs HB hb; clear hb hbox hg
            refine hK.out _ _ ⟨(blk_cell BK139.out 0).trans rfl, (blk_cell BK139.out 1).trans rfl, (blk_cell BK140.out 0).trans rfl, (blk_cell BK140.out 1).trans rfl⟩ (fun hHeld => ?_)
            clear hK K
            refine norm_ (a' := ?_) ?_ ?_
            rotate_left
            ·
             show Act.put _ (some 8) _ = _
             exact Goto.ap
            exact Goto.nm (hJ2_7 (gb148) _ ⟨hHeld, (Goto.bx BK139), (Goto.bx BK140), (Goto.bx BK141), (Goto.bx BK148), GW148.out, GE148.out, NB139_148.out, NB148_139.out, NB140_148.out, NB148_140.out, NB141_148.out, NB148_141.out, (Goto.hx HB)⟩)
         ·
          skip
          rintro ⟨gb147, gb148⟩ w16 ⟨hS_, h0_, h1_, h2_, h3_, h4_, h5_, h6_, h7_, h8_, h9_, h10_, h11_, h12_, h13_, h14_, h15_, h16_, h17_, h18_, h19_, h20_, h21_, h22_, h23_⟩
          have n0_ : Aside0 (w16.heap[gb139]? = some (.cells #[.int .i64 a0_0, .int .u64 a0_1] 24 (0, 0))) := ⟨h0_⟩
          have n1_ : Aside0 (w16.heap[gb140]? = some (.cells #[.int .i64 a1_0, .int .u64 a1_1] 24 (0, 0))) := ⟨h1_⟩
          have n2_ : Aside0 (w16.heap[gb141]? = some (.cells #[.int .i64 a2_0, .int .u64 a2_1] 24 (0, 0))) := ⟨h2_⟩
          have n3_ : Aside0 (w16.heap[gb147]? = some (.cells #[.int .i64 0, .int .u64 0] 24 (0, 0))) := ⟨h3_⟩
          have n4_ : Aside0 (w16.heap[gb148]? = some (.cells #[.int .i64 0, .int .u64 0] 24 (0, 0))) := ⟨h4_⟩
          have n5_ : Aside0 (w.heap.size ≤ gb147) := ⟨h5_⟩
          have n6_ : Aside0 (w.heap.size ≤ gb147) := ⟨h6_⟩
          have n7_ : Aside0 (gb139 ≠ gb147) := ⟨h7_⟩
          have n8_ : Aside0 (gb147 ≠ gb139) := ⟨h8_⟩
          have n9_ : Aside0 (gb140 ≠ gb147) := ⟨h9_⟩
          have n10_ : Aside0 (gb147 ≠ gb140) := ⟨h10_⟩
          have n11_ : Aside0 (gb141 ≠ gb147) := ⟨h11_⟩
          have n12_ : Aside0 (gb147 ≠ gb141) := ⟨h12_⟩
          have n13_ : Aside0 (gb148 ≠ gb147) := ⟨h13_⟩
          have n14_ : Aside0 (gb147 ≠ gb148) := ⟨h14_⟩
          have n15_ : Aside0 (w.heap.size ≤ gb148) := ⟨h15_⟩
          have n16_ : Aside0 (w.heap.size ≤ gb148) := ⟨h16_⟩
          have n17_ : Aside0 (gb139 ≠ gb148) := ⟨h17_⟩
          have n18_ : Aside0 (gb148 ≠ gb139) := ⟨h18_⟩
          have n19_ : Aside0 (gb140 ≠ gb148) := ⟨h19_⟩
          have n20_ : Aside0 (gb148 ≠ gb140) := ⟨h20_⟩
          have n21_ : Aside0 (gb141 ≠ gb148) := ⟨h21_⟩
          have n22_ : Aside0 (gb148 ≠ gb141) := ⟨h22_⟩
          have n23_ : Aside0 (Below w.heap.size w w16) := ⟨h23_⟩
          clear BK139; clear BK140; clear BK141; clear HB; clear h0_ h1_ h2_ h3_ h4_ h5_ h6_ h7_ h8_ h9_ h10_ h11_ h12_ h13_ h14_ h15_ h16_ h17_ h18_ h19_ h20_ h21_ h22_ h23_; have BK139 := n0_; have BK140 := n1_; have BK141 := n2_; have BK147 := n3_; have BK148 := n4_; have GW147 := n5_; have GE147 := n6_; have NB139_147 := n7_; have NB147_139 := n8_; have NB140_147 := n9_; have NB147_140 := n10_; have NB141_147 := n11_; have NB147_141 := n12_; have NB148_147 := n13_; have NB147_148 := n14_; have GW148 := n15_; have GE148 := n16_; have NB139_148 := n17_; have NB148_139 := n18_; have NB140_148 := n19_; have NB148_140 := n20_; have NB141_148 := n21_; have NB148_141 := n22_; have HB := n23_; clear n0_ n1_ n2_ n3_ n4_ n5_ n6_ n7_ n8_ n9_ n10_ n11_ n12_ n13_ n14_ n15_ n16_ n17_ n18_ n19_ n20_ n21_ n22_ n23_
          have hHeld : w16.cell? ⟨gb139, 0, none⟩ = some (.int .i64 a0_0) ∧ w16.cell? ⟨gb139, 1, none⟩ = some (.int .u64 a0_1) ∧ w16.cell? ⟨gb140, 0, none⟩ = some (.int .i64 a1_0) ∧ w16.cell? ⟨gb140, 1, none⟩ = some (.int .u64 a1_1) := hS_
          refine norm_ (a' := ?_) ?_ ?_
          rotate_left
          ·
           simp only [putAll, Act.put, List.setIfInBounds_toArray, List.set_cons_zero, List.set_cons_succ]
           rfl
          refine one_ (i := 2) (N := some 13) (Goto.bs 10 223) rfl rfl (one_of HT_.out (by kernel_rfl)) (by decide) (fun K hK => ?_)
          refine goes_ Try.func20 (by kernel_rfl) rfl #[.agg #[.int .i64 a0_0, .int .u64 a0_1], .agg #[.int .i64 a1_0, .int .u64 a1_1]] (by rfl) rfl rfl (by (try simp only [List.map_toArray, List.map_cons, List.map_nil]); first | done | rfl | (simp only [List.length_drop, List.length_take]; rfl)) ?_
          with_reducible refine (label_Join.calls a0_0 a0_1 a1_0 a1_1 t143 t144 _ A6.out).mono ?_
          rintro e w17 ⟨rfl, hb⟩
          refine ⟨_, rfl, ?_⟩
          replace BK139 := Goto.bb BK139 hb; replace BK140 := Goto.bb BK140 hb; replace BK141 := Goto.bb BK141 hb; replace BK147 := Goto.bb BK147 hb; replace BK148 := Goto.bb BK148 hb; replace HB := Goto.hs HB hb
          (try clear hb)
          (try clear hb2)
          (try clear hk)
          (try clear hi)
          refine hK.out _ _ ⟨(blk_cell BK139.out 0).trans rfl, (blk_cell BK139.out 1).trans rfl, (blk_cell BK140.out 0).trans rfl, (blk_cell BK140.out 1).trans rfl⟩ (fun hHeld => ?_)
          clear hK K
          refine norm_ (a' := ?_) ?_ ?_
          rotate_left
          ·
           show Act.put _ (some 13) _ = _
           exact Goto.ap
          exact Goto.nm (hJ2_6_7 (gb147, gb148) _ ⟨hHeld, (Goto.bx BK139), (Goto.bx BK140), (Goto.bx BK141), (Goto.bx BK147), (Goto.bx BK148), GW147.out, GE147.out, NB139_147.out, NB147_139.out, NB140_147.out, NB147_140.out, NB141_147.out, NB147_141.out, NB148_147.out, NB147_148.out, GW148.out, GE148.out, NB139_148.out, NB148_139.out, NB140_148.out, NB148_140.out, NB141_148.out, NB148_141.out, (Goto.hx HB)⟩)
        ·
         skip
         rintro gb148 w16 ⟨hS_, h0_, h1_, h2_, h3_, h4_, h5_, h6_, h7_, h8_, h9_, h10_, h11_, h12_⟩
         have n0_ : Aside0 (w16.heap[gb139]? = some (.cells #[.int .i64 a0_0, .int .u64 a0_1] 24 (0, 0))) := ⟨h0_⟩
         have n1_ : Aside0 (w16.heap[gb140]? = some (.cells #[.int .i64 a1_0, .int .u64 a1_1] 24 (0, 0))) := ⟨h1_⟩
         have n2_ : Aside0 (w16.heap[gb141]? = some (.cells #[.int .i64 a2_0, .int .u64 a2_1] 24 (0, 0))) := ⟨h2_⟩
         have n3_ : Aside0 (w16.heap[gb148]? = some (.cells #[.int .i64 0, .int .u64 0] 24 (0, 0))) := ⟨h3_⟩
         have n4_ : Aside0 (w.heap.size ≤ gb148) := ⟨h4_⟩
         have n5_ : Aside0 (w.heap.size ≤ gb148) := ⟨h5_⟩
         have n6_ : Aside0 (gb139 ≠ gb148) := ⟨h6_⟩
         have n7_ : Aside0 (gb148 ≠ gb139) := ⟨h7_⟩
         have n8_ : Aside0 (gb140 ≠ gb148) := ⟨h8_⟩
         have n9_ : Aside0 (gb148 ≠ gb140) := ⟨h9_⟩
         have n10_ : Aside0 (gb141 ≠ gb148) := ⟨h10_⟩
         have n11_ : Aside0 (gb148 ≠ gb141) := ⟨h11_⟩
         have n12_ : Aside0 (Below w.heap.size w w16) := ⟨h12_⟩
         clear BK139; clear BK140; clear BK141; clear HB; clear h0_ h1_ h2_ h3_ h4_ h5_ h6_ h7_ h8_ h9_ h10_ h11_ h12_; have BK139 := n0_; have BK140 := n1_; have BK141 := n2_; have BK148 := n3_; have GW148 := n4_; have GE148 := n5_; have NB139_148 := n6_; have NB148_139 := n7_; have NB140_148 := n8_; have NB148_140 := n9_; have NB141_148 := n10_; have NB148_141 := n11_; have HB := n12_; clear n0_ n1_ n2_ n3_ n4_ n5_ n6_ n7_ n8_ n9_ n10_ n11_ n12_
         have hHeld : w16.cell? ⟨gb139, 0, none⟩ = some (.int .i64 a0_0) ∧ w16.cell? ⟨gb139, 1, none⟩ = some (.int .u64 a0_1) ∧ w16.cell? ⟨gb140, 0, none⟩ = some (.int .i64 a1_0) ∧ w16.cell? ⟨gb140, 1, none⟩ = some (.int .u64 a1_1) := hS_
         refine norm_ (a' := ?_) ?_ ?_
         rotate_left
         ·
          simp only [putAll, Act.put, List.setIfInBounds_toArray, List.set_cons_zero, List.set_cons_succ]
          rfl
         refine two_ (i := 5) (j := 6) (Ni := some 16) (Nj := some 7) (Goto.bs 10 191) (Goto.bs 10 223) rfl rfl rfl rfl (two_of HT_.out (by kernel_rfl)) (by decide) (by decide) (fun K hK => ?_) (fun K hK => ?_)
         ·
          skip
          refine goes_ Try.func22 (by kernel_rfl) rfl #[.agg #[.int .i64 a0_0, .int .u64 a0_1], .agg #[.int .i64 a1_0, .int .u64 a1_1]] (by rfl) rfl rfl (by (try simp only [List.map_toArray, List.map_cons, List.map_nil]); first | done | rfl | (simp only [List.length_drop, List.length_take]; rfl)) ?_
          with_reducible refine (label_Meet.calls a0_0 a0_1 a1_0 a1_1 t145 t146 _ A7.out).mono ?_
          rintro e w17 ⟨rfl, hb⟩
          refine ⟨_, rfl, ?_⟩
          replace BK139 := Goto.bb BK139 hb; replace BK140 := Goto.bb BK140 hb; replace BK141 := Goto.bb BK141 hb; replace BK148 := Goto.bb BK148 hb; replace HB := Goto.hs HB hb
          (try clear hb)
          (try clear hb2)
          (try clear hk)
          (try clear hi)
          refine hK.out _ _ ⟨(blk_cell BK139.out 0).trans rfl, (blk_cell BK139.out 1).trans rfl, (blk_cell BK140.out 0).trans rfl, (blk_cell BK140.out 1).trans rfl⟩ (fun hHeld => ?_)
          clear hK K
          refine norm_ (a' := ?_) ?_ ?_
          rotate_left
          ·
           show Act.put _ (some 16) _ = _
           exact Goto.ap
          exact Goto.nm (hJ2_5_7 (gb148) _ ⟨hHeld, (Goto.bx BK139), (Goto.bx BK140), (Goto.bx BK141), (Goto.bx BK148), GW148.out, GE148.out, NB139_148.out, NB148_139.out, NB140_148.out, NB148_140.out, NB141_148.out, NB148_141.out, (Goto.hx HB)⟩)
         ·
          skip
          refine box_step ?hg (N := 7) ?hd (cs := #[.int .i64 0, .int .u64 0]) (t := 24) ?hr ?_; (case hd => rfl); (case hg => rfl); (case hr => first | (go_simp; done) | (go_simp; rfl))
          intro gb147 hg w17 hbox hb
          have BK147 := Goto.m0 (hbox); have GW147 := Goto.gs HB hg; have GE147 := Goto.gs HB hg; have NB139_147 := Goto.nl BK139 hg; have NB147_139 := Goto.nr BK139 hg; have NB140_147 := Goto.nl BK140 hg; have NB147_140 := Goto.nr BK140 hg; have NB141_147 := Goto.nl BK141 hg; have NB147_141 := Goto.nr BK141 hg; have NB148_147 := Goto.nl BK148 hg; have NB147_148 := Goto.nr BK148 hg; replace BK139 := Goto.bb BK139 hb; replace BK140 := Goto.bb BK140 hb; replace BK141 := Goto.bb BK141 hb; replace BK148 := Goto.bb BK148 hb; replace HB := Goto.hs HB hb; clear hb hbox hg
          refine hK.out _ _ ⟨(blk_cell BK139.out 0).trans rfl, (blk_cell BK139.out 1).trans rfl, (blk_cell BK140.out 0).trans rfl, (blk_cell BK140.out 1).trans rfl⟩ (fun hHeld => ?_)
          clear hK K
          refine norm_ (a' := ?_) ?_ ?_
          rotate_left
          ·
           show Act.put _ (some 7) _ = _
           exact Goto.ap
          exact Goto.nm (hJ2_6_7 (gb147, gb148) _ ⟨hHeld, (Goto.bx BK139), (Goto.bx BK140), (Goto.bx BK141), (Goto.bx BK147), (Goto.bx BK148), GW147.out, GE147.out, NB139_147.out, NB147_139.out, NB140_147.out, NB147_140.out, NB141_147.out, NB147_141.out, NB148_147.out, NB147_148.out, GW148.out, GE148.out, NB139_148.out, NB148_139.out, NB140_148.out, NB148_140.out, NB141_148.out, NB148_141.out, (Goto.hx HB)⟩)
       ·
        skip
        rintro gb147 w16 ⟨hS_, h0_, h1_, h2_, h3_, h4_, h5_, h6_, h7_, h8_, h9_, h10_, h11_, h12_⟩
        have n0_ : Aside0 (w16.heap[gb139]? = some (.cells #[.int .i64 a0_0, .int .u64 a0_1] 24 (0, 0))) := ⟨h0_⟩
        have n1_ : Aside0 (w16.heap[gb140]? = some (.cells #[.int .i64 a1_0, .int .u64 a1_1] 24 (0, 0))) := ⟨h1_⟩
        have n2_ : Aside0 (w16.heap[gb141]? = some (.cells #[.int .i64 a2_0, .int .u64 a2_1] 24 (0, 0))) := ⟨h2_⟩
        have n3_ : Aside0 (w16.heap[gb147]? = some (.cells #[.int .i64 0, .int .u64 0] 24 (0, 0))) := ⟨h3_⟩
        have n4_ : Aside0 (w.heap.size ≤ gb147) := ⟨h4_⟩
        have n5_ : Aside0 (w.heap.size ≤ gb147) := ⟨h5_⟩
        have n6_ : Aside0 (gb139 ≠ gb147) := ⟨h6_⟩
        have n7_ : Aside0 (gb147 ≠ gb139) := ⟨h7_⟩
        have n8_ : Aside0 (gb140 ≠ gb147) := ⟨h8_⟩
        have n9_ : Aside0 (gb147 ≠ gb140) := ⟨h9_⟩
        have n10_ : Aside0 (gb141 ≠ gb147) := ⟨h10_⟩
        have n11_ : Aside0 (gb147 ≠ gb141) := ⟨h11_⟩
        have n12_ : Aside0 (Below w.heap.size w w16) := ⟨h12_⟩
        clear BK139; clear BK140; clear BK141; clear HB; clear h0_ h1_ h2_ h3_ h4_ h5_ h6_ h7_ h8_ h9_ h10_ h11_ h12_; have BK139 := n0_; have BK140 := n1_; have BK141 := n2_; have BK147 := n3_; have GW147 := n4_; have GE147 := n5_; have NB139_147 := n6_; have NB147_139 := n7_; have NB140_147 := n8_; have NB147_140 := n9_; have NB141_147 := n10_; have NB147_141 := n11_; have HB := n12_; clear n0_ n1_ n2_ n3_ n4_ n5_ n6_ n7_ n8_ n9_ n10_ n11_ n12_
        have hHeld : w16.cell? ⟨gb139, 0, none⟩ = some (.int .i64 a0_0) ∧ w16.cell? ⟨gb139, 1, none⟩ = some (.int .u64 a0_1) ∧ w16.cell? ⟨gb140, 0, none⟩ = some (.int .i64 a1_0) ∧ w16.cell? ⟨gb140, 1, none⟩ = some (.int .u64 a1_1) := hS_
        refine norm_ (a' := ?_) ?_ ?_
        rotate_left
        ·
         simp only [putAll, Act.put, List.setIfInBounds_toArray, List.set_cons_zero, List.set_cons_succ]
         rfl
        refine two_ (i := 5) (j := 7) (Ni := some 16) (Nj := some 8) (Goto.bs 10 127) (Goto.bs 10 223) rfl rfl rfl rfl (two_of HT_.out (by kernel_rfl)) (by decide) (by decide) (fun K hK => ?_) (fun K hK => ?_)
        ·
         skip
         refine goes_ Try.func22 (by kernel_rfl) rfl #[.agg #[.int .i64 a0_0, .int .u64 a0_1], .agg #[.int .i64 a1_0, .int .u64 a1_1]] (by rfl) rfl rfl (by (try simp only [List.map_toArray, List.map_cons, List.map_nil]); first | done | rfl | (simp only [List.length_drop, List.length_take]; rfl)) ?_
         with_reducible refine (label_Meet.calls a0_0 a0_1 a1_0 a1_1 t145 t146 _ A7.out).mono ?_
         rintro e w17 ⟨rfl, hb⟩
         refine ⟨_, rfl, ?_⟩
         replace BK139 := Goto.bb BK139 hb; replace BK140 := Goto.bb BK140 hb; replace BK141 := Goto.bb BK141 hb; replace BK147 := Goto.bb BK147 hb; replace HB := Goto.hs HB hb
         (try clear hb)
         (try clear hb2)
         (try clear hk)
         (try clear hi)
         refine hK.out _ _ ⟨(blk_cell BK139.out 0).trans rfl, (blk_cell BK139.out 1).trans rfl, (blk_cell BK140.out 0).trans rfl, (blk_cell BK140.out 1).trans rfl⟩ (fun hHeld => ?_)
         clear hK K
         refine norm_ (a' := ?_) ?_ ?_
         rotate_left
         ·
          show Act.put _ (some 16) _ = _
          exact Goto.ap
         exact Goto.nm (hJ2_5_6 (gb147) _ ⟨hHeld, (Goto.bx BK139), (Goto.bx BK140), (Goto.bx BK141), (Goto.bx BK147), GW147.out, GE147.out, NB139_147.out, NB147_139.out, NB140_147.out, NB147_140.out, NB141_147.out, NB147_141.out, (Goto.hx HB)⟩)
        ·
         skip
         refine box_step ?hg (N := 8) ?hd (cs := #[.int .i64 0, .int .u64 0]) (t := 24) ?hr ?_; (case hd => rfl); (case hg => rfl); (case hr => first | (go_simp; done) | (go_simp; rfl))
         intro gb148 hg w17 hbox hb
         have BK148 := Goto.m0 (hbox); have GW148 := Goto.gs HB hg; have GE148 := Goto.gs HB hg; have NB139_148 := Goto.nl BK139 hg; have NB148_139 := Goto.nr BK139 hg; have NB140_148 := Goto.nl BK140 hg; have NB148_140 := Goto.nr BK140 hg; have NB141_148 := Goto.nl BK141 hg; have NB148_141 := Goto.nr BK141 hg; have NB147_148 := Goto.nl BK147 hg; have NB148_147 := Goto.nr BK147 hg; replace BK139 := Goto.bb BK139 hb; replace BK140 := Goto.bb BK140 hb; replace BK141 := Goto.bb BK141 hb; replace BK147 := Goto.bb BK147 hb; replace HB := Goto.hs HB hb; clear hb hbox hg
         refine hK.out _ _ ⟨(blk_cell BK139.out 0).trans rfl, (blk_cell BK139.out 1).trans rfl, (blk_cell BK140.out 0).trans rfl, (blk_cell BK140.out 1).trans rfl⟩ (fun hHeld => ?_)
         clear hK K
         refine norm_ (a' := ?_) ?_ ?_
         rotate_left
         ·
          show Act.put _ (some 8) _ = _
          exact Goto.ap
         exact Goto.nm (hJ2_6_7 (gb147, gb148) _ ⟨hHeld, (Goto.bx BK139), (Goto.bx BK140), (Goto.bx BK141), (Goto.bx BK147), (Goto.bx BK148), GW147.out, GE147.out, NB139_147.out, NB147_139.out, NB140_147.out, NB147_140.out, NB141_147.out, NB147_141.out, NB148_147.out, NB147_148.out, GW148.out, GE148.out, NB139_148.out, NB148_139.out, NB140_148.out, NB148_140.out, NB141_148.out, NB148_141.out, (Goto.hx HB)⟩)
      ·
       skip
       rintro _ w16 ⟨hS_, h0_, h1_, h2_, h3_⟩
       have n0_ : Aside0 (w16.heap[gb139]? = some (.cells #[.int .i64 a0_0, .int .u64 a0_1] 24 (0, 0))) := ⟨h0_⟩
       have n1_ : Aside0 (w16.heap[gb140]? = some (.cells #[.int .i64 a1_0, .int .u64 a1_1] 24 (0, 0))) := ⟨h1_⟩
       have n2_ : Aside0 (w16.heap[gb141]? = some (.cells #[.int .i64 a2_0, .int .u64 a2_1] 24 (0, 0))) := ⟨h2_⟩
       have n3_ : Aside0 (Below w.heap.size w w16) := ⟨h3_⟩
       clear BK139; clear BK140; clear BK141; clear HB; clear h0_ h1_ h2_ h3_; have BK139 := n0_; have BK140 := n1_; have BK141 := n2_; have HB := n3_; clear n0_ n1_ n2_ n3_
       have hHeld : w16.cell? ⟨gb139, 0, none⟩ = some (.int .i64 a0_0) ∧ w16.cell? ⟨gb139, 1, none⟩ = some (.int .u64 a0_1) ∧ w16.cell? ⟨gb140, 0, none⟩ = some (.int .i64 a1_0) ∧ w16.cell? ⟨gb140, 1, none⟩ = some (.int .u64 a1_1) := hS_
       refine norm_ (a' := ?_) ?_ ?_
       rotate_left
       ·
        simp only [putAll, Act.put, List.setIfInBounds_toArray, List.set_cons_zero, List.set_cons_succ]
        rfl
       refine two_ (i := 6) (j := 7) (Ni := some 7) (Nj := some 8) (Goto.bs 10 127) (Goto.bs 10 191) rfl rfl rfl rfl (two_of HT_.out (by kernel_rfl)) (by decide) (by decide) (fun K hK => ?_) (fun K hK => ?_)
       ·
        skip
        refine box_step ?hg (N := 7) ?hd (cs := #[.int .i64 0, .int .u64 0]) (t := 24) ?hr ?_; (case hd => rfl); (case hg => rfl); (case hr => first | (go_simp; done) | (go_simp; rfl))
        intro gb147 hg w17 hbox hb
        have BK147 := Goto.m0 (hbox); have GW147 := Goto.gs HB hg; have GE147 := Goto.gs HB hg; have NB139_147 := Goto.nl BK139 hg; have NB147_139 := Goto.nr BK139 hg; have NB140_147 := Goto.nl BK140 hg; have NB147_140 := Goto.nr BK140 hg; have NB141_147 := Goto.nl BK141 hg; have NB147_141 := Goto.nr BK141 hg; replace BK139 := Goto.bb BK139 hb; replace BK140 := Goto.bb BK140 hb; replace BK141 := Goto.bb BK141 hb; replace HB := Goto.hs HB hb; clear hb hbox hg
        refine hK.out _ _ ⟨(blk_cell BK139.out 0).trans rfl, (blk_cell BK139.out 1).trans rfl, (blk_cell BK140.out 0).trans rfl, (blk_cell BK140.out 1).trans rfl⟩ (fun hHeld => ?_)
        clear hK K
        refine norm_ (a' := ?_) ?_ ?_
        rotate_left
        ·
         show Act.put _ (some 7) _ = _
         exact Goto.ap
        exact Goto.nm (hJ2_5_6 (gb147) _ ⟨hHeld, (Goto.bx BK139), (Goto.bx BK140), (Goto.bx BK141), (Goto.bx BK147), GW147.out, GE147.out, NB139_147.out, NB147_139.out, NB140_147.out, NB147_140.out, NB141_147.out, NB147_141.out, (Goto.hx HB)⟩)
       ·
        skip
        refine box_step ?hg (N := 8) ?hd (cs := #[.int .i64 0, .int .u64 0]) (t := 24) ?hr ?_; (case hd => rfl); (case hg => rfl); (case hr => first | (go_simp; done) | (go_simp; rfl))
        intro gb148 hg w17 hbox hb
        have BK148 := Goto.m0 (hbox); have GW148 := Goto.gs HB hg; have GE148 := Goto.gs HB hg; have NB139_148 := Goto.nl BK139 hg; have NB148_139 := Goto.nr BK139 hg; have NB140_148 := Goto.nl BK140 hg; have NB148_140 := Goto.nr BK140 hg; have NB141_148 := Goto.nl BK141 hg; have NB148_141 := Goto.nr BK141 hg; replace BK139 := Goto.bb BK139 hb; replace BK140 := Goto.bb BK140 hb; replace BK141 := Goto.bb BK141 hb; replace HB := Goto.hs HB hb; clear hb hbox hg
        refine hK.out _ _ ⟨(blk_cell BK139.out 0).trans rfl, (blk_cell BK139.out 1).trans rfl, (blk_cell BK140.out 0).trans rfl, (blk_cell BK140.out 1).trans rfl⟩ (fun hHeld => ?_)
        clear hK K
        refine norm_ (a' := ?_) ?_ ?_
        rotate_left
        ·
         show Act.put _ (some 8) _ = _
         exact Goto.ap
        exact Goto.nm (hJ2_5_7 (gb148) _ ⟨hHeld, (Goto.bx BK139), (Goto.bx BK140), (Goto.bx BK141), (Goto.bx BK148), GW148.out, GE148.out, NB139_148.out, NB148_139.out, NB140_148.out, NB148_140.out, NB141_148.out, NB148_141.out, (Goto.hx HB)⟩)
     ·
      skip
      rintro ⟨gb147, gb148⟩ w17 ⟨hS_, h0_, h1_, h2_, h3_, h4_, h5_, h6_, h7_, h8_, h9_, h10_, h11_, h12_, h13_, h14_, h15_, h16_, h17_, h18_, h19_, h20_, h21_, h22_, h23_⟩
      have n0_ : Aside0 (w17.heap[gb139]? = some (.cells #[.int .i64 a0_0, .int .u64 a0_1] 24 (0, 0))) := ⟨h0_⟩
      have n1_ : Aside0 (w17.heap[gb140]? = some (.cells #[.int .i64 a1_0, .int .u64 a1_1] 24 (0, 0))) := ⟨h1_⟩
      have n2_ : Aside0 (w17.heap[gb141]? = some (.cells #[.int .i64 a2_0, .int .u64 a2_1] 24 (0, 0))) := ⟨h2_⟩
      have n3_ : Aside0 (w17.heap[gb147]? = some (.cells #[.int .i64 0, .int .u64 0] 24 (0, 0))) := ⟨h3_⟩
      have n4_ : Aside0 (w17.heap[gb148]? = some (.cells #[.int .i64 0, .int .u64 0] 24 (0, 0))) := ⟨h4_⟩
      have n5_ : Aside0 (w.heap.size ≤ gb147) := ⟨h5_⟩
      have n6_ : Aside0 (w.heap.size ≤ gb147) := ⟨h6_⟩
      have n7_ : Aside0 (gb139 ≠ gb147) := ⟨h7_⟩
      have n8_ : Aside0 (gb147 ≠ gb139) := ⟨h8_⟩
      have n9_ : Aside0 (gb140 ≠ gb147) := ⟨h9_⟩
      have n10_ : Aside0 (gb147 ≠ gb140) := ⟨h10_⟩
      have n11_ : Aside0 (gb141 ≠ gb147) := ⟨h11_⟩
      have n12_ : Aside0 (gb147 ≠ gb141) := ⟨h12_⟩
      have n13_ : Aside0 (gb148 ≠ gb147) := ⟨h13_⟩
      have n14_ : Aside0 (gb147 ≠ gb148) := ⟨h14_⟩
      have n15_ : Aside0 (w.heap.size ≤ gb148) := ⟨h15_⟩
      have n16_ : Aside0 (w.heap.size ≤ gb148) := ⟨h16_⟩
      have n17_ : Aside0 (gb139 ≠ gb148) := ⟨h17_⟩
      have n18_ : Aside0 (gb148 ≠ gb139) := ⟨h18_⟩
      have n19_ : Aside0 (gb140 ≠ gb148) := ⟨h19_⟩
      have n20_ : Aside0 (gb148 ≠ gb140) := ⟨h20_⟩
      have n21_ : Aside0 (gb141 ≠ gb148) := ⟨h21_⟩
      have n22_ : Aside0 (gb148 ≠ gb141) := ⟨h22_⟩
      have n23_ : Aside0 (Below w.heap.size w w17) := ⟨h23_⟩
      clear BK139; clear BK140; clear BK141; clear HB; clear h0_ h1_ h2_ h3_ h4_ h5_ h6_ h7_ h8_ h9_ h10_ h11_ h12_ h13_ h14_ h15_ h16_ h17_ h18_ h19_ h20_ h21_ h22_ h23_; have BK139 := n0_; have BK140 := n1_; have BK141 := n2_; have BK147 := n3_; have BK148 := n4_; have GW147 := n5_; have GE147 := n6_; have NB139_147 := n7_; have NB147_139 := n8_; have NB140_147 := n9_; have NB147_140 := n10_; have NB141_147 := n11_; have NB147_141 := n12_; have NB148_147 := n13_; have NB147_148 := n14_; have GW148 := n15_; have GE148 := n16_; have NB139_148 := n17_; have NB148_139 := n18_; have NB140_148 := n19_; have NB148_140 := n20_; have NB141_148 := n21_; have NB148_141 := n22_; have HB := n23_; clear n0_ n1_ n2_ n3_ n4_ n5_ n6_ n7_ n8_ n9_ n10_ n11_ n12_ n13_ n14_ n15_ n16_ n17_ n18_ n19_ n20_ n21_ n22_ n23_
      have hHeld : w17.cell? ⟨gb139, 0, none⟩ = some (.int .i64 a0_0) ∧ w17.cell? ⟨gb139, 1, none⟩ = some (.int .u64 a0_1) ∧ w17.cell? ⟨gb140, 0, none⟩ = some (.int .i64 a1_0) ∧ w17.cell? ⟨gb140, 1, none⟩ = some (.int .u64 a1_1) := hS_
      refine norm_ (a' := ?_) ?_ ?_
      rotate_left
      ·
       simp only [putAll, Act.put, List.setIfInBounds_toArray, List.set_cons_zero, List.set_cons_succ]
       rfl
      refine one_ (i := 5) (N := some 16) (Goto.bs 10 255) rfl rfl (one_of HT_.out (by kernel_rfl)) (by decide) (fun K hK => ?_)
      refine goes_ Try.func22 (by kernel_rfl) rfl #[.agg #[.int .i64 a0_0, .int .u64 a0_1], .agg #[.int .i64 a1_0, .int .u64 a1_1]] (by rfl) rfl rfl (by (try simp only [List.map_toArray, List.map_cons, List.map_nil]); first | done | rfl | (simp only [List.length_drop, List.length_take]; rfl)) ?_
      with_reducible refine (label_Meet.calls a0_0 a0_1 a1_0 a1_1 t145 t146 _ A7.out).mono ?_
      rintro e w18 ⟨rfl, hb⟩
      refine ⟨_, rfl, ?_⟩
      replace BK139 := Goto.bb BK139 hb; replace BK140 := Goto.bb BK140 hb; replace BK141 := Goto.bb BK141 hb; replace BK147 := Goto.bb BK147 hb; replace BK148 := Goto.bb BK148 hb; replace HB := Goto.hs HB hb
      (try clear hb)
      (try clear hb2)
      (try clear hk)
      (try clear hi)
      refine hK.out _ _ ⟨(blk_cell BK139.out 0).trans rfl, (blk_cell BK139.out 1).trans rfl, (blk_cell BK140.out 0).trans rfl, (blk_cell BK140.out 1).trans rfl⟩ (fun hHeld => ?_)
      clear hK K
      refine norm_ (a' := ?_) ?_ ?_
      rotate_left
      ·
       show Act.put _ (some 16) _ = _
       exact Goto.ap
      exact Goto.nm (hJ2_5_6_7 (gb147, gb148) _ ⟨hHeld, (Goto.bx BK139), (Goto.bx BK140), (Goto.bx BK141), (Goto.bx BK147), (Goto.bx BK148), GW147.out, GE147.out, NB139_147.out, NB147_139.out, NB140_147.out, NB147_140.out, NB141_147.out, NB147_141.out, NB148_147.out, NB147_148.out, GW148.out, GE148.out, NB139_148.out, NB148_139.out, NB140_148.out, NB148_140.out, NB141_148.out, NB148_141.out, (Goto.hx HB)⟩)
    ·
     skip
     rintro gb148 w17 ⟨hS_, h0_, h1_, h2_, h3_, h4_, h5_, h6_, h7_, h8_, h9_, h10_, h11_, h12_⟩
     have n0_ : Aside0 (w17.heap[gb139]? = some (.cells #[.int .i64 a0_0, .int .u64 a0_1] 24 (0, 0))) := ⟨h0_⟩
     have n1_ : Aside0 (w17.heap[gb140]? = some (.cells #[.int .i64 a1_0, .int .u64 a1_1] 24 (0, 0))) := ⟨h1_⟩
     have n2_ : Aside0 (w17.heap[gb141]? = some (.cells #[.int .i64 a2_0, .int .u64 a2_1] 24 (0, 0))) := ⟨h2_⟩
     have n3_ : Aside0 (w17.heap[gb148]? = some (.cells #[.int .i64 0, .int .u64 0] 24 (0, 0))) := ⟨h3_⟩
     have n4_ : Aside0 (w.heap.size ≤ gb148) := ⟨h4_⟩
     have n5_ : Aside0 (w.heap.size ≤ gb148) := ⟨h5_⟩
     have n6_ : Aside0 (gb139 ≠ gb148) := ⟨h6_⟩
     have n7_ : Aside0 (gb148 ≠ gb139) := ⟨h7_⟩
     have n8_ : Aside0 (gb140 ≠ gb148) := ⟨h8_⟩
     have n9_ : Aside0 (gb148 ≠ gb140) := ⟨h9_⟩
     have n10_ : Aside0 (gb141 ≠ gb148) := ⟨h10_⟩
     have n11_ : Aside0 (gb148 ≠ gb141) := ⟨h11_⟩
     have n12_ : Aside0 (Below w.heap.size w w17) := ⟨h12_⟩
     clear BK139; clear BK140; clear BK141; clear HB; clear h0_ h1_ h2_ h3_ h4_ h5_ h6_ h7_ h8_ h9_ h10_ h11_ h12_; have BK139 := n0_; have BK140 := n1_; have BK141 := n2_; have BK148 := n3_; have GW148 := n4_; have GE148 := n5_; have NB139_148 := n6_; have NB148_139 := n7_; have NB140_148 := n8_; have NB148_140 := n9_; have NB141_148 := n10_; have NB148_141 := n11_; have HB := n12_; clear n0_ n1_ n2_ n3_ n4_ n5_ n6_ n7_ n8_ n9_ n10_ n11_ n12_
     have hHeld : w17.cell? ⟨gb139, 0, none⟩ = some (.int .i64 a0_0) ∧ w17.cell? ⟨gb139, 1, none⟩ = some (.int .u64 a0_1) ∧ w17.cell? ⟨gb140, 0, none⟩ = some (.int .i64 a1_0) ∧ w17.cell? ⟨gb140, 1, none⟩ = some (.int .u64 a1_1) := hS_
     refine norm_ (a' := ?_) ?_ ?_
     rotate_left
     ·
      simp only [putAll, Act.put, List.setIfInBounds_toArray, List.set_cons_zero, List.set_cons_succ]
      rfl
     refine one_ (i := 6) (N := some 7) (Goto.bs 10 255) rfl rfl (one_of HT_.out (by kernel_rfl)) (by decide) (fun K hK => ?_)
     refine box_step ?hg (N := 7) ?hd (cs := #[.int .i64 0, .int .u64 0]) (t := 24) ?hr ?_; (case hd => rfl); (case hg => rfl); (case hr => first | (go_simp; done) | (go_simp; rfl))
     intro gb147 hg w18 hbox hb
     have BK147 := Goto.m0 (hbox); have GW147 := Goto.gs HB hg; have GE147 := Goto.gs HB hg; have NB139_147 := Goto.nl BK139 hg; have NB147_139 := Goto.nr BK139 hg; have NB140_147 := Goto.nl BK140 hg; have NB147_140 := Goto.nr BK140 hg; have NB141_147 := Goto.nl BK141 hg; have NB147_141 := Goto.nr BK141 hg; have NB148_147 := Goto.nl BK148 hg; have NB147_148 := Goto.nr BK148 hg; replace BK139 := Goto.bb BK139 hb; replace BK140 := Goto.bb BK140 hb; replace BK141 := Goto.bb BK141 hb; replace BK148 := Goto.bb BK148 hb; replace HB := Goto.hs HB hb; clear hb hbox hg
     refine hK.out _ _ ⟨(blk_cell BK139.out 0).trans rfl, (blk_cell BK139.out 1).trans rfl, (blk_cell BK140.out 0).trans rfl, (blk_cell BK140.out 1).trans rfl⟩ (fun hHeld => ?_)
     clear hK K
     refine norm_ (a' := ?_) ?_ ?_
     rotate_left
     ·
      show Act.put _ (some 7) _ = _
      exact Goto.ap
     exact Goto.nm (hJ2_5_6_7 (gb147, gb148) _ ⟨hHeld, (Goto.bx BK139), (Goto.bx BK140), (Goto.bx BK141), (Goto.bx BK147), (Goto.bx BK148), GW147.out, GE147.out, NB139_147.out, NB147_139.out, NB140_147.out, NB147_140.out, NB141_147.out, NB147_141.out, NB148_147.out, NB147_148.out, GW148.out, GE148.out, NB139_148.out, NB148_139.out, NB140_148.out, NB148_140.out, NB141_148.out, NB148_141.out, (Goto.hx HB)⟩)
   ·
    skip
    rintro gb147 w17 ⟨hS_, h0_, h1_, h2_, h3_, h4_, h5_, h6_, h7_, h8_, h9_, h10_, h11_, h12_⟩
    have n0_ : Aside0 (w17.heap[gb139]? = some (.cells #[.int .i64 a0_0, .int .u64 a0_1] 24 (0, 0))) := ⟨h0_⟩
    have n1_ : Aside0 (w17.heap[gb140]? = some (.cells #[.int .i64 a1_0, .int .u64 a1_1] 24 (0, 0))) := ⟨h1_⟩
    have n2_ : Aside0 (w17.heap[gb141]? = some (.cells #[.int .i64 a2_0, .int .u64 a2_1] 24 (0, 0))) := ⟨h2_⟩
    have n3_ : Aside0 (w17.heap[gb147]? = some (.cells #[.int .i64 0, .int .u64 0] 24 (0, 0))) := ⟨h3_⟩
    have n4_ : Aside0 (w.heap.size ≤ gb147) := ⟨h4_⟩
    have n5_ : Aside0 (w.heap.size ≤ gb147) := ⟨h5_⟩
    have n6_ : Aside0 (gb139 ≠ gb147) := ⟨h6_⟩
    have n7_ : Aside0 (gb147 ≠ gb139) := ⟨h7_⟩
    have n8_ : Aside0 (gb140 ≠ gb147) := ⟨h8_⟩
    have n9_ : Aside0 (gb147 ≠ gb140) := ⟨h9_⟩
    have n10_ : Aside0 (gb141 ≠ gb147) := ⟨h10_⟩
    have n11_ : Aside0 (gb147 ≠ gb141) := ⟨h11_⟩
    have n12_ : Aside0 (Below w.heap.size w w17) := ⟨h12_⟩
    clear BK139; clear BK140; clear BK141; clear HB; clear h0_ h1_ h2_ h3_ h4_ h5_ h6_ h7_ h8_ h9_ h10_ h11_ h12_; have BK139 := n0_; have BK140 := n1_; have BK141 := n2_; have BK147 := n3_; have GW147 := n4_; have GE147 := n5_; have NB139_147 := n6_; have NB147_139 := n7_; have NB140_147 := n8_; have NB147_140 := n9_; have NB141_147 := n10_; have NB147_141 := n11_; have HB := n12_; clear n0_ n1_ n2_ n3_ n4_ n5_ n6_ n7_ n8_ n9_ n10_ n11_ n12_
    have hHeld : w17.cell? ⟨gb139, 0, none⟩ = some (.int .i64 a0_0) ∧ w17.cell? ⟨gb139, 1, none⟩ = some (.int .u64 a0_1) ∧ w17.cell? ⟨gb140, 0, none⟩ = some (.int .i64 a1_0) ∧ w17.cell? ⟨gb140, 1, none⟩ = some (.int .u64 a1_1) := hS_
    refine norm_ (a' := ?_) ?_ ?_
    rotate_left
    ·
     simp only [putAll, Act.put, List.setIfInBounds_toArray, List.set_cons_zero, List.set_cons_succ]
     rfl
    refine one_ (i := 7) (N := some 8) (Goto.bs 10 255) rfl rfl (one_of HT_.out (by kernel_rfl)) (by decide) (fun K hK => ?_)
    refine box_step ?hg (N := 8) ?hd (cs := #[.int .i64 0, .int .u64 0]) (t := 24) ?hr ?_; (case hd => rfl); (case hg => rfl); (case hr => first | (go_simp; done) | (go_simp; rfl))
    intro gb148 hg w18 hbox hb
    have BK148 := Goto.m0 (hbox); have GW148 := Goto.gs HB hg; have GE148 := Goto.gs HB hg; have NB139_148 := Goto.nl BK139 hg; have NB148_139 := Goto.nr BK139 hg; have NB140_148 := Goto.nl BK140 hg; have NB148_140 := Goto.nr BK140 hg; have NB141_148 := Goto.nl BK141 hg; have NB148_141 := Goto.nr BK141 hg; have NB147_148 := Goto.nl BK147 hg; have NB148_147 := Goto.nr BK147 hg; replace BK139 := Goto.bb BK139 hb; replace BK140 := Goto.bb BK140 hb; replace BK141 := Goto.bb BK141 hb; replace BK147 := Goto.bb BK147 hb; replace HB := Goto.hs HB hb; clear hb hbox hg
    refine hK.out _ _ ⟨(blk_cell BK139.out 0).trans rfl, (blk_cell BK139.out 1).trans rfl, (blk_cell BK140.out 0).trans rfl, (blk_cell BK140.out 1).trans rfl⟩ (fun hHeld => ?_)
    clear hK K
    refine norm_ (a' := ?_) ?_ ?_
    rotate_left
    ·
     show Act.put _ (some 8) _ = _
     exact Goto.ap
    exact Goto.nm (hJ2_5_6_7 (gb147, gb148) _ ⟨hHeld, (Goto.bx BK139), (Goto.bx BK140), (Goto.bx BK141), (Goto.bx BK147), (Goto.bx BK148), GW147.out, GE147.out, NB139_147.out, NB147_139.out, NB140_147.out, NB147_140.out, NB141_147.out, NB147_141.out, NB148_147.out, NB147_148.out, GW148.out, GE148.out, NB139_148.out, NB148_139.out, NB140_148.out, NB148_140.out, NB141_148.out, NB148_141.out, (Goto.hx HB)⟩)
  rintro ⟨gb147, gb148⟩ w18 ⟨hS_, h0_, h1_, h2_, h3_, h4_, h5_, h6_, h7_, h8_, h9_, h10_, h11_, h12_, h13_, h14_, h15_, h16_, h17_, h18_, h19_, h20_, h21_, h22_, h23_⟩
  have n0_ : Aside0 (w18.heap[gb139]? = some (.cells #[.int .i64 a0_0, .int .u64 a0_1] 24 (0, 0))) := ⟨h0_⟩
  have n1_ : Aside0 (w18.heap[gb140]? = some (.cells #[.int .i64 a1_0, .int .u64 a1_1] 24 (0, 0))) := ⟨h1_⟩
  have n2_ : Aside0 (w18.heap[gb141]? = some (.cells #[.int .i64 a2_0, .int .u64 a2_1] 24 (0, 0))) := ⟨h2_⟩
  have n3_ : Aside0 (w18.heap[gb147]? = some (.cells #[.int .i64 0, .int .u64 0] 24 (0, 0))) := ⟨h3_⟩
  have n4_ : Aside0 (w18.heap[gb148]? = some (.cells #[.int .i64 0, .int .u64 0] 24 (0, 0))) := ⟨h4_⟩
  have n5_ : Aside0 (w.heap.size ≤ gb147) := ⟨h5_⟩
  have n6_ : Aside0 (w.heap.size ≤ gb147) := ⟨h6_⟩
  have n7_ : Aside0 (gb139 ≠ gb147) := ⟨h7_⟩
  have n8_ : Aside0 (gb147 ≠ gb139) := ⟨h8_⟩
  have n9_ : Aside0 (gb140 ≠ gb147) := ⟨h9_⟩
  have n10_ : Aside0 (gb147 ≠ gb140) := ⟨h10_⟩
  have n11_ : Aside0 (gb141 ≠ gb147) := ⟨h11_⟩
  have n12_ : Aside0 (gb147 ≠ gb141) := ⟨h12_⟩
  have n13_ : Aside0 (gb148 ≠ gb147) := ⟨h13_⟩
  have n14_ : Aside0 (gb147 ≠ gb148) := ⟨h14_⟩
  have n15_ : Aside0 (w.heap.size ≤ gb148) := ⟨h15_⟩
  have n16_ : Aside0 (w.heap.size ≤ gb148) := ⟨h16_⟩
  have n17_ : Aside0 (gb139 ≠ gb148) := ⟨h17_⟩
  have n18_ : Aside0 (gb148 ≠ gb139) := ⟨h18_⟩
  have n19_ : Aside0 (gb140 ≠ gb148) := ⟨h19_⟩
  have n20_ : Aside0 (gb148 ≠ gb140) := ⟨h20_⟩
  have n21_ : Aside0 (gb141 ≠ gb148) := ⟨h21_⟩
  have n22_ : Aside0 (gb148 ≠ gb141) := ⟨h22_⟩
  have n23_ : Aside0 (Below w.heap.size w w18) := ⟨h23_⟩
  clear BK139; clear BK140; clear BK141; clear HB; clear h0_ h1_ h2_ h3_ h4_ h5_ h6_ h7_ h8_ h9_ h10_ h11_ h12_ h13_ h14_ h15_ h16_ h17_ h18_ h19_ h20_ h21_ h22_ h23_; have BK139 := n0_; have BK140 := n1_; have BK141 := n2_; have BK147 := n3_; have BK148 := n4_; have GW147 := n5_; have GE147 := n6_; have NB139_147 := n7_; have NB147_139 := n8_; have NB140_147 := n9_; have NB147_140 := n10_; have NB141_147 := n11_; have NB147_141 := n12_; have NB148_147 := n13_; have NB147_148 := n14_; have GW148 := n15_; have GE148 := n16_; have NB139_148 := n17_; have NB148_139 := n18_; have NB140_148 := n19_; have NB148_140 := n20_; have NB141_148 := n21_; have NB148_141 := n22_; have HB := n23_; clear n0_ n1_ n2_ n3_ n4_ n5_ n6_ n7_ n8_ n9_ n10_ n11_ n12_ n13_ n14_ n15_ n16_ n17_ n18_ n19_ n20_ n21_ n22_ n23_
  have hHeld : w18.cell? ⟨gb139, 0, none⟩ = some (.int .i64 a0_0) ∧ w18.cell? ⟨gb139, 1, none⟩ = some (.int .u64 a0_1) ∧ w18.cell? ⟨gb140, 0, none⟩ = some (.int .i64 a1_0) ∧ w18.cell? ⟨gb140, 1, none⟩ = some (.int .u64 a1_1) := hS_
  refine norm_ (a' := ?_) ?_ ?_
  rotate_left
  ·
   simp only [putAll, Act.put, List.setIfInBounds_toArray, List.set_cons_zero, List.set_cons_succ]
   rfl
  refine one_ (i := 8) (N := none) (Goto.bs 10 511) rfl rfl (one_of HT_.out (by kernel_rfl)) (by decide) (fun K hK => ?_)
  have hs19 : w18.cell? ⟨gb147, 0, none⟩ = some (.int .i64 0) := (blk_cell BK147.out 0).trans rfl; have hfs19 := blk_frozen BK147.out 0; have hns19_0 := NB139_147.out; have hns19_1 := NB140_147.out; have hns19_2 := NB141_147.out; have hns19_4 := NB148_147.out; have hms19_0 := NB147_139.out; have hms19_1 := NB147_140.out; have hms19_2 := NB147_141.out; have hms19_4 := NB147_148.out; have hs20 : w18.cell? ⟨gb147, 1, none⟩ = some (.int .u64 0) := (blk_cell BK147.out 1).trans rfl; have hfs20 := blk_frozen BK147.out 1; have hns20_0 := NB139_147.out; have hns20_1 := NB140_147.out; have hns20_2 := NB141_147.out; have hns20_4 := NB148_147.out; have hms20_0 := NB147_139.out; have hms20_1 := NB147_140.out; have hms20_2 := NB147_141.out; have hms20_4 := NB147_148.out
  refine skip_ (w1 := ?_) (by rfl) rfl ?_ ?_
  rotate_left
  ·
   go_simp
   rfl
  refine hK.out _ _ ⟨(Goto.cf2 NB139_147.out (hHeld.1)), (Goto.cf2 NB139_147.out (hHeld.2.1)), (Goto.cf2 NB140_147.out (hHeld.2.2.1)), (Goto.cf2 NB140_147.out (hHeld.2.2.2))⟩ (fun hHeld => ?_)
  clear hK K
  refine one_ (i := 9) (N := none) (Goto.bs 10 1023) rfl rfl (one_of HT_.out (by kernel_rfl)) (by decide) (fun K hK => ?_)
  have hs21 : w18.cell? ⟨gb148, 0, none⟩ = some (.int .i64 0) := (blk_cell BK148.out 0).trans rfl; have hfs21 := blk_frozen BK148.out 0; have hns21_0 := NB139_148.out; have hns21_1 := NB140_148.out; have hns21_2 := NB141_148.out; have hns21_3 := NB147_148.out; have hms21_0 := NB148_139.out; have hms21_1 := NB148_140.out; have hms21_2 := NB148_141.out; have hms21_3 := NB148_147.out; have hs22 : w18.cell? ⟨gb148, 1, none⟩ = some (.int .u64 0) := (blk_cell BK148.out 1).trans rfl; have hfs22 := blk_frozen BK148.out 1; have hns22_0 := NB139_148.out; have hns22_1 := NB140_148.out; have hns22_2 := NB141_148.out; have hns22_3 := NB147_148.out; have hms22_0 := NB148_139.out; have hms22_1 := NB148_140.out; have hms22_2 := NB148_141.out; have hms22_3 := NB148_147.out
  refine skip_ (w1 := ?_) (by rfl) rfl ?_ ?_
  rotate_left
  ·
   go_simp
   rfl
  refine hK.out _ _ ⟨(Goto.cf2 NB139_148.out (hHeld.1)), (Goto.cf2 NB139_148.out (hHeld.2.1)), (Goto.cf2 NB140_148.out (hHeld.2.2.1)), (Goto.cf2 NB140_148.out (hHeld.2.2.2))⟩ (fun hHeld => ?_)
  clear hK K
  refine done_ (done_of HT_.out (by kernel_rfl)) ?_
  go_upto_region 4 with (fail)
  go_cut [38] (fun v38 wc => ∃ (kq : Nat) (x38_7 : Bool), v38 = .bool x38_7 ∧ Aside0 (tontinelaw1_LabelBounds.j0 kq x38_7 a0_0 a0_1 a1_0 a1_1 a2_0 a2_1 t143 t144 t145 t146 = some r) ∧ Aside0 (kq ≤ k) ∧ Aside0 (wc.heap[gb139]? = some (.cells #[.int .i64 a0_0, .int .u64 a0_1] 24 (0, 0))) ∧ Aside0 (wc.heap[gb140]? = some (.cells #[.int .i64 a1_0, .int .u64 a1_1] 24 (0, 0))) ∧ Aside0 (wc.heap[gb141]? = some (.cells #[.int .i64 a2_0, .int .u64 a2_1] 24 (0, 0))) ∧ Aside0 (wc.heap[gb147]? = some (.cells #[.int .i64 t143, .int .u64 t144] 24 (0, 0))) ∧ Aside0 (wc.heap[gb148]? = some (.cells #[.int .i64 t145, .int .u64 t146] 24 (0, 0))) ∧ Aside0 (Below w.heap.size w wc))
  case first =>
   have H := HC8.out; clear HC8
   replace H := Option.bind_eq_some_iff.mp H
   obtain ⟨t149, A230, H⟩ := H
   have A23 := Goto.m0 A230
   clear A230
   by_cases c24 : t149 = true
   ·
    subst c24
    rw [if_pos rfl] at H
    replace H := Option.bind_eq_some_iff.mp H
    obtain ⟨t150, A250, H⟩ := H
    have A25 := Goto.m0 A250
    clear A250
    by_cases c26 : t150 = true
    ·
     subst c26
     rw [if_pos rfl] at H
     replace H := Option.bind_eq_some_iff.mp H
     obtain ⟨t151, A270, H⟩ := H
     have A27 := Goto.m0 A270
     clear A270
     by_cases c28 : t151 = true
     ·
      subst c28
      rw [if_pos rfl] at H
      replace H := Option.bind_eq_some_iff.mp H
      obtain ⟨t152, A290, H⟩ := H
      have A29 := Goto.m0 A290
      clear A290
      have H' := Goto.m0 H
      clear H; have hnb30 := NB139_140.out; have hnc30 := NB140_139.out; have hnb31 := NB139_141.out; have hnc31 := NB141_139.out; have hnb32 := NB139_147.out; have hnc32 := NB147_139.out; have hnb33 := NB139_148.out; have hnc33 := NB148_139.out; have hcz34_0 : w18.cell? ⟨gb139, 0, none⟩ = some (.int .i64 a0_0) := (blk_cell BK139.out 0).trans rfl; have hcz34_1 : w18.cell? ⟨gb139, 1, none⟩ = some (.int .u64 a0_1) := (blk_cell BK139.out 1).trans rfl; have hfz34_0 := blk_frozen BK139.out 0; have hfz34_1 := blk_frozen BK139.out 1; have hnb35 := NB147_140.out; have hnc35 := NB140_147.out; have hnb36 := NB147_141.out; have hnc36 := NB141_147.out; have hnb37 := NB147_148.out; have hnc37 := NB148_147.out; have hcz38_0 : w18.cell? ⟨gb147, 0, none⟩ = some (.int .i64 0) := (blk_cell BK147.out 0).trans rfl; have hcz38_1 : w18.cell? ⟨gb147, 1, none⟩ = some (.int .u64 0) := (blk_cell BK147.out 1).trans rfl; have hfz38_0 := blk_frozen BK147.out 0; have hfz38_1 := blk_frozen BK147.out 1
      go_wp2_with (first | ((with_reducible refine gate_callee (f := 18) rfl ?_); refine goesL_ (some 19) rfl rfl Try.func18 (by kernel_rfl) rfl #[.agg #[.int .i64 a0_0, .int .u64 a0_1], .agg #[.int .i64 t143, .int .u64 t144]] rfl (by (try simp only [List.map_toArray, List.map_cons, List.map_nil]); first | done | rfl | (simp only [List.length_drop, List.length_take]; rfl)) ?_; (with_reducible refine (label_Leq.calls a0_0 a0_1 t143 t144 true _ A23.out).mono ?_); rintro e w39 ⟨rfl, hb⟩; refine ⟨_, rfl, ?_⟩; replace BK139 := Goto.bb BK139 hb; replace BK140 := Goto.bb BK140 hb; replace BK141 := Goto.bb BK141 hb; replace BK147 := Goto.bp (.cells #[.int .i64 t143, .int .u64 t144] 24 (0, 0)) BK147 hb; replace BK148 := Goto.bp (.cells #[.int .i64 t145, .int .u64 t146] 24 (0, 0)) BK148 hb; replace HB := Goto.hs HB hb; (try clear hb); (try clear hb2); (try clear hk); (try clear hi); have hnb40 := NB140_141.out; have hnc40 := NB141_140.out; have hnb41 := NB140_148.out; have hnc41 := NB148_140.out; have hcz42_0 : w39.cell? ⟨gb140, 0, none⟩ = some (.int .i64 a1_0) := (blk_cell BK140.out 0).trans rfl; have hcz42_1 : w39.cell? ⟨gb140, 1, none⟩ = some (.int .u64 a1_1) := (blk_cell BK140.out 1).trans rfl; have hfz42_0 := blk_frozen BK140.out 0; have hfz42_1 := blk_frozen BK140.out 1; have hcz43_0 : w39.cell? ⟨gb147, 0, none⟩ = some (.int .i64 t143) := (blk_cell BK147.out 0).trans rfl; have hcz43_1 : w39.cell? ⟨gb147, 1, none⟩ = some (.int .u64 t144) := (blk_cell BK147.out 1).trans rfl; have hfz43_0 := blk_frozen BK147.out 0; have hfz43_1 := blk_frozen BK147.out 1) | (go_at_call 18; (with_reducible refine (label_Leq.calls a1_0 a1_1 t143 t144 true _ A25.out).mono ?_); rintro e w44 ⟨rfl, hb⟩; replace BK139 := Goto.bb BK139 hb; replace BK140 := Goto.bb BK140 hb; replace BK141 := Goto.bb BK141 hb; replace BK147 := Goto.bb BK147 hb; replace BK148 := Goto.bb BK148 hb; replace HB := Goto.hs HB hb; (try clear hb); (try clear hb2); (try clear hk); (try clear hi); have hnb45 := NB148_141.out; have hnc45 := NB141_148.out; have hcz46_0 : w44.cell? ⟨gb148, 0, none⟩ = some (.int .i64 t145) := (blk_cell BK148.out 0).trans rfl; have hcz46_1 : w44.cell? ⟨gb148, 1, none⟩ = some (.int .u64 t146) := (blk_cell BK148.out 1).trans rfl; have hfz46_0 := blk_frozen BK148.out 0; have hfz46_1 := blk_frozen BK148.out 1; have hcz47_0 : w44.cell? ⟨gb139, 0, none⟩ = some (.int .i64 a0_0) := (blk_cell BK139.out 0).trans rfl; have hcz47_1 : w44.cell? ⟨gb139, 1, none⟩ = some (.int .u64 a0_1) := (blk_cell BK139.out 1).trans rfl; have hfz47_0 := blk_frozen BK139.out 0; have hfz47_1 := blk_frozen BK139.out 1) | (go_at_call 18; (with_reducible refine (label_Leq.calls t145 t146 a0_0 a0_1 true _ A27.out).mono ?_); rintro e w48 ⟨rfl, hb⟩; replace BK139 := Goto.bb BK139 hb; replace BK140 := Goto.bb BK140 hb; replace BK141 := Goto.bb BK141 hb; replace BK147 := Goto.bb BK147 hb; replace BK148 := Goto.bb BK148 hb; replace HB := Goto.hs HB hb; (try clear hb); (try clear hb2); (try clear hk); (try clear hi); have hcz49_0 : w48.cell? ⟨gb148, 0, none⟩ = some (.int .i64 t145) := (blk_cell BK148.out 0).trans rfl; have hcz49_1 : w48.cell? ⟨gb148, 1, none⟩ = some (.int .u64 t146) := (blk_cell BK148.out 1).trans rfl; have hfz49_0 := blk_frozen BK148.out 0; have hfz49_1 := blk_frozen BK148.out 1; have hcz50_0 : w48.cell? ⟨gb140, 0, none⟩ = some (.int .i64 a1_0) := (blk_cell BK140.out 0).trans rfl; have hcz50_1 : w48.cell? ⟨gb140, 1, none⟩ = some (.int .u64 a1_1) := (blk_cell BK140.out 1).trans rfl; have hfz50_0 := blk_frozen BK140.out 0; have hfz50_1 := blk_frozen BK140.out 1) | (go_at_call 18; (with_reducible refine (label_Leq.calls t145 t146 a1_0 a1_1 t152 _ A29.out).mono ?_); rintro e w51 ⟨rfl, hb⟩; replace BK139 := Goto.bb BK139 hb; replace BK140 := Goto.bb BK140 hb; replace BK141 := Goto.bb BK141 hb; replace BK147 := Goto.bb BK147 hb; replace BK148 := Goto.bb BK148 hb; replace HB := Goto.hs HB hb; (try clear hb); (try clear hb2); (try clear hk); (try clear hi)))
      go_meet
      case rel => exact ⟨_, (!t152), (by first | rfl | (simp; done) | (simp [*]; done)), H', ⟨by first | omega | exact Nat.le_refl _⟩, ⟨Goto.bx BK139⟩, ⟨Goto.bx BK140⟩, ⟨Goto.bx BK141⟩, ⟨Goto.bx BK147⟩, ⟨Goto.bx BK148⟩, ⟨Goto.hx HB⟩⟩
     ·
      replace c28 := Bool.eq_false_iff.mpr c28
      subst c28
      rw [if_neg (show ¬ (false = true) by decide)] at H
      have H' := Goto.m0 H
      clear H; have hnb52 := NB139_140.out; have hnc52 := NB140_139.out; have hnb53 := NB139_141.out; have hnc53 := NB141_139.out; have hnb54 := NB139_147.out; have hnc54 := NB147_139.out; have hnb55 := NB139_148.out; have hnc55 := NB148_139.out; have hcz56_0 : w18.cell? ⟨gb139, 0, none⟩ = some (.int .i64 a0_0) := (blk_cell BK139.out 0).trans rfl; have hcz56_1 : w18.cell? ⟨gb139, 1, none⟩ = some (.int .u64 a0_1) := (blk_cell BK139.out 1).trans rfl; have hfz56_0 := blk_frozen BK139.out 0; have hfz56_1 := blk_frozen BK139.out 1; have hnb57 := NB147_140.out; have hnc57 := NB140_147.out; have hnb58 := NB147_141.out; have hnc58 := NB141_147.out; have hnb59 := NB147_148.out; have hnc59 := NB148_147.out; have hcz60_0 : w18.cell? ⟨gb147, 0, none⟩ = some (.int .i64 0) := (blk_cell BK147.out 0).trans rfl; have hcz60_1 : w18.cell? ⟨gb147, 1, none⟩ = some (.int .u64 0) := (blk_cell BK147.out 1).trans rfl; have hfz60_0 := blk_frozen BK147.out 0; have hfz60_1 := blk_frozen BK147.out 1
      go_wp2_with (first | ((with_reducible refine gate_callee (f := 18) rfl ?_); refine goesL_ (some 19) rfl rfl Try.func18 (by kernel_rfl) rfl #[.agg #[.int .i64 a0_0, .int .u64 a0_1], .agg #[.int .i64 t143, .int .u64 t144]] rfl (by (try simp only [List.map_toArray, List.map_cons, List.map_nil]); first | done | rfl | (simp only [List.length_drop, List.length_take]; rfl)) ?_; (with_reducible refine (label_Leq.calls a0_0 a0_1 t143 t144 true _ A23.out).mono ?_); rintro e w61 ⟨rfl, hb⟩; refine ⟨_, rfl, ?_⟩; replace BK139 := Goto.bb BK139 hb; replace BK140 := Goto.bb BK140 hb; replace BK141 := Goto.bb BK141 hb; replace BK147 := Goto.bp (.cells #[.int .i64 t143, .int .u64 t144] 24 (0, 0)) BK147 hb; replace BK148 := Goto.bp (.cells #[.int .i64 t145, .int .u64 t146] 24 (0, 0)) BK148 hb; replace HB := Goto.hs HB hb; (try clear hb); (try clear hb2); (try clear hk); (try clear hi); have hnb62 := NB140_141.out; have hnc62 := NB141_140.out; have hnb63 := NB140_148.out; have hnc63 := NB148_140.out; have hcz64_0 : w61.cell? ⟨gb140, 0, none⟩ = some (.int .i64 a1_0) := (blk_cell BK140.out 0).trans rfl; have hcz64_1 : w61.cell? ⟨gb140, 1, none⟩ = some (.int .u64 a1_1) := (blk_cell BK140.out 1).trans rfl; have hfz64_0 := blk_frozen BK140.out 0; have hfz64_1 := blk_frozen BK140.out 1; have hcz65_0 : w61.cell? ⟨gb147, 0, none⟩ = some (.int .i64 t143) := (blk_cell BK147.out 0).trans rfl; have hcz65_1 : w61.cell? ⟨gb147, 1, none⟩ = some (.int .u64 t144) := (blk_cell BK147.out 1).trans rfl; have hfz65_0 := blk_frozen BK147.out 0; have hfz65_1 := blk_frozen BK147.out 1) | (go_at_call 18; (with_reducible refine (label_Leq.calls a1_0 a1_1 t143 t144 true _ A25.out).mono ?_); rintro e w66 ⟨rfl, hb⟩; replace BK139 := Goto.bb BK139 hb; replace BK140 := Goto.bb BK140 hb; replace BK141 := Goto.bb BK141 hb; replace BK147 := Goto.bb BK147 hb; replace BK148 := Goto.bb BK148 hb; replace HB := Goto.hs HB hb; (try clear hb); (try clear hb2); (try clear hk); (try clear hi); have hnb67 := NB148_141.out; have hnc67 := NB141_148.out; have hcz68_0 : w66.cell? ⟨gb148, 0, none⟩ = some (.int .i64 t145) := (blk_cell BK148.out 0).trans rfl; have hcz68_1 : w66.cell? ⟨gb148, 1, none⟩ = some (.int .u64 t146) := (blk_cell BK148.out 1).trans rfl; have hfz68_0 := blk_frozen BK148.out 0; have hfz68_1 := blk_frozen BK148.out 1; have hcz69_0 : w66.cell? ⟨gb139, 0, none⟩ = some (.int .i64 a0_0) := (blk_cell BK139.out 0).trans rfl; have hcz69_1 : w66.cell? ⟨gb139, 1, none⟩ = some (.int .u64 a0_1) := (blk_cell BK139.out 1).trans rfl; have hfz69_0 := blk_frozen BK139.out 0; have hfz69_1 := blk_frozen BK139.out 1) | (go_at_call 18; (with_reducible refine (label_Leq.calls t145 t146 a0_0 a0_1 false _ A27.out).mono ?_); rintro e w70 ⟨rfl, hb⟩; replace BK139 := Goto.bb BK139 hb; replace BK140 := Goto.bb BK140 hb; replace BK141 := Goto.bb BK141 hb; replace BK147 := Goto.bb BK147 hb; replace BK148 := Goto.bb BK148 hb; replace HB := Goto.hs HB hb; (try clear hb); (try clear hb2); (try clear hk); (try clear hi)))
      go_meet
      case rel => exact ⟨_, (true), (by first | rfl | (simp; done) | (simp [*]; done)), H', ⟨by first | omega | exact Nat.le_refl _⟩, ⟨Goto.bx BK139⟩, ⟨Goto.bx BK140⟩, ⟨Goto.bx BK141⟩, ⟨Goto.bx BK147⟩, ⟨Goto.bx BK148⟩, ⟨Goto.hx HB⟩⟩
    ·
     replace c26 := Bool.eq_false_iff.mpr c26
     subst c26
     rw [if_neg (show ¬ (false = true) by decide)] at H
     have H' := Goto.m0 H
     clear H; have hnb71 := NB139_140.out; have hnc71 := NB140_139.out; have hnb72 := NB139_141.out; have hnc72 := NB141_139.out; have hnb73 := NB139_147.out; have hnc73 := NB147_139.out; have hnb74 := NB139_148.out; have hnc74 := NB148_139.out; have hcz75_0 : w18.cell? ⟨gb139, 0, none⟩ = some (.int .i64 a0_0) := (blk_cell BK139.out 0).trans rfl; have hcz75_1 : w18.cell? ⟨gb139, 1, none⟩ = some (.int .u64 a0_1) := (blk_cell BK139.out 1).trans rfl; have hfz75_0 := blk_frozen BK139.out 0; have hfz75_1 := blk_frozen BK139.out 1; have hnb76 := NB147_140.out; have hnc76 := NB140_147.out; have hnb77 := NB147_141.out; have hnc77 := NB141_147.out; have hnb78 := NB147_148.out; have hnc78 := NB148_147.out; have hcz79_0 : w18.cell? ⟨gb147, 0, none⟩ = some (.int .i64 0) := (blk_cell BK147.out 0).trans rfl; have hcz79_1 : w18.cell? ⟨gb147, 1, none⟩ = some (.int .u64 0) := (blk_cell BK147.out 1).trans rfl; have hfz79_0 := blk_frozen BK147.out 0; have hfz79_1 := blk_frozen BK147.out 1
     go_wp2_with (first | ((with_reducible refine gate_callee (f := 18) rfl ?_); refine goesL_ (some 19) rfl rfl Try.func18 (by kernel_rfl) rfl #[.agg #[.int .i64 a0_0, .int .u64 a0_1], .agg #[.int .i64 t143, .int .u64 t144]] rfl (by (try simp only [List.map_toArray, List.map_cons, List.map_nil]); first | done | rfl | (simp only [List.length_drop, List.length_take]; rfl)) ?_; (with_reducible refine (label_Leq.calls a0_0 a0_1 t143 t144 true _ A23.out).mono ?_); rintro e w80 ⟨rfl, hb⟩; refine ⟨_, rfl, ?_⟩; replace BK139 := Goto.bb BK139 hb; replace BK140 := Goto.bb BK140 hb; replace BK141 := Goto.bb BK141 hb; replace BK147 := Goto.bp (.cells #[.int .i64 t143, .int .u64 t144] 24 (0, 0)) BK147 hb; replace BK148 := Goto.bp (.cells #[.int .i64 t145, .int .u64 t146] 24 (0, 0)) BK148 hb; replace HB := Goto.hs HB hb; (try clear hb); (try clear hb2); (try clear hk); (try clear hi); have hnb81 := NB140_141.out; have hnc81 := NB141_140.out; have hnb82 := NB140_148.out; have hnc82 := NB148_140.out; have hcz83_0 : w80.cell? ⟨gb140, 0, none⟩ = some (.int .i64 a1_0) := (blk_cell BK140.out 0).trans rfl; have hcz83_1 : w80.cell? ⟨gb140, 1, none⟩ = some (.int .u64 a1_1) := (blk_cell BK140.out 1).trans rfl; have hfz83_0 := blk_frozen BK140.out 0; have hfz83_1 := blk_frozen BK140.out 1; have hcz84_0 : w80.cell? ⟨gb147, 0, none⟩ = some (.int .i64 t143) := (blk_cell BK147.out 0).trans rfl; have hcz84_1 : w80.cell? ⟨gb147, 1, none⟩ = some (.int .u64 t144) := (blk_cell BK147.out 1).trans rfl; have hfz84_0 := blk_frozen BK147.out 0; have hfz84_1 := blk_frozen BK147.out 1) | (go_at_call 18; (with_reducible refine (label_Leq.calls a1_0 a1_1 t143 t144 false _ A25.out).mono ?_); rintro e w85 ⟨rfl, hb⟩; replace BK139 := Goto.bb BK139 hb; replace BK140 := Goto.bb BK140 hb; replace BK141 := Goto.bb BK141 hb; replace BK147 := Goto.bb BK147 hb; replace BK148 := Goto.bb BK148 hb; replace HB := Goto.hs HB hb; (try clear hb); (try clear hb2); (try clear hk); (try clear hi)))
     go_meet
     case rel => exact ⟨_, (true), (by first | rfl | (simp; done) | (simp [*]; done)), H', ⟨by first | omega | exact Nat.le_refl _⟩, ⟨Goto.bx BK139⟩, ⟨Goto.bx BK140⟩, ⟨Goto.bx BK141⟩, ⟨Goto.bx BK147⟩, ⟨Goto.bx BK148⟩, ⟨Goto.hx HB⟩⟩
   ·
    replace c24 := Bool.eq_false_iff.mpr c24
    subst c24
    rw [if_neg (show ¬ (false = true) by decide)] at H
    have H' := Goto.m0 H
    clear H; have hnb86 := NB139_140.out; have hnc86 := NB140_139.out; have hnb87 := NB139_141.out; have hnc87 := NB141_139.out; have hnb88 := NB139_147.out; have hnc88 := NB147_139.out; have hnb89 := NB139_148.out; have hnc89 := NB148_139.out; have hcz90_0 : w18.cell? ⟨gb139, 0, none⟩ = some (.int .i64 a0_0) := (blk_cell BK139.out 0).trans rfl; have hcz90_1 : w18.cell? ⟨gb139, 1, none⟩ = some (.int .u64 a0_1) := (blk_cell BK139.out 1).trans rfl; have hfz90_0 := blk_frozen BK139.out 0; have hfz90_1 := blk_frozen BK139.out 1; have hnb91 := NB147_140.out; have hnc91 := NB140_147.out; have hnb92 := NB147_141.out; have hnc92 := NB141_147.out; have hnb93 := NB147_148.out; have hnc93 := NB148_147.out; have hcz94_0 : w18.cell? ⟨gb147, 0, none⟩ = some (.int .i64 0) := (blk_cell BK147.out 0).trans rfl; have hcz94_1 : w18.cell? ⟨gb147, 1, none⟩ = some (.int .u64 0) := (blk_cell BK147.out 1).trans rfl; have hfz94_0 := blk_frozen BK147.out 0; have hfz94_1 := blk_frozen BK147.out 1
    go_wp2_with (first | ((with_reducible refine gate_callee (f := 18) rfl ?_); refine goesL_ (some 19) rfl rfl Try.func18 (by kernel_rfl) rfl #[.agg #[.int .i64 a0_0, .int .u64 a0_1], .agg #[.int .i64 t143, .int .u64 t144]] rfl (by (try simp only [List.map_toArray, List.map_cons, List.map_nil]); first | done | rfl | (simp only [List.length_drop, List.length_take]; rfl)) ?_; (with_reducible refine (label_Leq.calls a0_0 a0_1 t143 t144 false _ A23.out).mono ?_); rintro e w95 ⟨rfl, hb⟩; refine ⟨_, rfl, ?_⟩; replace BK139 := Goto.bb BK139 hb; replace BK140 := Goto.bb BK140 hb; replace BK141 := Goto.bb BK141 hb; replace BK147 := Goto.bp (.cells #[.int .i64 t143, .int .u64 t144] 24 (0, 0)) BK147 hb; replace BK148 := Goto.bp (.cells #[.int .i64 t145, .int .u64 t146] 24 (0, 0)) BK148 hb; replace HB := Goto.hs HB hb; (try clear hb); (try clear hb2); (try clear hk); (try clear hi)))
    go_meet
    case rel => exact ⟨_, (true), (by first | rfl | (simp; done) | (simp [*]; done)), H', ⟨by first | omega | exact Nat.le_refl _⟩, ⟨Goto.bx BK139⟩, ⟨Goto.bx BK140⟩, ⟨Goto.bx BK141⟩, ⟨Goto.bx BK147⟩, ⟨Goto.bx BK148⟩, ⟨Goto.hx HB⟩⟩
  case rest =>
   clear HC8; try clear c1; try clear c2; try clear p2; try clear c3; try clear c4; try clear c5; try clear c6; try clear c7; try clear c8; try clear c9; try clear c18; try clear c22; try clear c24; try clear c26; try clear c28; try clear c30; try clear c31; try clear c32; try clear c33; try clear c35; try clear c36; try clear c37; try clear c40; try clear c41; try clear c45; try clear c52; try clear c53; try clear c54; try clear c55; try clear c57; try clear c58; try clear c59; try clear c62; try clear c63; try clear c67; try clear c71; try clear c72; try clear c73; try clear c74; try clear c76; try clear c77; try clear c78; try clear c81; try clear c82; try clear c86; try clear c87; try clear c88; try clear c89; try clear c91; try clear c92; try clear c93; try clear hcz34_0; try clear hcz34_1; try clear hcz38_0; try clear hcz38_1; try clear hcz42_0; try clear hcz42_1; try clear hcz43_0; try clear hcz43_1; try clear hcz46_0; try clear hcz46_1; try clear hcz47_0; try clear hcz47_1; try clear hcz49_0; try clear hcz49_1; try clear hcz50_0; try clear hcz50_1; try clear hcz56_0; try clear hcz56_1; try clear hcz60_0; try clear hcz60_1; try clear hcz64_0; try clear hcz64_1; try clear hcz65_0; try clear hcz65_1; try clear hcz68_0; try clear hcz68_1; try clear hcz69_0; try clear hcz69_1; try clear hcz75_0; try clear hcz75_1; try clear hcz79_0; try clear hcz79_1; try clear hcz83_0; try clear hcz83_1; try clear hcz84_0; try clear hcz84_1; try clear hcz90_0; try clear hcz90_1; try clear hcz94_0; try clear hcz94_1; try clear hfz34_0; try clear hfz34_1; try clear hfz38_0; try clear hfz38_1; try clear hfz42_0; try clear hfz42_1; try clear hfz43_0; try clear hfz43_1; try clear hfz46_0; try clear hfz46_1; try clear hfz47_0; try clear hfz47_1; try clear hfz49_0; try clear hfz49_1; try clear hfz50_0; try clear hfz50_1; try clear hfz56_0; try clear hfz56_1; try clear hfz60_0; try clear hfz60_1; try clear hfz64_0; try clear hfz64_1; try clear hfz65_0; try clear hfz65_1; try clear hfz68_0; try clear hfz68_1; try clear hfz69_0; try clear hfz69_1; try clear hfz75_0; try clear hfz75_1; try clear hfz79_0; try clear hfz79_1; try clear hfz83_0; try clear hfz83_1; try clear hfz84_0; try clear hfz84_1; try clear hfz90_0; try clear hfz90_1; try clear hfz94_0; try clear hfz94_1
   obtain ⟨kq, x38_7, rfl, HA, HJ7, BK139, BK140, BK141, BK147, BK148, HB⟩ := hcut
   cases kq with
   | zero => exact absurd HA.out (by simp [tontinelaw1_LabelBounds.j0])
   | succ kj7 =>
    have H := HA.out; clear HA
    simp only [tontinelaw1_LabelBounds.j0] at H
    by_cases c96 : x38_7 = true
    ·
     subst c96
     rw [if_pos rfl] at H
     exact absurd ((Option.some.inj H).trans HRT.out) (by decide)
    ·
     replace c96 := Bool.eq_false_iff.mpr c96
     subst c96
     rw [if_neg (show ¬ (false = true) by decide)] at H
     replace H := Option.bind_eq_some_iff.mp H
     obtain ⟨t153, A970, H⟩ := H
     have A97 := Goto.m0 A970
     clear A970
     replace H := Option.bind_eq_some_iff.mp H
     obtain ⟨t154, A980, H⟩ := H
     have A98 := Goto.m0 A980
     clear A980
     by_cases c99 : t154 = true
     ·
      subst c99
      rw [if_pos rfl] at H
      replace H := Option.bind_eq_some_iff.mp H
      obtain ⟨t155, A1000, H⟩ := H
      have A100 := Goto.m0 A1000
      clear A1000
      by_cases c101 : (t153 == t155) = true
      ·
       rw [if_pos c101] at H
       have c101b0 : (t153 == t155) = true := c101
       (try (have c101b1 : decide (t153 = t155) = true := by simpa using c101))
       (try (have c101b2 : (t153 == t155) = true := by simpa using c101))
       clear c101
       replace H := Option.bind_eq_some_iff.mp H
       obtain ⟨t156, A1020, H⟩ := H
       have A102 := Goto.m0 A1020
       clear A1020
       replace H := Option.bind_eq_some_iff.mp H
       obtain ⟨t157, A1030, H⟩ := H
       have A103 := Goto.m0 A1030
       clear A1030
       by_cases c104 : t157 = true
       ·
        subst c104
        rw [if_pos rfl] at H
        replace H := Option.bind_eq_some_iff.mp H
        obtain ⟨t158, A1050, H⟩ := H
        have A105 := Goto.m0 A1050
        clear A1050
        by_cases c106 : (t156 == t158) = true
        ·
         rw [if_pos c106] at H
         have c106b0 : (t156 == t158) = true := c106
         (try (have c106b1 : decide (t156 = t158) = true := by simpa using c106))
         (try (have c106b2 : (t156 == t158) = true := by simpa using c106))
         clear c106
         replace H := Option.bind_eq_some_iff.mp H
         obtain ⟨t159, A1070, H⟩ := H
         have A107 := Goto.m0 A1070
         clear A1070
         by_cases c108 : (t159 == (t143 == a1_0 && (t144 == a1_1))) = true
         ·
          rw [if_pos c108] at H
          have c108b0 : (t159 == (t143 == a1_0 && (t144 == a1_1))) = true := c108
          (try (have c108b1 : decide (t159 = (t143 == a1_0 && (t144 == a1_1))) = true := by simpa using c108))
          (try (have c108b2 : (t159 == (t143 == a1_0 && (t144 == a1_1))) = true := by simpa using c108))
          clear c108
          replace H := Option.bind_eq_some_iff.mp H
          obtain ⟨t160, A1090, H⟩ := H
          have A109 := Goto.m0 A1090
          clear A1090
          obtain rfl := Option.some.inj H
          try go_wp2
          replace BK139 := Goto.m0 (blk_drew BK139.out); replace BK140 := Goto.m0 (blk_drew BK140.out); replace BK141 := Goto.m0 (blk_drew BK141.out); replace BK147 := Goto.m0 (blk_drew BK147.out); replace BK148 := Goto.m0 (blk_drew BK148.out); replace HB := Goto.m0 (below_drew1 HB.out)
          refine start_ (n := 45) (S := fun w' => w'.cell? ⟨gb147, 0, none⟩ = some (.int .i64 t143) ∧ w'.cell? ⟨gb147, 1, none⟩ = some (.int .u64 t144) ∧ w'.cell? ⟨gb141, 0, none⟩ = some (.int .i64 a2_0) ∧ w'.cell? ⟨gb141, 1, none⟩ = some (.int .u64 a2_1) ∧ w'.cell? ⟨gb139, 0, none⟩ = some (.int .i64 a0_0) ∧ w'.cell? ⟨gb139, 1, none⟩ = some (.int .u64 a0_1) ∧ w'.cell? ⟨gb140, 0, none⟩ = some (.int .i64 a1_0) ∧ w'.cell? ⟨gb140, 1, none⟩ = some (.int .u64 a1_1) ∧ w'.cell? ⟨gb148, 0, none⟩ = some (.int .i64 t145) ∧ w'.cell? ⟨gb148, 1, none⟩ = some (.int .u64 t146)) (ds := []) (.replicate 45 false) (by kernel_rfl) rfl rfl ⟨(blk_cell BK147.out 0).trans rfl, (blk_cell BK147.out 1).trans rfl, (blk_cell BK141.out 0).trans rfl, (blk_cell BK141.out 1).trans rfl, (blk_cell BK139.out 0).trans rfl, (blk_cell BK139.out 1).trans rfl, (blk_cell BK140.out 0).trans rfl, (blk_cell BK140.out 1).trans rfl, (blk_cell BK148.out 0).trans rfl, (blk_cell BK148.out 1).trans rfl⟩ (fun hHeld => ?_); refine with_tabW tontinelaw1_LabelBounds.tab6 tontinelaw1_LabelBounds.bits6 (fun HT_ HW_ => ?_)
          generalize wc.drew = w110 at BK139 BK140 BK141 BK147 BK148 HB hHeld ⊢
          refine take_ (i := 0) (N := some 39) (v := ?_) (a' := ?_) (Goto.bs 45 1) rfl rfl (take_ofW HT_.out HW_.out (by kernel_rfl)) (fun _ _ _ h => h) (Or.inl ⟨by rfl, ?_⟩) hHeld ?_ ?_
          rotate_left
          ·
           rintro w' ⟨s0, s1, s2, s3, s4, s5, s6, s7, s8, s9⟩
           go_simp
           with_reducible rfl
          rotate_left
          ·
           exact Goto.ap
          refine take_ (i := 1) (N := some 40) (v := ?_) (a' := ?_) (Goto.bs 45 3) rfl rfl (take_ofW HT_.out HW_.out (by kernel_rfl)) (fun _ _ _ h => h) (Or.inl ⟨by rfl, ?_⟩) hHeld ?_ ?_
          rotate_left
          ·
           rintro w' ⟨s0, s1, s2, s3, s4, s5, s6, s7, s8, s9⟩
           go_simp
           with_reducible rfl
          rotate_left
          ·
           exact Goto.ap
          refine take_ (i := 3) (N := some 42) (v := ?_) (a' := ?_) (Goto.bs 45 11) rfl rfl (take_ofW HT_.out HW_.out (by kernel_rfl)) (fun _ _ _ h => h) (Or.inl ⟨by rfl, ?_⟩) hHeld ?_ ?_
          rotate_left
          ·
           rintro w' ⟨s0, s1, s2, s3, s4, s5, s6, s7, s8, s9⟩
           go_simp
           with_reducible rfl
          rotate_left
          ·
           exact Goto.ap
          refine take_ (i := 4) (N := some 43) (v := ?_) (a' := ?_) (Goto.bs 45 27) rfl rfl (take_ofW HT_.out HW_.out (by kernel_rfl)) (fun _ _ _ h => h) (Or.inl ⟨by rfl, ?_⟩) hHeld ?_ ?_
          rotate_left
          ·
           rintro w' ⟨s0, s1, s2, s3, s4, s5, s6, s7, s8, s9⟩
           go_simp
           with_reducible rfl
          rotate_left
          ·
           exact Goto.ap
          refine one_ (i := 2) (N := some 41) (Goto.bs 45 31) rfl rfl (one_of HT_.out (by kernel_rfl)) (by decide) (fun K hK => ?_)
          refine goes_ Try.func18 (by kernel_rfl) rfl #[.agg #[.int .i64 t143, .int .u64 t144], .agg #[.int .i64 a2_0, .int .u64 a2_1]] (by rfl) rfl rfl (by (try simp only [List.map_toArray, List.map_cons, List.map_nil]); first | done | rfl | (simp only [List.length_drop, List.length_take]; rfl)) ?_
          with_reducible refine (label_Leq.calls t143 t144 a2_0 a2_1 t153 _ A97.out).mono ?_
          rintro e w111 ⟨rfl, hb⟩
          refine ⟨_, rfl, ?_⟩
          replace BK139 := Goto.bb BK139 hb; replace BK140 := Goto.bb BK140 hb; replace BK141 := Goto.bb BK141 hb; replace BK147 := Goto.bb BK147 hb; replace BK148 := Goto.bb BK148 hb; replace HB := Goto.hs HB hb
          (try clear hb)
          (try clear hb2)
          (try clear hk)
          (try clear hi)
          refine hK.out _ _ ⟨(blk_cell BK147.out 0).trans rfl, (blk_cell BK147.out 1).trans rfl, (blk_cell BK141.out 0).trans rfl, (blk_cell BK141.out 1).trans rfl, (blk_cell BK139.out 0).trans rfl, (blk_cell BK139.out 1).trans rfl, (blk_cell BK140.out 0).trans rfl, (blk_cell BK140.out 1).trans rfl, (blk_cell BK148.out 0).trans rfl, (blk_cell BK148.out 1).trans rfl⟩ (fun hHeld => ?_)
          clear hK K
          refine norm_ (a' := ?_) ?_ ?_
          rotate_left
          ·
           show Act.put _ (some 41) _ = _
           exact Goto.ap
          refine one_ (i := 5) (N := some 44) (Goto.bs 45 63) rfl rfl (one_of HT_.out (by kernel_rfl)) (by decide) (fun K hK => ?_)
          refine goes_ Try.func18 (by kernel_rfl) rfl #[.agg #[.int .i64 a0_0, .int .u64 a0_1], .agg #[.int .i64 a2_0, .int .u64 a2_1]] (by rfl) rfl rfl (by (try simp only [List.map_toArray, List.map_cons, List.map_nil]); first | done | rfl | (simp only [List.length_drop, List.length_take]; rfl)) ?_
          with_reducible refine (label_Leq.calls a0_0 a0_1 a2_0 a2_1 true _ A98.out).mono ?_
          rintro e w112 ⟨rfl, hb⟩
          refine ⟨_, rfl, ?_⟩
          replace BK139 := Goto.bb BK139 hb; replace BK140 := Goto.bb BK140 hb; replace BK141 := Goto.bb BK141 hb; replace BK147 := Goto.bb BK147 hb; replace BK148 := Goto.bb BK148 hb; replace HB := Goto.hs HB hb
          (try clear hb)
          (try clear hb2)
          (try clear hk)
          (try clear hi)
          refine hK.out _ _ ⟨(blk_cell BK147.out 0).trans rfl, (blk_cell BK147.out 1).trans rfl, (blk_cell BK141.out 0).trans rfl, (blk_cell BK141.out 1).trans rfl, (blk_cell BK139.out 0).trans rfl, (blk_cell BK139.out 1).trans rfl, (blk_cell BK140.out 0).trans rfl, (blk_cell BK140.out 1).trans rfl, (blk_cell BK148.out 0).trans rfl, (blk_cell BK148.out 1).trans rfl⟩ (fun hHeld => ?_)
          clear hK K
          refine norm_ (a' := ?_) ?_ ?_
          rotate_left
          ·
           show Act.put _ (some 44) _ = _
           exact Goto.ap
          refine pure_ (i := 6) (N := some 45) (v := ?_) (a' := ?_) (Goto.bs 45 127) rfl rfl (any_of HT_.out (by kernel_rfl)) (fun _ _ _ h => h) (Or.inl ⟨by rfl, ?_⟩) ?_ ?_
          rotate_left
          ·
           intro w'
           go_simp
           with_reducible rfl
          rotate_left
          ·
           exact Goto.ap
          refine take_ (i := 7) (N := some 46) (v := ?_) (a' := ?_) (Goto.bs 45 255) rfl rfl (take_ofW HT_.out HW_.out (by kernel_rfl)) (fun _ _ _ h => h) (Or.inl ⟨by rfl, ?_⟩) hHeld ?_ ?_
          rotate_left
          ·
           rintro w' ⟨s0, s1, s2, s3, s4, s5, s6, s7, s8, s9⟩
           go_simp
           with_reducible rfl
          rotate_left
          ·
           exact Goto.ap
          refine take_ (i := 8) (N := some 47) (v := ?_) (a' := ?_) (Goto.bs 45 511) rfl rfl (take_ofW HT_.out HW_.out (by kernel_rfl)) (fun _ _ _ h => h) (Or.inl ⟨by rfl, ?_⟩) hHeld ?_ ?_
          rotate_left
          ·
           rintro w' ⟨s0, s1, s2, s3, s4, s5, s6, s7, s8, s9⟩
           go_simp
           with_reducible rfl
          rotate_left
          ·
           exact Goto.ap
          refine one_ (i := 9) (N := some 48) (Goto.bs 45 1023) rfl rfl (one_of HT_.out (by kernel_rfl)) (by decide) (fun K hK => ?_)
          refine goes_ Try.func18 (by kernel_rfl) rfl #[.agg #[.int .i64 a1_0, .int .u64 a1_1], .agg #[.int .i64 a2_0, .int .u64 a2_1]] (by rfl) rfl rfl (by (try simp only [List.map_toArray, List.map_cons, List.map_nil]); first | done | rfl | (simp only [List.length_drop, List.length_take]; rfl)) ?_
          with_reducible refine (label_Leq.calls a1_0 a1_1 a2_0 a2_1 t155 _ A100.out).mono ?_
          rintro e w113 ⟨rfl, hb⟩
          refine ⟨_, rfl, ?_⟩
          replace BK139 := Goto.bb BK139 hb; replace BK140 := Goto.bb BK140 hb; replace BK141 := Goto.bb BK141 hb; replace BK147 := Goto.bb BK147 hb; replace BK148 := Goto.bb BK148 hb; replace HB := Goto.hs HB hb
          (try clear hb)
          (try clear hb2)
          (try clear hk)
          (try clear hi)
          refine hK.out _ _ ⟨(blk_cell BK147.out 0).trans rfl, (blk_cell BK147.out 1).trans rfl, (blk_cell BK141.out 0).trans rfl, (blk_cell BK141.out 1).trans rfl, (blk_cell BK139.out 0).trans rfl, (blk_cell BK139.out 1).trans rfl, (blk_cell BK140.out 0).trans rfl, (blk_cell BK140.out 1).trans rfl, (blk_cell BK148.out 0).trans rfl, (blk_cell BK148.out 1).trans rfl⟩ (fun hHeld => ?_)
          clear hK K
          refine norm_ (a' := ?_) ?_ ?_
          rotate_left
          ·
           show Act.put _ (some 48) _ = _
           exact Goto.ap
          refine pure_ (i := 10) (N := some 49) (v := ?_) (a' := ?_) (Goto.bs 45 2047) rfl rfl (any_of HT_.out (by kernel_rfl)) (fun _ _ _ h => h) (Or.inl ⟨by rfl, ?_⟩) ?_ ?_
          rotate_left
          ·
           intro w'
           go_simp
           with_reducible rfl
          rotate_left
          ·
           exact Goto.ap
          refine pure_ (i := 11) (N := some 50) (v := ?_) (a' := ?_) (Goto.bs 45 4095) rfl rfl (any_of HT_.out (by kernel_rfl)) (fun _ _ _ h => h) (Or.inl ⟨by rfl, ?_⟩) ?_ ?_
          rotate_left
          ·
           intro w'
           go_simp
           with_reducible rfl
          rotate_left
          ·
           exact Goto.ap
          refine pure_ (i := 12) (N := some 51) (v := ?_) (a' := ?_) (Goto.bs 45 8191) rfl rfl (any_of HT_.out (by kernel_rfl)) (fun _ _ _ h => h) (Or.inl ⟨by rfl, ?_⟩) ?_ ?_
          rotate_left
          ·
           intro w'
           go_simp
           with_reducible rfl
          rotate_left
          ·
           exact Goto.ap
          refine take_ (i := 13) (N := some 52) (v := ?_) (a' := ?_) (Goto.bs 45 16383) rfl rfl (take_ofW HT_.out HW_.out (by kernel_rfl)) (fun _ _ _ h => h) (Or.inl ⟨by rfl, ?_⟩) hHeld ?_ ?_
          rotate_left
          ·
           rintro w' ⟨s0, s1, s2, s3, s4, s5, s6, s7, s8, s9⟩
           go_simp
           with_reducible rfl
          rotate_left
          ·
           exact Goto.ap
          refine take_ (i := 14) (N := some 53) (v := ?_) (a' := ?_) (Goto.bs 45 32767) rfl rfl (take_ofW HT_.out HW_.out (by kernel_rfl)) (fun _ _ _ h => h) (Or.inl ⟨by rfl, ?_⟩) hHeld ?_ ?_
          rotate_left
          ·
           rintro w' ⟨s0, s1, s2, s3, s4, s5, s6, s7, s8, s9⟩
           go_simp
           with_reducible rfl
          rotate_left
          ·
           exact Goto.ap
          refine take_ (i := 16) (N := some 55) (v := ?_) (a' := ?_) (Goto.bs 45 98303) rfl rfl (take_ofW HT_.out HW_.out (by kernel_rfl)) (fun _ _ _ h => h) (Or.inl ⟨by rfl, ?_⟩) hHeld ?_ ?_
          rotate_left
          ·
           rintro w' ⟨s0, s1, s2, s3, s4, s5, s6, s7, s8, s9⟩
           go_simp
           with_reducible rfl
          rotate_left
          ·
           exact Goto.ap
          refine take_ (i := 17) (N := some 56) (v := ?_) (a' := ?_) (Goto.bs 45 229375) rfl rfl (take_ofW HT_.out HW_.out (by kernel_rfl)) (fun _ _ _ h => h) (Or.inl ⟨by rfl, ?_⟩) hHeld ?_ ?_
          rotate_left
          ·
           rintro w' ⟨s0, s1, s2, s3, s4, s5, s6, s7, s8, s9⟩
           go_simp
           with_reducible rfl
          rotate_left
          ·
           exact Goto.ap
          refine one_ (i := 15) (N := some 54) (Goto.bs 45 262143) rfl rfl (one_of HT_.out (by kernel_rfl)) (by decide) (fun K hK => ?_)
          refine goes_ Try.func18 (by kernel_rfl) rfl #[.agg #[.int .i64 a2_0, .int .u64 a2_1], .agg #[.int .i64 t145, .int .u64 t146]] (by rfl) rfl rfl (by (try simp only [List.map_toArray, List.map_cons, List.map_nil]); first | done | rfl | (simp only [List.length_drop, List.length_take]; rfl)) ?_
          with_reducible refine (label_Leq.calls a2_0 a2_1 t145 t146 t156 _ A102.out).mono ?_
          rintro e w114 ⟨rfl, hb⟩
          refine ⟨_, rfl, ?_⟩
          replace BK139 := Goto.bb BK139 hb; replace BK140 := Goto.bb BK140 hb; replace BK141 := Goto.bb BK141 hb; replace BK147 := Goto.bb BK147 hb; replace BK148 := Goto.bb BK148 hb; replace HB := Goto.hs HB hb
          (try clear hb)
          (try clear hb2)
          (try clear hk)
          (try clear hi)
          refine hK.out _ _ ⟨(blk_cell BK147.out 0).trans rfl, (blk_cell BK147.out 1).trans rfl, (blk_cell BK141.out 0).trans rfl, (blk_cell BK141.out 1).trans rfl, (blk_cell BK139.out 0).trans rfl, (blk_cell BK139.out 1).trans rfl, (blk_cell BK140.out 0).trans rfl, (blk_cell BK140.out 1).trans rfl, (blk_cell BK148.out 0).trans rfl, (blk_cell BK148.out 1).trans rfl⟩ (fun hHeld => ?_)
          clear hK K
          refine norm_ (a' := ?_) ?_ ?_
          rotate_left
          ·
           show Act.put _ (some 54) _ = _
           exact Goto.ap
          refine one_ (i := 18) (N := some 57) (Goto.bs 45 524287) rfl rfl (one_of HT_.out (by kernel_rfl)) (by decide) (fun K hK => ?_)
          refine goes_ Try.func18 (by kernel_rfl) rfl #[.agg #[.int .i64 a2_0, .int .u64 a2_1], .agg #[.int .i64 a0_0, .int .u64 a0_1]] (by rfl) rfl rfl (by (try simp only [List.map_toArray, List.map_cons, List.map_nil]); first | done | rfl | (simp only [List.length_drop, List.length_take]; rfl)) ?_
          with_reducible refine (label_Leq.calls a2_0 a2_1 a0_0 a0_1 true _ A103.out).mono ?_
          rintro e w115 ⟨rfl, hb⟩
          refine ⟨_, rfl, ?_⟩
          replace BK139 := Goto.bb BK139 hb; replace BK140 := Goto.bb BK140 hb; replace BK141 := Goto.bb BK141 hb; replace BK147 := Goto.bb BK147 hb; replace BK148 := Goto.bb BK148 hb; replace HB := Goto.hs HB hb
          (try clear hb)
          (try clear hb2)
          (try clear hk)
          (try clear hi)
          refine hK.out _ _ ⟨(blk_cell BK147.out 0).trans rfl, (blk_cell BK147.out 1).trans rfl, (blk_cell BK141.out 0).trans rfl, (blk_cell BK141.out 1).trans rfl, (blk_cell BK139.out 0).trans rfl, (blk_cell BK139.out 1).trans rfl, (blk_cell BK140.out 0).trans rfl, (blk_cell BK140.out 1).trans rfl, (blk_cell BK148.out 0).trans rfl, (blk_cell BK148.out 1).trans rfl⟩ (fun hHeld => ?_)
          clear hK K
          refine norm_ (a' := ?_) ?_ ?_
          rotate_left
          ·
           show Act.put _ (some 57) _ = _
           exact Goto.ap
          refine pure_ (i := 19) (N := some 58) (v := ?_) (a' := ?_) (Goto.bs 45 1048575) rfl rfl (any_of HT_.out (by kernel_rfl)) (fun _ _ _ h => h) (Or.inl ⟨by rfl, ?_⟩) ?_ ?_
          rotate_left
          ·
           intro w'
           go_simp
           with_reducible rfl
          rotate_left
          ·
           exact Goto.ap
          refine take_ (i := 20) (N := some 59) (v := ?_) (a' := ?_) (Goto.bs 45 2097151) rfl rfl (take_ofW HT_.out HW_.out (by kernel_rfl)) (fun _ _ _ h => h) (Or.inl ⟨by rfl, ?_⟩) hHeld ?_ ?_
          rotate_left
          ·
           rintro w' ⟨s0, s1, s2, s3, s4, s5, s6, s7, s8, s9⟩
           go_simp
           with_reducible rfl
          rotate_left
          ·
           exact Goto.ap
          refine take_ (i := 21) (N := some 60) (v := ?_) (a' := ?_) (Goto.bs 45 4194303) rfl rfl (take_ofW HT_.out HW_.out (by kernel_rfl)) (fun _ _ _ h => h) (Or.inl ⟨by rfl, ?_⟩) hHeld ?_ ?_
          rotate_left
          ·
           rintro w' ⟨s0, s1, s2, s3, s4, s5, s6, s7, s8, s9⟩
           go_simp
           with_reducible rfl
          rotate_left
          ·
           exact Goto.ap
          refine one_ (i := 22) (N := some 61) (Goto.bs 45 8388607) rfl rfl (one_of HT_.out (by kernel_rfl)) (by decide) (fun K hK => ?_)
          refine goes_ Try.func18 (by kernel_rfl) rfl #[.agg #[.int .i64 a2_0, .int .u64 a2_1], .agg #[.int .i64 a1_0, .int .u64 a1_1]] (by rfl) rfl rfl (by (try simp only [List.map_toArray, List.map_cons, List.map_nil]); first | done | rfl | (simp only [List.length_drop, List.length_take]; rfl)) ?_
          with_reducible refine (label_Leq.calls a2_0 a2_1 a1_0 a1_1 t158 _ A105.out).mono ?_
          rintro e w116 ⟨rfl, hb⟩
          refine ⟨_, rfl, ?_⟩
          replace BK139 := Goto.bb BK139 hb; replace BK140 := Goto.bb BK140 hb; replace BK141 := Goto.bb BK141 hb; replace BK147 := Goto.bb BK147 hb; replace BK148 := Goto.bb BK148 hb; replace HB := Goto.hs HB hb
          (try clear hb)
          (try clear hb2)
          (try clear hk)
          (try clear hi)
          refine hK.out _ _ ⟨(blk_cell BK147.out 0).trans rfl, (blk_cell BK147.out 1).trans rfl, (blk_cell BK141.out 0).trans rfl, (blk_cell BK141.out 1).trans rfl, (blk_cell BK139.out 0).trans rfl, (blk_cell BK139.out 1).trans rfl, (blk_cell BK140.out 0).trans rfl, (blk_cell BK140.out 1).trans rfl, (blk_cell BK148.out 0).trans rfl, (blk_cell BK148.out 1).trans rfl⟩ (fun hHeld => ?_)
          clear hK K
          refine norm_ (a' := ?_) ?_ ?_
          rotate_left
          ·
           show Act.put _ (some 61) _ = _
           exact Goto.ap
          refine pure_ (i := 23) (N := some 62) (v := ?_) (a' := ?_) (Goto.bs 45 16777215) rfl rfl (any_of HT_.out (by kernel_rfl)) (fun _ _ _ h => h) (Or.inl ⟨by rfl, ?_⟩) ?_ ?_
          rotate_left
          ·
           intro w'
           go_simp
           with_reducible rfl
          rotate_left
          ·
           exact Goto.ap
          refine pure_ (i := 24) (N := some 63) (v := ?_) (a' := ?_) (Goto.bs 45 33554431) rfl rfl (any_of HT_.out (by kernel_rfl)) (fun _ _ _ h => h) (Or.inl ⟨by rfl, ?_⟩) ?_ ?_
          rotate_left
          ·
           intro w'
           go_simp
           with_reducible rfl
          rotate_left
          ·
           exact Goto.ap
          refine pure_ (i := 25) (N := some 64) (v := ?_) (a' := ?_) (Goto.bs 45 67108863) rfl rfl (any_of HT_.out (by kernel_rfl)) (fun _ _ _ h => h) (Or.inl ⟨by rfl, ?_⟩) ?_ ?_
          rotate_left
          ·
           intro w'
           go_simp
           with_reducible rfl
          rotate_left
          ·
           exact Goto.ap
          refine pure_ (i := 26) (N := some 65) (v := ?_) (a' := ?_) (Goto.bs 45 134217727) rfl rfl (any_of HT_.out (by kernel_rfl)) (fun _ _ _ h => h) (Or.inl ⟨by rfl, ?_⟩) ?_ ?_
          rotate_left
          ·
           intro w'
           go_simp
           with_reducible rfl
          rotate_left
          ·
           exact Goto.ap
          refine take_ (i := 27) (N := some 66) (v := ?_) (a' := ?_) (Goto.bs 45 268435455) rfl rfl (take_ofW HT_.out HW_.out (by kernel_rfl)) (fun _ _ _ h => h) (Or.inl ⟨by rfl, ?_⟩) hHeld ?_ ?_
          rotate_left
          ·
           rintro w' ⟨s0, s1, s2, s3, s4, s5, s6, s7, s8, s9⟩
           go_simp
           with_reducible rfl
          rotate_left
          ·
           exact Goto.ap
          refine take_ (i := 28) (N := some 67) (v := ?_) (a' := ?_) (Goto.bs 45 536870911) rfl rfl (take_ofW HT_.out HW_.out (by kernel_rfl)) (fun _ _ _ h => h) (Or.inl ⟨by rfl, ?_⟩) hHeld ?_ ?_
          rotate_left
          ·
           rintro w' ⟨s0, s1, s2, s3, s4, s5, s6, s7, s8, s9⟩
           go_simp
           with_reducible rfl
          rotate_left
          ·
           exact Goto.ap
          refine take_ (i := 30) (N := some 69) (v := ?_) (a' := ?_) (Goto.bs 45 1610612735) rfl rfl (take_ofW HT_.out HW_.out (by kernel_rfl)) (fun _ _ _ h => h) (Or.inl ⟨by rfl, ?_⟩) hHeld ?_ ?_
          rotate_left
          ·
           rintro w' ⟨s0, s1, s2, s3, s4, s5, s6, s7, s8, s9⟩
           go_simp
           with_reducible rfl
          rotate_left
          ·
           exact Goto.ap
          refine take_ (i := 31) (N := some 70) (v := ?_) (a' := ?_) (Goto.bs 45 3758096383) rfl rfl (take_ofW HT_.out HW_.out (by kernel_rfl)) (fun _ _ _ h => h) (Or.inl ⟨by rfl, ?_⟩) hHeld ?_ ?_
          rotate_left
          ·
           rintro w' ⟨s0, s1, s2, s3, s4, s5, s6, s7, s8, s9⟩
           go_simp
           with_reducible rfl
          rotate_left
          ·
           exact Goto.ap
          refine pure_ (i := 32) (N := some 71) (v := ?_) (a' := ?_) (Goto.bs 45 8053063679) rfl rfl (any_of HT_.out (by kernel_rfl)) (fun _ _ _ h => h) (Or.inl ⟨by rfl, ?_⟩) ?_ ?_
          rotate_left
          ·
           intro w'
           go_simp
           with_reducible rfl
          rotate_left
          ·
           exact Goto.ap
          refine one_ (i := 29) (N := some 68) (Goto.bs 45 8589934591) rfl rfl (one_of HT_.out (by kernel_rfl)) (by decide) (fun K hK => ?_)
          refine goes_ Try.func18 (by kernel_rfl) rfl #[.agg #[.int .i64 a0_0, .int .u64 a0_1], .agg #[.int .i64 a1_0, .int .u64 a1_1]] (by rfl) rfl rfl (by (try simp only [List.map_toArray, List.map_cons, List.map_nil]); first | done | rfl | (simp only [List.length_drop, List.length_take]; rfl)) ?_
          with_reducible refine (label_Leq.calls a0_0 a0_1 a1_0 a1_1 t159 _ A107.out).mono ?_
          rintro e w117 ⟨rfl, hb⟩
          refine ⟨_, rfl, ?_⟩
          replace BK139 := Goto.bb BK139 hb; replace BK140 := Goto.bb BK140 hb; replace BK141 := Goto.bb BK141 hb; replace BK147 := Goto.bb BK147 hb; replace BK148 := Goto.bb BK148 hb; replace HB := Goto.hs HB hb
          (try clear hb)
          (try clear hb2)
          (try clear hk)
          (try clear hi)
          refine hK.out _ _ ⟨(blk_cell BK147.out 0).trans rfl, (blk_cell BK147.out 1).trans rfl, (blk_cell BK141.out 0).trans rfl, (blk_cell BK141.out 1).trans rfl, (blk_cell BK139.out 0).trans rfl, (blk_cell BK139.out 1).trans rfl, (blk_cell BK140.out 0).trans rfl, (blk_cell BK140.out 1).trans rfl, (blk_cell BK148.out 0).trans rfl, (blk_cell BK148.out 1).trans rfl⟩ (fun hHeld => ?_)
          clear hK K
          refine norm_ (a' := ?_) ?_ ?_
          rotate_left
          ·
           show Act.put _ (some 68) _ = _
           exact Goto.ap
          refine pure_ (i := 33) (N := some 72) (v := ?_) (a' := ?_) (Goto.bs 45 17179869183) rfl rfl (any_of HT_.out (by kernel_rfl)) (fun _ _ _ h => h) (Or.inl ⟨by rfl, ?_⟩) ?_ ?_
          rotate_left
          ·
           intro w'
           go_simp
           with_reducible rfl
          rotate_left
          ·
           exact Goto.ap
          refine pure_ (i := 34) (N := some 73) (v := ?_) (a' := ?_) (Goto.bs 45 34359738367) rfl rfl (any_of HT_.out (by kernel_rfl)) (fun _ _ _ h => h) (Or.inl ⟨by rfl, ?_⟩) ?_ ?_
          rotate_left
          ·
           intro w'
           go_simp
           with_reducible rfl
          rotate_left
          ·
           exact Goto.ap
          refine pure_ (i := 35) (N := some 74) (v := ?_) (a' := ?_) (Goto.bs 45 68719476735) rfl rfl (any_of HT_.out (by kernel_rfl)) (fun _ _ _ h => h) (Or.inl ⟨by rfl, ?_⟩) ?_ ?_
          rotate_left
          ·
           intro w'
           go_simp
           with_reducible rfl
          rotate_left
          ·
           exact Goto.ap
          refine take_ (i := 36) (N := some 75) (v := ?_) (a' := ?_) (Goto.bs 45 137438953471) rfl rfl (take_ofW HT_.out HW_.out (by kernel_rfl)) (fun _ _ _ h => h) (Or.inl ⟨by rfl, ?_⟩) hHeld ?_ ?_
          rotate_left
          ·
           rintro w' ⟨s0, s1, s2, s3, s4, s5, s6, s7, s8, s9⟩
           go_simp
           with_reducible rfl
          rotate_left
          ·
           exact Goto.ap
          refine take_ (i := 37) (N := some 76) (v := ?_) (a' := ?_) (Goto.bs 45 274877906943) rfl rfl (take_ofW HT_.out HW_.out (by kernel_rfl)) (fun _ _ _ h => h) (Or.inl ⟨by rfl, ?_⟩) hHeld ?_ ?_
          rotate_left
          ·
           rintro w' ⟨s0, s1, s2, s3, s4, s5, s6, s7, s8, s9⟩
           go_simp
           with_reducible rfl
          rotate_left
          ·
           exact Goto.ap
          refine take_ (i := 39) (N := some 78) (v := ?_) (a' := ?_) (Goto.bs 45 824633720831) rfl rfl (take_ofW HT_.out HW_.out (by kernel_rfl)) (fun _ _ _ h => h) (Or.inl ⟨by rfl, ?_⟩) hHeld ?_ ?_
          rotate_left
          ·
           rintro w' ⟨s0, s1, s2, s3, s4, s5, s6, s7, s8, s9⟩
           go_simp
           with_reducible rfl
          rotate_left
          ·
           exact Goto.ap
          refine take_ (i := 40) (N := some 79) (v := ?_) (a' := ?_) (Goto.bs 45 1924145348607) rfl rfl (take_ofW HT_.out HW_.out (by kernel_rfl)) (fun _ _ _ h => h) (Or.inl ⟨by rfl, ?_⟩) hHeld ?_ ?_
          rotate_left
          ·
           rintro w' ⟨s0, s1, s2, s3, s4, s5, s6, s7, s8, s9⟩
           go_simp
           with_reducible rfl
          rotate_left
          ·
           exact Goto.ap
          refine pure_ (i := 41) (N := some 80) (v := ?_) (a' := ?_) (Goto.bs 45 4123168604159) rfl rfl (any_of HT_.out (by kernel_rfl)) (fun _ _ _ h => h) (Or.inl ⟨by rfl, ?_⟩) ?_ ?_
          rotate_left
          ·
           intro w'
           go_simp
           with_reducible rfl
          rotate_left
          ·
           exact Goto.ap
          refine one_ (i := 38) (N := some 77) (Goto.bs 45 4398046511103) rfl rfl (one_of HT_.out (by kernel_rfl)) (by decide) (fun K hK => ?_)
          refine goes_ Try.func18 (by kernel_rfl) rfl #[.agg #[.int .i64 a0_0, .int .u64 a0_1], .agg #[.int .i64 a1_0, .int .u64 a1_1]] (by rfl) rfl rfl (by (try simp only [List.map_toArray, List.map_cons, List.map_nil]); first | done | rfl | (simp only [List.length_drop, List.length_take]; rfl)) ?_
          with_reducible refine (label_Leq.calls a0_0 a0_1 a1_0 a1_1 t160 _ A109.out).mono ?_
          rintro e w118 ⟨rfl, hb⟩
          refine ⟨_, rfl, ?_⟩
          replace BK139 := Goto.bb BK139 hb; replace BK140 := Goto.bb BK140 hb; replace BK141 := Goto.bb BK141 hb; replace BK147 := Goto.bb BK147 hb; replace BK148 := Goto.bb BK148 hb; replace HB := Goto.hs HB hb
          (try clear hb)
          (try clear hb2)
          (try clear hk)
          (try clear hi)
          refine hK.out _ _ ⟨(blk_cell BK147.out 0).trans rfl, (blk_cell BK147.out 1).trans rfl, (blk_cell BK141.out 0).trans rfl, (blk_cell BK141.out 1).trans rfl, (blk_cell BK139.out 0).trans rfl, (blk_cell BK139.out 1).trans rfl, (blk_cell BK140.out 0).trans rfl, (blk_cell BK140.out 1).trans rfl, (blk_cell BK148.out 0).trans rfl, (blk_cell BK148.out 1).trans rfl⟩ (fun hHeld => ?_)
          clear hK K
          refine norm_ (a' := ?_) ?_ ?_
          rotate_left
          ·
           show Act.put _ (some 77) _ = _
           exact Goto.ap
          refine pure_ (i := 42) (N := some 81) (v := ?_) (a' := ?_) (Goto.bs 45 8796093022207) rfl rfl (any_of HT_.out (by kernel_rfl)) (fun _ _ _ h => h) (Or.inl ⟨by rfl, ?_⟩) ?_ ?_
          rotate_left
          ·
           intro w'
           go_simp
           with_reducible rfl
          rotate_left
          ·
           exact Goto.ap
          refine pure_ (i := 43) (N := some 82) (v := ?_) (a' := ?_) (Goto.bs 45 17592186044415) rfl rfl (any_of HT_.out (by kernel_rfl)) (fun _ _ _ h => h) (Or.inl ⟨by rfl, ?_⟩) ?_ ?_
          rotate_left
          ·
           intro w'
           go_simp
           with_reducible rfl
          rotate_left
          ·
           exact Goto.ap
          refine pure_ (i := 44) (N := some 6) (v := ?_) (a' := ?_) (Goto.bs 45 35184372088831) rfl rfl (any_of HT_.out (by kernel_rfl)) (fun _ _ _ h => h) (Or.inl ⟨by rfl, ?_⟩) ?_ ?_
          rotate_left
          ·
           intro w'
           go_simp
           with_reducible rfl
          rotate_left
          ·
           exact Goto.ap
          refine done_ (done_of HT_.out (by kernel_rfl)) ?_
          try go_wp2
          go_ret
          exact ⟨by first | rfl | (simp [errW_none, errW_some] <;> rfl) | (simp [*, errW_none, errW_some] <;> rfl), by repeat (first | (with_reducible first | exact HB.out | apply below_alloc | apply pw_below_drewN | apply below_drew1 | refine below_set ?_ GE139.out | refine below_set ?_ GE140.out | refine below_set ?_ GE141.out | refine below_set ?_ GE147.out | refine below_set ?_ GE148.out) | exact HB.out)⟩
         ·
          rw [if_neg c108] at H
          have c108b0 : (t159 == (t143 == a1_0 && (t144 == a1_1))) = false := by simpa using c108
          (try (have c108b1 : decide (t159 = (t143 == a1_0 && (t144 == a1_1))) = false := by simpa using c108))
          (try (have c108b2 : (t159 == (t143 == a1_0 && (t144 == a1_1))) = false := by simpa using c108))
          (try (have c108b3 : ¬ (t159 = (t143 == a1_0 && (t144 == a1_1))) := by simpa using c108))
          clear c108
          exact absurd ((Option.some.inj H).trans HRT.out) (by decide)
        ·
         rw [if_neg c106] at H
         have c106b0 : (t156 == t158) = false := by simpa using c106
         (try (have c106b1 : decide (t156 = t158) = false := by simpa using c106))
         (try (have c106b2 : (t156 == t158) = false := by simpa using c106))
         (try (have c106b3 : ¬ (t156 = t158) := by simpa using c106))
         clear c106
         exact absurd ((Option.some.inj H).trans HRT.out) (by decide)
       ·
        replace c104 := Bool.eq_false_iff.mpr c104
        subst c104
        rw [if_neg (show ¬ (false = true) by decide)] at H
        by_cases c119 : (t156 == false) = true
        ·
         rw [if_pos c119] at H
         have c119b0 : (t156 == false) = true := c119
         (try (have c119b1 : decide (t156 = false) = true := by simpa using c119))
         (try (have c119b2 : (t156 == false) = true := by simpa using c119))
         clear c119
         replace H := Option.bind_eq_some_iff.mp H
         obtain ⟨t161, A1200, H⟩ := H
         have A120 := Goto.m0 A1200
         clear A1200
         by_cases c121 : (t161 == (t143 == a1_0 && (t144 == a1_1))) = true
         ·
          rw [if_pos c121] at H
          have c121b0 : (t161 == (t143 == a1_0 && (t144 == a1_1))) = true := c121
          (try (have c121b1 : decide (t161 = (t143 == a1_0 && (t144 == a1_1))) = true := by simpa using c121))
          (try (have c121b2 : (t161 == (t143 == a1_0 && (t144 == a1_1))) = true := by simpa using c121))
          clear c121
          replace H := Option.bind_eq_some_iff.mp H
          obtain ⟨t162, A1220, H⟩ := H
          have A122 := Goto.m0 A1220
          clear A1220
          obtain rfl := Option.some.inj H
          try go_wp2
          replace BK139 := Goto.m0 (blk_drew BK139.out); replace BK140 := Goto.m0 (blk_drew BK140.out); replace BK141 := Goto.m0 (blk_drew BK141.out); replace BK147 := Goto.m0 (blk_drew BK147.out); replace BK148 := Goto.m0 (blk_drew BK148.out); replace HB := Goto.m0 (below_drew1 HB.out)
          refine start_ (n := 45) (S := fun w' => w'.cell? ⟨gb147, 0, none⟩ = some (.int .i64 t143) ∧ w'.cell? ⟨gb147, 1, none⟩ = some (.int .u64 t144) ∧ w'.cell? ⟨gb141, 0, none⟩ = some (.int .i64 a2_0) ∧ w'.cell? ⟨gb141, 1, none⟩ = some (.int .u64 a2_1) ∧ w'.cell? ⟨gb139, 0, none⟩ = some (.int .i64 a0_0) ∧ w'.cell? ⟨gb139, 1, none⟩ = some (.int .u64 a0_1) ∧ w'.cell? ⟨gb140, 0, none⟩ = some (.int .i64 a1_0) ∧ w'.cell? ⟨gb140, 1, none⟩ = some (.int .u64 a1_1) ∧ w'.cell? ⟨gb148, 0, none⟩ = some (.int .i64 t145) ∧ w'.cell? ⟨gb148, 1, none⟩ = some (.int .u64 t146)) (ds := []) (.replicate 45 false) (by kernel_rfl) rfl rfl ⟨(blk_cell BK147.out 0).trans rfl, (blk_cell BK147.out 1).trans rfl, (blk_cell BK141.out 0).trans rfl, (blk_cell BK141.out 1).trans rfl, (blk_cell BK139.out 0).trans rfl, (blk_cell BK139.out 1).trans rfl, (blk_cell BK140.out 0).trans rfl, (blk_cell BK140.out 1).trans rfl, (blk_cell BK148.out 0).trans rfl, (blk_cell BK148.out 1).trans rfl⟩ (fun hHeld => ?_); refine with_tabW tontinelaw1_LabelBounds.tab6 tontinelaw1_LabelBounds.bits6 (fun HT_ HW_ => ?_)
          generalize wc.drew = w123 at BK139 BK140 BK141 BK147 BK148 HB hHeld ⊢
          refine take_ (i := 0) (N := some 39) (v := ?_) (a' := ?_) (Goto.bs 45 1) rfl rfl (take_ofW HT_.out HW_.out (by kernel_rfl)) (fun _ _ _ h => h) (Or.inl ⟨by rfl, ?_⟩) hHeld ?_ ?_
          rotate_left
          ·
           rintro w' ⟨s0, s1, s2, s3, s4, s5, s6, s7, s8, s9⟩
           go_simp
           with_reducible rfl
          rotate_left
          ·
           exact Goto.ap
          refine take_ (i := 1) (N := some 40) (v := ?_) (a' := ?_) (Goto.bs 45 3) rfl rfl (take_ofW HT_.out HW_.out (by kernel_rfl)) (fun _ _ _ h => h) (Or.inl ⟨by rfl, ?_⟩) hHeld ?_ ?_
          rotate_left
          ·
           rintro w' ⟨s0, s1, s2, s3, s4, s5, s6, s7, s8, s9⟩
           go_simp
           with_reducible rfl
          rotate_left
          ·
           exact Goto.ap
          refine take_ (i := 3) (N := some 42) (v := ?_) (a' := ?_) (Goto.bs 45 11) rfl rfl (take_ofW HT_.out HW_.out (by kernel_rfl)) (fun _ _ _ h => h) (Or.inl ⟨by rfl, ?_⟩) hHeld ?_ ?_
          rotate_left
          ·
           rintro w' ⟨s0, s1, s2, s3, s4, s5, s6, s7, s8, s9⟩
           go_simp
           with_reducible rfl
          rotate_left
          ·
           exact Goto.ap
          refine take_ (i := 4) (N := some 43) (v := ?_) (a' := ?_) (Goto.bs 45 27) rfl rfl (take_ofW HT_.out HW_.out (by kernel_rfl)) (fun _ _ _ h => h) (Or.inl ⟨by rfl, ?_⟩) hHeld ?_ ?_
          rotate_left
          ·
           rintro w' ⟨s0, s1, s2, s3, s4, s5, s6, s7, s8, s9⟩
           go_simp
           with_reducible rfl
          rotate_left
          ·
           exact Goto.ap
          refine one_ (i := 2) (N := some 41) (Goto.bs 45 31) rfl rfl (one_of HT_.out (by kernel_rfl)) (by decide) (fun K hK => ?_)
          refine goes_ Try.func18 (by kernel_rfl) rfl #[.agg #[.int .i64 t143, .int .u64 t144], .agg #[.int .i64 a2_0, .int .u64 a2_1]] (by rfl) rfl rfl (by (try simp only [List.map_toArray, List.map_cons, List.map_nil]); first | done | rfl | (simp only [List.length_drop, List.length_take]; rfl)) ?_
          with_reducible refine (label_Leq.calls t143 t144 a2_0 a2_1 t153 _ A97.out).mono ?_
          rintro e w124 ⟨rfl, hb⟩
          refine ⟨_, rfl, ?_⟩
          replace BK139 := Goto.bb BK139 hb; replace BK140 := Goto.bb BK140 hb; replace BK141 := Goto.bb BK141 hb; replace BK147 := Goto.bb BK147 hb; replace BK148 := Goto.bb BK148 hb; replace HB := Goto.hs HB hb
          (try clear hb)
          (try clear hb2)
          (try clear hk)
          (try clear hi)
          refine hK.out _ _ ⟨(blk_cell BK147.out 0).trans rfl, (blk_cell BK147.out 1).trans rfl, (blk_cell BK141.out 0).trans rfl, (blk_cell BK141.out 1).trans rfl, (blk_cell BK139.out 0).trans rfl, (blk_cell BK139.out 1).trans rfl, (blk_cell BK140.out 0).trans rfl, (blk_cell BK140.out 1).trans rfl, (blk_cell BK148.out 0).trans rfl, (blk_cell BK148.out 1).trans rfl⟩ (fun hHeld => ?_)
          clear hK K
          refine norm_ (a' := ?_) ?_ ?_
          rotate_left
          ·
           show Act.put _ (some 41) _ = _
           exact Goto.ap
          refine one_ (i := 5) (N := some 44) (Goto.bs 45 63) rfl rfl (one_of HT_.out (by kernel_rfl)) (by decide) (fun K hK => ?_)
          refine goes_ Try.func18 (by kernel_rfl) rfl #[.agg #[.int .i64 a0_0, .int .u64 a0_1], .agg #[.int .i64 a2_0, .int .u64 a2_1]] (by rfl) rfl rfl (by (try simp only [List.map_toArray, List.map_cons, List.map_nil]); first | done | rfl | (simp only [List.length_drop, List.length_take]; rfl)) ?_
          with_reducible refine (label_Leq.calls a0_0 a0_1 a2_0 a2_1 true _ A98.out).mono ?_
          rintro e w125 ⟨rfl, hb⟩
          refine ⟨_, rfl, ?_⟩
          replace BK139 := Goto.bb BK139 hb; replace BK140 := Goto.bb BK140 hb; replace BK141 := Goto.bb BK141 hb; replace BK147 := Goto.bb BK147 hb; replace BK148 := Goto.bb BK148 hb; replace HB := Goto.hs HB hb
          (try clear hb)
          (try clear hb2)
          (try clear hk)
          (try clear hi)
          refine hK.out _ _ ⟨(blk_cell BK147.out 0).trans rfl, (blk_cell BK147.out 1).trans rfl, (blk_cell BK141.out 0).trans rfl, (blk_cell BK141.out 1).trans rfl, (blk_cell BK139.out 0).trans rfl, (blk_cell BK139.out 1).trans rfl, (blk_cell BK140.out 0).trans rfl, (blk_cell BK140.out 1).trans rfl, (blk_cell BK148.out 0).trans rfl, (blk_cell BK148.out 1).trans rfl⟩ (fun hHeld => ?_)
          clear hK K
          refine norm_ (a' := ?_) ?_ ?_
          rotate_left
          ·
           show Act.put _ (some 44) _ = _
           exact Goto.ap
          refine pure_ (i := 6) (N := some 45) (v := ?_) (a' := ?_) (Goto.bs 45 127) rfl rfl (any_of HT_.out (by kernel_rfl)) (fun _ _ _ h => h) (Or.inl ⟨by rfl, ?_⟩) ?_ ?_
          rotate_left
          ·
           intro w'
           go_simp
           with_reducible rfl
          rotate_left
          ·
           exact Goto.ap
          refine take_ (i := 7) (N := some 46) (v := ?_) (a' := ?_) (Goto.bs 45 255) rfl rfl (take_ofW HT_.out HW_.out (by kernel_rfl)) (fun _ _ _ h => h) (Or.inl ⟨by rfl, ?_⟩) hHeld ?_ ?_
          rotate_left
          ·
           rintro w' ⟨s0, s1, s2, s3, s4, s5, s6, s7, s8, s9⟩
           go_simp
           with_reducible rfl
          rotate_left
          ·
           exact Goto.ap
          refine take_ (i := 8) (N := some 47) (v := ?_) (a' := ?_) (Goto.bs 45 511) rfl rfl (take_ofW HT_.out HW_.out (by kernel_rfl)) (fun _ _ _ h => h) (Or.inl ⟨by rfl, ?_⟩) hHeld ?_ ?_
          rotate_left
          ·
           rintro w' ⟨s0, s1, s2, s3, s4, s5, s6, s7, s8, s9⟩
           go_simp
           with_reducible rfl
          rotate_left
          ·
           exact Goto.ap
          refine one_ (i := 9) (N := some 48) (Goto.bs 45 1023) rfl rfl (one_of HT_.out (by kernel_rfl)) (by decide) (fun K hK => ?_)
          refine goes_ Try.func18 (by kernel_rfl) rfl #[.agg #[.int .i64 a1_0, .int .u64 a1_1], .agg #[.int .i64 a2_0, .int .u64 a2_1]] (by rfl) rfl rfl (by (try simp only [List.map_toArray, List.map_cons, List.map_nil]); first | done | rfl | (simp only [List.length_drop, List.length_take]; rfl)) ?_
          with_reducible refine (label_Leq.calls a1_0 a1_1 a2_0 a2_1 t155 _ A100.out).mono ?_
          rintro e w126 ⟨rfl, hb⟩
          refine ⟨_, rfl, ?_⟩
          replace BK139 := Goto.bb BK139 hb; replace BK140 := Goto.bb BK140 hb; replace BK141 := Goto.bb BK141 hb; replace BK147 := Goto.bb BK147 hb; replace BK148 := Goto.bb BK148 hb; replace HB := Goto.hs HB hb
          (try clear hb)
          (try clear hb2)
          (try clear hk)
          (try clear hi)
          refine hK.out _ _ ⟨(blk_cell BK147.out 0).trans rfl, (blk_cell BK147.out 1).trans rfl, (blk_cell BK141.out 0).trans rfl, (blk_cell BK141.out 1).trans rfl, (blk_cell BK139.out 0).trans rfl, (blk_cell BK139.out 1).trans rfl, (blk_cell BK140.out 0).trans rfl, (blk_cell BK140.out 1).trans rfl, (blk_cell BK148.out 0).trans rfl, (blk_cell BK148.out 1).trans rfl⟩ (fun hHeld => ?_)
          clear hK K
          refine norm_ (a' := ?_) ?_ ?_
          rotate_left
          ·
           show Act.put _ (some 48) _ = _
           exact Goto.ap
          refine pure_ (i := 10) (N := some 49) (v := ?_) (a' := ?_) (Goto.bs 45 2047) rfl rfl (any_of HT_.out (by kernel_rfl)) (fun _ _ _ h => h) (Or.inl ⟨by rfl, ?_⟩) ?_ ?_
          rotate_left
          ·
           intro w'
           go_simp
           with_reducible rfl
          rotate_left
          ·
           exact Goto.ap
          refine pure_ (i := 11) (N := some 50) (v := ?_) (a' := ?_) (Goto.bs 45 4095) rfl rfl (any_of HT_.out (by kernel_rfl)) (fun _ _ _ h => h) (Or.inl ⟨by rfl, ?_⟩) ?_ ?_
          rotate_left
          ·
           intro w'
           go_simp
           with_reducible rfl
          rotate_left
          ·
           exact Goto.ap
          refine pure_ (i := 12) (N := some 51) (v := ?_) (a' := ?_) (Goto.bs 45 8191) rfl rfl (any_of HT_.out (by kernel_rfl)) (fun _ _ _ h => h) (Or.inl ⟨by rfl, ?_⟩) ?_ ?_
          rotate_left
          ·
           intro w'
           go_simp
           with_reducible rfl
          rotate_left
          ·
           exact Goto.ap
          refine take_ (i := 13) (N := some 52) (v := ?_) (a' := ?_) (Goto.bs 45 16383) rfl rfl (take_ofW HT_.out HW_.out (by kernel_rfl)) (fun _ _ _ h => h) (Or.inl ⟨by rfl, ?_⟩) hHeld ?_ ?_
          rotate_left
          ·
           rintro w' ⟨s0, s1, s2, s3, s4, s5, s6, s7, s8, s9⟩
           go_simp
           with_reducible rfl
          rotate_left
          ·
           exact Goto.ap
          refine take_ (i := 14) (N := some 53) (v := ?_) (a' := ?_) (Goto.bs 45 32767) rfl rfl (take_ofW HT_.out HW_.out (by kernel_rfl)) (fun _ _ _ h => h) (Or.inl ⟨by rfl, ?_⟩) hHeld ?_ ?_
          rotate_left
          ·
           rintro w' ⟨s0, s1, s2, s3, s4, s5, s6, s7, s8, s9⟩
           go_simp
           with_reducible rfl
          rotate_left
          ·
           exact Goto.ap
          refine take_ (i := 16) (N := some 55) (v := ?_) (a' := ?_) (Goto.bs 45 98303) rfl rfl (take_ofW HT_.out HW_.out (by kernel_rfl)) (fun _ _ _ h => h) (Or.inl ⟨by rfl, ?_⟩) hHeld ?_ ?_
          rotate_left
          ·
           rintro w' ⟨s0, s1, s2, s3, s4, s5, s6, s7, s8, s9⟩
           go_simp
           with_reducible rfl
          rotate_left
          ·
           exact Goto.ap
          refine take_ (i := 17) (N := some 56) (v := ?_) (a' := ?_) (Goto.bs 45 229375) rfl rfl (take_ofW HT_.out HW_.out (by kernel_rfl)) (fun _ _ _ h => h) (Or.inl ⟨by rfl, ?_⟩) hHeld ?_ ?_
          rotate_left
          ·
           rintro w' ⟨s0, s1, s2, s3, s4, s5, s6, s7, s8, s9⟩
           go_simp
           with_reducible rfl
          rotate_left
          ·
           exact Goto.ap
          refine one_ (i := 15) (N := some 54) (Goto.bs 45 262143) rfl rfl (one_of HT_.out (by kernel_rfl)) (by decide) (fun K hK => ?_)
          refine goes_ Try.func18 (by kernel_rfl) rfl #[.agg #[.int .i64 a2_0, .int .u64 a2_1], .agg #[.int .i64 t145, .int .u64 t146]] (by rfl) rfl rfl (by (try simp only [List.map_toArray, List.map_cons, List.map_nil]); first | done | rfl | (simp only [List.length_drop, List.length_take]; rfl)) ?_
          with_reducible refine (label_Leq.calls a2_0 a2_1 t145 t146 t156 _ A102.out).mono ?_
          rintro e w127 ⟨rfl, hb⟩
          refine ⟨_, rfl, ?_⟩
          replace BK139 := Goto.bb BK139 hb; replace BK140 := Goto.bb BK140 hb; replace BK141 := Goto.bb BK141 hb; replace BK147 := Goto.bb BK147 hb; replace BK148 := Goto.bb BK148 hb; replace HB := Goto.hs HB hb
          (try clear hb)
          (try clear hb2)
          (try clear hk)
          (try clear hi)
          refine hK.out _ _ ⟨(blk_cell BK147.out 0).trans rfl, (blk_cell BK147.out 1).trans rfl, (blk_cell BK141.out 0).trans rfl, (blk_cell BK141.out 1).trans rfl, (blk_cell BK139.out 0).trans rfl, (blk_cell BK139.out 1).trans rfl, (blk_cell BK140.out 0).trans rfl, (blk_cell BK140.out 1).trans rfl, (blk_cell BK148.out 0).trans rfl, (blk_cell BK148.out 1).trans rfl⟩ (fun hHeld => ?_)
          clear hK K
          refine norm_ (a' := ?_) ?_ ?_
          rotate_left
          ·
           show Act.put _ (some 54) _ = _
           exact Goto.ap
          refine one_ (i := 18) (N := some 57) (Goto.bs 45 524287) rfl rfl (one_of HT_.out (by kernel_rfl)) (by decide) (fun K hK => ?_)
          refine goes_ Try.func18 (by kernel_rfl) rfl #[.agg #[.int .i64 a2_0, .int .u64 a2_1], .agg #[.int .i64 a0_0, .int .u64 a0_1]] (by rfl) rfl rfl (by (try simp only [List.map_toArray, List.map_cons, List.map_nil]); first | done | rfl | (simp only [List.length_drop, List.length_take]; rfl)) ?_
          with_reducible refine (label_Leq.calls a2_0 a2_1 a0_0 a0_1 false _ A103.out).mono ?_
          rintro e w128 ⟨rfl, hb⟩
          refine ⟨_, rfl, ?_⟩
          replace BK139 := Goto.bb BK139 hb; replace BK140 := Goto.bb BK140 hb; replace BK141 := Goto.bb BK141 hb; replace BK147 := Goto.bb BK147 hb; replace BK148 := Goto.bb BK148 hb; replace HB := Goto.hs HB hb
          (try clear hb)
          (try clear hb2)
          (try clear hk)
          (try clear hi)
          refine hK.out _ _ ⟨(blk_cell BK147.out 0).trans rfl, (blk_cell BK147.out 1).trans rfl, (blk_cell BK141.out 0).trans rfl, (blk_cell BK141.out 1).trans rfl, (blk_cell BK139.out 0).trans rfl, (blk_cell BK139.out 1).trans rfl, (blk_cell BK140.out 0).trans rfl, (blk_cell BK140.out 1).trans rfl, (blk_cell BK148.out 0).trans rfl, (blk_cell BK148.out 1).trans rfl⟩ (fun hHeld => ?_)
          clear hK K
          refine norm_ (a' := ?_) ?_ ?_
          rotate_left
          ·
           show Act.put _ (some 57) _ = _
           exact Goto.ap
          refine pure_ (i := 19) (N := some 58) (v := ?_) (a' := ?_) (Goto.bs 45 1048575) rfl rfl (any_of HT_.out (by kernel_rfl)) (fun _ _ _ h => h) (Or.inl ⟨by rfl, ?_⟩) ?_ ?_
          rotate_left
          ·
           intro w'
           go_simp
           with_reducible rfl
          rotate_left
          ·
           exact Goto.ap
          refine pure_ (i := 20) (N := some 59) (v := undef) (a' := ?_) (Goto.bs 45 2097151) rfl rfl (any_of HT_.out (by kernel_rfl)) (fun _ _ _ h => h) (Or.inr ⟨by rfl, rfl⟩) ?_ ?_
          rotate_left
          ·
           exact Goto.ap
          refine pure_ (i := 21) (N := some 60) (v := undef) (a' := ?_) (Goto.bs 45 4194303) rfl rfl (any_of HT_.out (by kernel_rfl)) (fun _ _ _ h => h) (Or.inr ⟨by rfl, rfl⟩) ?_ ?_
          rotate_left
          ·
           exact Goto.ap
          refine pure_ (i := 22) (N := some 61) (v := undef) (a' := ?_) (Goto.bs 45 8388607) rfl rfl (any_of HT_.out (by kernel_rfl)) (fun _ _ _ h => h) (Or.inr ⟨by rfl, rfl⟩) ?_ ?_
          rotate_left
          ·
           exact Goto.ap
          refine pure_ (i := 23) (N := some 62) (v := ?_) (a' := ?_) (Goto.bs 45 16777215) rfl rfl (any_of HT_.out (by kernel_rfl)) (fun _ _ _ h => h) (Or.inl ⟨by rfl, ?_⟩) ?_ ?_
          rotate_left
          ·
           intro w'
           go_simp
           with_reducible rfl
          rotate_left
          ·
           exact Goto.ap
          refine pure_ (i := 24) (N := some 63) (v := ?_) (a' := ?_) (Goto.bs 45 33554431) rfl rfl (any_of HT_.out (by kernel_rfl)) (fun _ _ _ h => h) (Or.inl ⟨by rfl, ?_⟩) ?_ ?_
          rotate_left
          ·
           intro w'
           go_simp
           with_reducible rfl
          rotate_left
          ·
           exact Goto.ap
          refine pure_ (i := 25) (N := some 64) (v := ?_) (a' := ?_) (Goto.bs 45 67108863) rfl rfl (any_of HT_.out (by kernel_rfl)) (fun _ _ _ h => h) (Or.inl ⟨by rfl, ?_⟩) ?_ ?_
          rotate_left
          ·
           intro w'
           go_simp
           with_reducible rfl
          rotate_left
          ·
           exact Goto.ap
          refine pure_ (i := 26) (N := some 65) (v := ?_) (a' := ?_) (Goto.bs 45 134217727) rfl rfl (any_of HT_.out (by kernel_rfl)) (fun _ _ _ h => h) (Or.inl ⟨by rfl, ?_⟩) ?_ ?_
          rotate_left
          ·
           intro w'
           go_simp
           with_reducible rfl
          rotate_left
          ·
           exact Goto.ap
          refine take_ (i := 27) (N := some 66) (v := ?_) (a' := ?_) (Goto.bs 45 268435455) rfl rfl (take_ofW HT_.out HW_.out (by kernel_rfl)) (fun _ _ _ h => h) (Or.inl ⟨by rfl, ?_⟩) hHeld ?_ ?_
          rotate_left
          ·
           rintro w' ⟨s0, s1, s2, s3, s4, s5, s6, s7, s8, s9⟩
           go_simp
           with_reducible rfl
          rotate_left
          ·
           exact Goto.ap
          refine take_ (i := 28) (N := some 67) (v := ?_) (a' := ?_) (Goto.bs 45 536870911) rfl rfl (take_ofW HT_.out HW_.out (by kernel_rfl)) (fun _ _ _ h => h) (Or.inl ⟨by rfl, ?_⟩) hHeld ?_ ?_
          rotate_left
          ·
           rintro w' ⟨s0, s1, s2, s3, s4, s5, s6, s7, s8, s9⟩
           go_simp
           with_reducible rfl
          rotate_left
          ·
           exact Goto.ap
          refine take_ (i := 30) (N := some 69) (v := ?_) (a' := ?_) (Goto.bs 45 1610612735) rfl rfl (take_ofW HT_.out HW_.out (by kernel_rfl)) (fun _ _ _ h => h) (Or.inl ⟨by rfl, ?_⟩) hHeld ?_ ?_
          rotate_left
          ·
           rintro w' ⟨s0, s1, s2, s3, s4, s5, s6, s7, s8, s9⟩
           go_simp
           with_reducible rfl
          rotate_left
          ·
           exact Goto.ap
          refine take_ (i := 31) (N := some 70) (v := ?_) (a' := ?_) (Goto.bs 45 3758096383) rfl rfl (take_ofW HT_.out HW_.out (by kernel_rfl)) (fun _ _ _ h => h) (Or.inl ⟨by rfl, ?_⟩) hHeld ?_ ?_
          rotate_left
          ·
           rintro w' ⟨s0, s1, s2, s3, s4, s5, s6, s7, s8, s9⟩
           go_simp
           with_reducible rfl
          rotate_left
          ·
           exact Goto.ap
          refine pure_ (i := 32) (N := some 71) (v := ?_) (a' := ?_) (Goto.bs 45 8053063679) rfl rfl (any_of HT_.out (by kernel_rfl)) (fun _ _ _ h => h) (Or.inl ⟨by rfl, ?_⟩) ?_ ?_
          rotate_left
          ·
           intro w'
           go_simp
           with_reducible rfl
          rotate_left
          ·
           exact Goto.ap
          refine one_ (i := 29) (N := some 68) (Goto.bs 45 8589934591) rfl rfl (one_of HT_.out (by kernel_rfl)) (by decide) (fun K hK => ?_)
          refine goes_ Try.func18 (by kernel_rfl) rfl #[.agg #[.int .i64 a0_0, .int .u64 a0_1], .agg #[.int .i64 a1_0, .int .u64 a1_1]] (by rfl) rfl rfl (by (try simp only [List.map_toArray, List.map_cons, List.map_nil]); first | done | rfl | (simp only [List.length_drop, List.length_take]; rfl)) ?_
          with_reducible refine (label_Leq.calls a0_0 a0_1 a1_0 a1_1 t161 _ A120.out).mono ?_
          rintro e w129 ⟨rfl, hb⟩
          refine ⟨_, rfl, ?_⟩
          replace BK139 := Goto.bb BK139 hb; replace BK140 := Goto.bb BK140 hb; replace BK141 := Goto.bb BK141 hb; replace BK147 := Goto.bb BK147 hb; replace BK148 := Goto.bb BK148 hb; replace HB := Goto.hs HB hb
          (try clear hb)
          (try clear hb2)
          (try clear hk)
          (try clear hi)
          refine hK.out _ _ ⟨(blk_cell BK147.out 0).trans rfl, (blk_cell BK147.out 1).trans rfl, (blk_cell BK141.out 0).trans rfl, (blk_cell BK141.out 1).trans rfl, (blk_cell BK139.out 0).trans rfl, (blk_cell BK139.out 1).trans rfl, (blk_cell BK140.out 0).trans rfl, (blk_cell BK140.out 1).trans rfl, (blk_cell BK148.out 0).trans rfl, (blk_cell BK148.out 1).trans rfl⟩ (fun hHeld => ?_)
          clear hK K
          refine norm_ (a' := ?_) ?_ ?_
          rotate_left
          ·
           show Act.put _ (some 68) _ = _
           exact Goto.ap
          refine pure_ (i := 33) (N := some 72) (v := ?_) (a' := ?_) (Goto.bs 45 17179869183) rfl rfl (any_of HT_.out (by kernel_rfl)) (fun _ _ _ h => h) (Or.inl ⟨by rfl, ?_⟩) ?_ ?_
          rotate_left
          ·
           intro w'
           go_simp
           with_reducible rfl
          rotate_left
          ·
           exact Goto.ap
          refine pure_ (i := 34) (N := some 73) (v := ?_) (a' := ?_) (Goto.bs 45 34359738367) rfl rfl (any_of HT_.out (by kernel_rfl)) (fun _ _ _ h => h) (Or.inl ⟨by rfl, ?_⟩) ?_ ?_
          rotate_left
          ·
           intro w'
           go_simp
           with_reducible rfl
          rotate_left
          ·
           exact Goto.ap
          refine pure_ (i := 35) (N := some 74) (v := ?_) (a' := ?_) (Goto.bs 45 68719476735) rfl rfl (any_of HT_.out (by kernel_rfl)) (fun _ _ _ h => h) (Or.inl ⟨by rfl, ?_⟩) ?_ ?_
          rotate_left
          ·
           intro w'
           go_simp
           with_reducible rfl
          rotate_left
          ·
           exact Goto.ap
          refine take_ (i := 36) (N := some 75) (v := ?_) (a' := ?_) (Goto.bs 45 137438953471) rfl rfl (take_ofW HT_.out HW_.out (by kernel_rfl)) (fun _ _ _ h => h) (Or.inl ⟨by rfl, ?_⟩) hHeld ?_ ?_
          rotate_left
          ·
           rintro w' ⟨s0, s1, s2, s3, s4, s5, s6, s7, s8, s9⟩
           go_simp
           with_reducible rfl
          rotate_left
          ·
           exact Goto.ap
          refine take_ (i := 37) (N := some 76) (v := ?_) (a' := ?_) (Goto.bs 45 274877906943) rfl rfl (take_ofW HT_.out HW_.out (by kernel_rfl)) (fun _ _ _ h => h) (Or.inl ⟨by rfl, ?_⟩) hHeld ?_ ?_
          rotate_left
          ·
           rintro w' ⟨s0, s1, s2, s3, s4, s5, s6, s7, s8, s9⟩
           go_simp
           with_reducible rfl
          rotate_left
          ·
           exact Goto.ap
          refine take_ (i := 39) (N := some 78) (v := ?_) (a' := ?_) (Goto.bs 45 824633720831) rfl rfl (take_ofW HT_.out HW_.out (by kernel_rfl)) (fun _ _ _ h => h) (Or.inl ⟨by rfl, ?_⟩) hHeld ?_ ?_
          rotate_left
          ·
           rintro w' ⟨s0, s1, s2, s3, s4, s5, s6, s7, s8, s9⟩
           go_simp
           with_reducible rfl
          rotate_left
          ·
           exact Goto.ap
          refine take_ (i := 40) (N := some 79) (v := ?_) (a' := ?_) (Goto.bs 45 1924145348607) rfl rfl (take_ofW HT_.out HW_.out (by kernel_rfl)) (fun _ _ _ h => h) (Or.inl ⟨by rfl, ?_⟩) hHeld ?_ ?_
          rotate_left
          ·
           rintro w' ⟨s0, s1, s2, s3, s4, s5, s6, s7, s8, s9⟩
           go_simp
           with_reducible rfl
          rotate_left
          ·
           exact Goto.ap
          refine pure_ (i := 41) (N := some 80) (v := ?_) (a' := ?_) (Goto.bs 45 4123168604159) rfl rfl (any_of HT_.out (by kernel_rfl)) (fun _ _ _ h => h) (Or.inl ⟨by rfl, ?_⟩) ?_ ?_
          rotate_left
          ·
           intro w'
           go_simp
           with_reducible rfl
          rotate_left
          ·
           exact Goto.ap
          refine one_ (i := 38) (N := some 77) (Goto.bs 45 4398046511103) rfl rfl (one_of HT_.out (by kernel_rfl)) (by decide) (fun K hK => ?_)
          refine goes_ Try.func18 (by kernel_rfl) rfl #[.agg #[.int .i64 a0_0, .int .u64 a0_1], .agg #[.int .i64 a1_0, .int .u64 a1_1]] (by rfl) rfl rfl (by (try simp only [List.map_toArray, List.map_cons, List.map_nil]); first | done | rfl | (simp only [List.length_drop, List.length_take]; rfl)) ?_
          with_reducible refine (label_Leq.calls a0_0 a0_1 a1_0 a1_1 t162 _ A122.out).mono ?_
          rintro e w130 ⟨rfl, hb⟩
          refine ⟨_, rfl, ?_⟩
          replace BK139 := Goto.bb BK139 hb; replace BK140 := Goto.bb BK140 hb; replace BK141 := Goto.bb BK141 hb; replace BK147 := Goto.bb BK147 hb; replace BK148 := Goto.bb BK148 hb; replace HB := Goto.hs HB hb
          (try clear hb)
          (try clear hb2)
          (try clear hk)
          (try clear hi)
          refine hK.out _ _ ⟨(blk_cell BK147.out 0).trans rfl, (blk_cell BK147.out 1).trans rfl, (blk_cell BK141.out 0).trans rfl, (blk_cell BK141.out 1).trans rfl, (blk_cell BK139.out 0).trans rfl, (blk_cell BK139.out 1).trans rfl, (blk_cell BK140.out 0).trans rfl, (blk_cell BK140.out 1).trans rfl, (blk_cell BK148.out 0).trans rfl, (blk_cell BK148.out 1).trans rfl⟩ (fun hHeld => ?_)
          clear hK K
          refine norm_ (a' := ?_) ?_ ?_
          rotate_left
          ·
           show Act.put _ (some 77) _ = _
           exact Goto.ap
          refine pure_ (i := 42) (N := some 81) (v := ?_) (a' := ?_) (Goto.bs 45 8796093022207) rfl rfl (any_of HT_.out (by kernel_rfl)) (fun _ _ _ h => h) (Or.inl ⟨by rfl, ?_⟩) ?_ ?_
          rotate_left
          ·
           intro w'
           go_simp
           with_reducible rfl
          rotate_left
          ·
           exact Goto.ap
          refine pure_ (i := 43) (N := some 82) (v := ?_) (a' := ?_) (Goto.bs 45 17592186044415) rfl rfl (any_of HT_.out (by kernel_rfl)) (fun _ _ _ h => h) (Or.inl ⟨by rfl, ?_⟩) ?_ ?_
          rotate_left
          ·
           intro w'
           go_simp
           with_reducible rfl
          rotate_left
          ·
           exact Goto.ap
          refine pure_ (i := 44) (N := some 6) (v := ?_) (a' := ?_) (Goto.bs 45 35184372088831) rfl rfl (any_of HT_.out (by kernel_rfl)) (fun _ _ _ h => h) (Or.inl ⟨by rfl, ?_⟩) ?_ ?_
          rotate_left
          ·
           intro w'
           go_simp
           with_reducible rfl
          rotate_left
          ·
           exact Goto.ap
          refine done_ (done_of HT_.out (by kernel_rfl)) ?_
          try go_wp2
          go_ret
          exact ⟨by first | rfl | (simp [errW_none, errW_some] <;> rfl) | (simp [*, errW_none, errW_some] <;> rfl), by repeat (first | (with_reducible first | exact HB.out | apply below_alloc | apply pw_below_drewN | apply below_drew1 | refine below_set ?_ GE139.out | refine below_set ?_ GE140.out | refine below_set ?_ GE141.out | refine below_set ?_ GE147.out | refine below_set ?_ GE148.out) | exact HB.out)⟩
         ·
          rw [if_neg c121] at H
          have c121b0 : (t161 == (t143 == a1_0 && (t144 == a1_1))) = false := by simpa using c121
          (try (have c121b1 : decide (t161 = (t143 == a1_0 && (t144 == a1_1))) = false := by simpa using c121))
          (try (have c121b2 : (t161 == (t143 == a1_0 && (t144 == a1_1))) = false := by simpa using c121))
          (try (have c121b3 : ¬ (t161 = (t143 == a1_0 && (t144 == a1_1))) := by simpa using c121))
          clear c121
          exact absurd ((Option.some.inj H).trans HRT.out) (by decide)
        ·
         rw [if_neg c119] at H
         have c119b0 : (t156 == false) = false := by simpa using c119
         (try (have c119b1 : decide (t156 = false) = false := by simpa using c119))
         (try (have c119b2 : (t156 == false) = false := by simpa using c119))
         (try (have c119b3 : ¬ (t156 = false) := by simpa using c119))
         clear c119
         exact absurd ((Option.some.inj H).trans HRT.out) (by decide)
      ·
       rw [if_neg c101] at H
       have c101b0 : (t153 == t155) = false := by simpa using c101
       (try (have c101b1 : decide (t153 = t155) = false := by simpa using c101))
       (try (have c101b2 : (t153 == t155) = false := by simpa using c101))
       (try (have c101b3 : ¬ (t153 = t155) := by simpa using c101))
       clear c101
       exact absurd ((Option.some.inj H).trans HRT.out) (by decide)
     ·
      replace c99 := Bool.eq_false_iff.mpr c99
      subst c99
      rw [if_neg (show ¬ (false = true) by decide)] at H
      by_cases c131 : (t153 == false) = true
      ·
       rw [if_pos c131] at H
       have c131b0 : (t153 == false) = true := c131
       (try (have c131b1 : decide (t153 = false) = true := by simpa using c131))
       (try (have c131b2 : (t153 == false) = true := by simpa using c131))
       clear c131
       replace H := Option.bind_eq_some_iff.mp H
       obtain ⟨t163, A1320, H⟩ := H
       have A132 := Goto.m0 A1320
       clear A1320
       replace H := Option.bind_eq_some_iff.mp H
       obtain ⟨t164, A1330, H⟩ := H
       have A133 := Goto.m0 A1330
       clear A1330
       by_cases c134 : t164 = true
       ·
        subst c134
        rw [if_pos rfl] at H
        replace H := Option.bind_eq_some_iff.mp H
        obtain ⟨t165, A1350, H⟩ := H
        have A135 := Goto.m0 A1350
        clear A1350
        by_cases c136 : (t163 == t165) = true
        ·
         rw [if_pos c136] at H
         have c136b0 : (t163 == t165) = true := c136
         (try (have c136b1 : decide (t163 = t165) = true := by simpa using c136))
         (try (have c136b2 : (t163 == t165) = true := by simpa using c136))
         clear c136
         replace H := Option.bind_eq_some_iff.mp H
         obtain ⟨t166, A1370, H⟩ := H
         have A137 := Goto.m0 A1370
         clear A1370
         by_cases c138 : (t166 == (t143 == a1_0 && (t144 == a1_1))) = true
         ·
          rw [if_pos c138] at H
          have c138b0 : (t166 == (t143 == a1_0 && (t144 == a1_1))) = true := c138
          (try (have c138b1 : decide (t166 = (t143 == a1_0 && (t144 == a1_1))) = true := by simpa using c138))
          (try (have c138b2 : (t166 == (t143 == a1_0 && (t144 == a1_1))) = true := by simpa using c138))
          clear c138
          replace H := Option.bind_eq_some_iff.mp H
          obtain ⟨t167, A1390, H⟩ := H
          have A139 := Goto.m0 A1390
          clear A1390
          obtain rfl := Option.some.inj H
          try go_wp2
          replace BK139 := Goto.m0 (blk_drew BK139.out); replace BK140 := Goto.m0 (blk_drew BK140.out); replace BK141 := Goto.m0 (blk_drew BK141.out); replace BK147 := Goto.m0 (blk_drew BK147.out); replace BK148 := Goto.m0 (blk_drew BK148.out); replace HB := Goto.m0 (below_drew1 HB.out)
          refine start_ (n := 45) (S := fun w' => w'.cell? ⟨gb147, 0, none⟩ = some (.int .i64 t143) ∧ w'.cell? ⟨gb147, 1, none⟩ = some (.int .u64 t144) ∧ w'.cell? ⟨gb141, 0, none⟩ = some (.int .i64 a2_0) ∧ w'.cell? ⟨gb141, 1, none⟩ = some (.int .u64 a2_1) ∧ w'.cell? ⟨gb139, 0, none⟩ = some (.int .i64 a0_0) ∧ w'.cell? ⟨gb139, 1, none⟩ = some (.int .u64 a0_1) ∧ w'.cell? ⟨gb148, 0, none⟩ = some (.int .i64 t145) ∧ w'.cell? ⟨gb148, 1, none⟩ = some (.int .u64 t146) ∧ w'.cell? ⟨gb140, 0, none⟩ = some (.int .i64 a1_0) ∧ w'.cell? ⟨gb140, 1, none⟩ = some (.int .u64 a1_1)) (ds := []) (.replicate 45 false) (by kernel_rfl) rfl rfl ⟨(blk_cell BK147.out 0).trans rfl, (blk_cell BK147.out 1).trans rfl, (blk_cell BK141.out 0).trans rfl, (blk_cell BK141.out 1).trans rfl, (blk_cell BK139.out 0).trans rfl, (blk_cell BK139.out 1).trans rfl, (blk_cell BK148.out 0).trans rfl, (blk_cell BK148.out 1).trans rfl, (blk_cell BK140.out 0).trans rfl, (blk_cell BK140.out 1).trans rfl⟩ (fun hHeld => ?_); refine with_tabW tontinelaw1_LabelBounds.tab6 tontinelaw1_LabelBounds.bits6 (fun HT_ HW_ => ?_)
          generalize wc.drew = w140 at BK139 BK140 BK141 BK147 BK148 HB hHeld ⊢
          refine take_ (i := 0) (N := some 39) (v := ?_) (a' := ?_) (Goto.bs 45 1) rfl rfl (take_ofW HT_.out HW_.out (by kernel_rfl)) (fun _ _ _ h => h) (Or.inl ⟨by rfl, ?_⟩) hHeld ?_ ?_
          rotate_left
          ·
           rintro w' ⟨s0, s1, s2, s3, s4, s5, s6, s7, s8, s9⟩
           go_simp
           with_reducible rfl
          rotate_left
          ·
           exact Goto.ap
          refine take_ (i := 1) (N := some 40) (v := ?_) (a' := ?_) (Goto.bs 45 3) rfl rfl (take_ofW HT_.out HW_.out (by kernel_rfl)) (fun _ _ _ h => h) (Or.inl ⟨by rfl, ?_⟩) hHeld ?_ ?_
          rotate_left
          ·
           rintro w' ⟨s0, s1, s2, s3, s4, s5, s6, s7, s8, s9⟩
           go_simp
           with_reducible rfl
          rotate_left
          ·
           exact Goto.ap
          refine take_ (i := 3) (N := some 42) (v := ?_) (a' := ?_) (Goto.bs 45 11) rfl rfl (take_ofW HT_.out HW_.out (by kernel_rfl)) (fun _ _ _ h => h) (Or.inl ⟨by rfl, ?_⟩) hHeld ?_ ?_
          rotate_left
          ·
           rintro w' ⟨s0, s1, s2, s3, s4, s5, s6, s7, s8, s9⟩
           go_simp
           with_reducible rfl
          rotate_left
          ·
           exact Goto.ap
          refine take_ (i := 4) (N := some 43) (v := ?_) (a' := ?_) (Goto.bs 45 27) rfl rfl (take_ofW HT_.out HW_.out (by kernel_rfl)) (fun _ _ _ h => h) (Or.inl ⟨by rfl, ?_⟩) hHeld ?_ ?_
          rotate_left
          ·
           rintro w' ⟨s0, s1, s2, s3, s4, s5, s6, s7, s8, s9⟩
           go_simp
           with_reducible rfl
          rotate_left
          ·
           exact Goto.ap
          refine one_ (i := 2) (N := some 41) (Goto.bs 45 31) rfl rfl (one_of HT_.out (by kernel_rfl)) (by decide) (fun K hK => ?_)
          refine goes_ Try.func18 (by kernel_rfl) rfl #[.agg #[.int .i64 t143, .int .u64 t144], .agg #[.int .i64 a2_0, .int .u64 a2_1]] (by rfl) rfl rfl (by (try simp only [List.map_toArray, List.map_cons, List.map_nil]); first | done | rfl | (simp only [List.length_drop, List.length_take]; rfl)) ?_
          with_reducible refine (label_Leq.calls t143 t144 a2_0 a2_1 t153 _ A97.out).mono ?_
          rintro e w141 ⟨rfl, hb⟩
          refine ⟨_, rfl, ?_⟩
          replace BK139 := Goto.bb BK139 hb; replace BK140 := Goto.bb BK140 hb; replace BK141 := Goto.bb BK141 hb; replace BK147 := Goto.bb BK147 hb; replace BK148 := Goto.bb BK148 hb; replace HB := Goto.hs HB hb
          (try clear hb)
          (try clear hb2)
          (try clear hk)
          (try clear hi)
          refine hK.out _ _ ⟨(blk_cell BK147.out 0).trans rfl, (blk_cell BK147.out 1).trans rfl, (blk_cell BK141.out 0).trans rfl, (blk_cell BK141.out 1).trans rfl, (blk_cell BK139.out 0).trans rfl, (blk_cell BK139.out 1).trans rfl, (blk_cell BK148.out 0).trans rfl, (blk_cell BK148.out 1).trans rfl, (blk_cell BK140.out 0).trans rfl, (blk_cell BK140.out 1).trans rfl⟩ (fun hHeld => ?_)
          clear hK K
          refine norm_ (a' := ?_) ?_ ?_
          rotate_left
          ·
           show Act.put _ (some 41) _ = _
           exact Goto.ap
          refine one_ (i := 5) (N := some 44) (Goto.bs 45 63) rfl rfl (one_of HT_.out (by kernel_rfl)) (by decide) (fun K hK => ?_)
          refine goes_ Try.func18 (by kernel_rfl) rfl #[.agg #[.int .i64 a0_0, .int .u64 a0_1], .agg #[.int .i64 a2_0, .int .u64 a2_1]] (by rfl) rfl rfl (by (try simp only [List.map_toArray, List.map_cons, List.map_nil]); first | done | rfl | (simp only [List.length_drop, List.length_take]; rfl)) ?_
          with_reducible refine (label_Leq.calls a0_0 a0_1 a2_0 a2_1 false _ A98.out).mono ?_
          rintro e w142 ⟨rfl, hb⟩
          refine ⟨_, rfl, ?_⟩
          replace BK139 := Goto.bb BK139 hb; replace BK140 := Goto.bb BK140 hb; replace BK141 := Goto.bb BK141 hb; replace BK147 := Goto.bb BK147 hb; replace BK148 := Goto.bb BK148 hb; replace HB := Goto.hs HB hb
          (try clear hb)
          (try clear hb2)
          (try clear hk)
          (try clear hi)
          refine hK.out _ _ ⟨(blk_cell BK147.out 0).trans rfl, (blk_cell BK147.out 1).trans rfl, (blk_cell BK141.out 0).trans rfl, (blk_cell BK141.out 1).trans rfl, (blk_cell BK139.out 0).trans rfl, (blk_cell BK139.out 1).trans rfl, (blk_cell BK148.out 0).trans rfl, (blk_cell BK148.out 1).trans rfl, (blk_cell BK140.out 0).trans rfl, (blk_cell BK140.out 1).trans rfl⟩ (fun hHeld => ?_)
          clear hK K
          refine norm_ (a' := ?_) ?_ ?_
          rotate_left
          ·
           show Act.put _ (some 44) _ = _
           exact Goto.ap
          refine pure_ (i := 6) (N := some 45) (v := ?_) (a' := ?_) (Goto.bs 45 127) rfl rfl (any_of HT_.out (by kernel_rfl)) (fun _ _ _ h => h) (Or.inl ⟨by rfl, ?_⟩) ?_ ?_
          rotate_left
          ·
           intro w'
           go_simp
           with_reducible rfl
          rotate_left
          ·
           exact Goto.ap
          refine pure_ (i := 7) (N := some 46) (v := undef) (a' := ?_) (Goto.bs 45 255) rfl rfl (any_of HT_.out (by kernel_rfl)) (fun _ _ _ h => h) (Or.inr ⟨by rfl, rfl⟩) ?_ ?_
          rotate_left
          ·
           exact Goto.ap
          refine pure_ (i := 8) (N := some 47) (v := undef) (a' := ?_) (Goto.bs 45 511) rfl rfl (any_of HT_.out (by kernel_rfl)) (fun _ _ _ h => h) (Or.inr ⟨by rfl, rfl⟩) ?_ ?_
          rotate_left
          ·
           exact Goto.ap
          refine pure_ (i := 9) (N := some 48) (v := undef) (a' := ?_) (Goto.bs 45 1023) rfl rfl (any_of HT_.out (by kernel_rfl)) (fun _ _ _ h => h) (Or.inr ⟨by rfl, rfl⟩) ?_ ?_
          rotate_left
          ·
           exact Goto.ap
          refine pure_ (i := 10) (N := some 49) (v := ?_) (a' := ?_) (Goto.bs 45 2047) rfl rfl (any_of HT_.out (by kernel_rfl)) (fun _ _ _ h => h) (Or.inl ⟨by rfl, ?_⟩) ?_ ?_
          rotate_left
          ·
           intro w'
           go_simp
           with_reducible rfl
          rotate_left
          ·
           exact Goto.ap
          refine pure_ (i := 11) (N := some 50) (v := ?_) (a' := ?_) (Goto.bs 45 4095) rfl rfl (any_of HT_.out (by kernel_rfl)) (fun _ _ _ h => h) (Or.inl ⟨by rfl, ?_⟩) ?_ ?_
          rotate_left
          ·
           intro w'
           go_simp
           with_reducible rfl
          rotate_left
          ·
           exact Goto.ap
          refine pure_ (i := 12) (N := some 51) (v := ?_) (a' := ?_) (Goto.bs 45 8191) rfl rfl (any_of HT_.out (by kernel_rfl)) (fun _ _ _ h => h) (Or.inl ⟨by rfl, ?_⟩) ?_ ?_
          rotate_left
          ·
           intro w'
           go_simp
           with_reducible rfl
          rotate_left
          ·
           exact Goto.ap
          refine take_ (i := 13) (N := some 52) (v := ?_) (a' := ?_) (Goto.bs 45 16383) rfl rfl (take_ofW HT_.out HW_.out (by kernel_rfl)) (fun _ _ _ h => h) (Or.inl ⟨by rfl, ?_⟩) hHeld ?_ ?_
          rotate_left
          ·
           rintro w' ⟨s0, s1, s2, s3, s4, s5, s6, s7, s8, s9⟩
           go_simp
           with_reducible rfl
          rotate_left
          ·
           exact Goto.ap
          refine take_ (i := 14) (N := some 53) (v := ?_) (a' := ?_) (Goto.bs 45 32767) rfl rfl (take_ofW HT_.out HW_.out (by kernel_rfl)) (fun _ _ _ h => h) (Or.inl ⟨by rfl, ?_⟩) hHeld ?_ ?_
          rotate_left
          ·
           rintro w' ⟨s0, s1, s2, s3, s4, s5, s6, s7, s8, s9⟩
           go_simp
           with_reducible rfl
          rotate_left
          ·
           exact Goto.ap
          refine take_ (i := 16) (N := some 55) (v := ?_) (a' := ?_) (Goto.bs 45 98303) rfl rfl (take_ofW HT_.out HW_.out (by kernel_rfl)) (fun _ _ _ h => h) (Or.inl ⟨by rfl, ?_⟩) hHeld ?_ ?_
          rotate_left
          ·
           rintro w' ⟨s0, s1, s2, s3, s4, s5, s6, s7, s8, s9⟩
           go_simp
           with_reducible rfl
          rotate_left
          ·
           exact Goto.ap
          refine take_ (i := 17) (N := some 56) (v := ?_) (a' := ?_) (Goto.bs 45 229375) rfl rfl (take_ofW HT_.out HW_.out (by kernel_rfl)) (fun _ _ _ h => h) (Or.inl ⟨by rfl, ?_⟩) hHeld ?_ ?_
          rotate_left
          ·
           rintro w' ⟨s0, s1, s2, s3, s4, s5, s6, s7, s8, s9⟩
           go_simp
           with_reducible rfl
          rotate_left
          ·
           exact Goto.ap
          refine one_ (i := 15) (N := some 54) (Goto.bs 45 262143) rfl rfl (one_of HT_.out (by kernel_rfl)) (by decide) (fun K hK => ?_)
          refine goes_ Try.func18 (by kernel_rfl) rfl #[.agg #[.int .i64 a2_0, .int .u64 a2_1], .agg #[.int .i64 t145, .int .u64 t146]] (by rfl) rfl rfl (by (try simp only [List.map_toArray, List.map_cons, List.map_nil]); first | done | rfl | (simp only [List.length_drop, List.length_take]; rfl)) ?_
          with_reducible refine (label_Leq.calls a2_0 a2_1 t145 t146 t163 _ A132.out).mono ?_
          rintro e w143 ⟨rfl, hb⟩
          refine ⟨_, rfl, ?_⟩
          replace BK139 := Goto.bb BK139 hb; replace BK140 := Goto.bb BK140 hb; replace BK141 := Goto.bb BK141 hb; replace BK147 := Goto.bb BK147 hb; replace BK148 := Goto.bb BK148 hb; replace HB := Goto.hs HB hb
          (try clear hb)
          (try clear hb2)
          (try clear hk)
          (try clear hi)
          refine hK.out _ _ ⟨(blk_cell BK147.out 0).trans rfl, (blk_cell BK147.out 1).trans rfl, (blk_cell BK141.out 0).trans rfl, (blk_cell BK141.out 1).trans rfl, (blk_cell BK139.out 0).trans rfl, (blk_cell BK139.out 1).trans rfl, (blk_cell BK148.out 0).trans rfl, (blk_cell BK148.out 1).trans rfl, (blk_cell BK140.out 0).trans rfl, (blk_cell BK140.out 1).trans rfl⟩ (fun hHeld => ?_)
          clear hK K
          refine norm_ (a' := ?_) ?_ ?_
          rotate_left
          ·
           show Act.put _ (some 54) _ = _
           exact Goto.ap
          refine one_ (i := 18) (N := some 57) (Goto.bs 45 524287) rfl rfl (one_of HT_.out (by kernel_rfl)) (by decide) (fun K hK => ?_)
          refine goes_ Try.func18 (by kernel_rfl) rfl #[.agg #[.int .i64 a2_0, .int .u64 a2_1], .agg #[.int .i64 a0_0, .int .u64 a0_1]] (by rfl) rfl rfl (by (try simp only [List.map_toArray, List.map_cons, List.map_nil]); first | done | rfl | (simp only [List.length_drop, List.length_take]; rfl)) ?_
          with_reducible refine (label_Leq.calls a2_0 a2_1 a0_0 a0_1 true _ A133.out).mono ?_
          rintro e w144 ⟨rfl, hb⟩
          refine ⟨_, rfl, ?_⟩
          replace BK139 := Goto.bb BK139 hb; replace BK140 := Goto.bb BK140 hb; replace BK141 := Goto.bb BK141 hb; replace BK147 := Goto.bb BK147 hb; replace BK148 := Goto.bb BK148 hb; replace HB := Goto.hs HB hb
          (try clear hb)
          (try clear hb2)
          (try clear hk)
          (try clear hi)
          refine hK.out _ _ ⟨(blk_cell BK147.out 0).trans rfl, (blk_cell BK147.out 1).trans rfl, (blk_cell BK141.out 0).trans rfl, (blk_cell BK141.out 1).trans rfl, (blk_cell BK139.out 0).trans rfl, (blk_cell BK139.out 1).trans rfl, (blk_cell BK148.out 0).trans rfl, (blk_cell BK148.out 1).trans rfl, (blk_cell BK140.out 0).trans rfl, (blk_cell BK140.out 1).trans rfl⟩ (fun hHeld => ?_)
          clear hK K
          refine norm_ (a' := ?_) ?_ ?_
          rotate_left
          ·
           show Act.put _ (some 57) _ = _
           exact Goto.ap
          refine pure_ (i := 19) (N := some 58) (v := ?_) (a' := ?_) (Goto.bs 45 1048575) rfl rfl (any_of HT_.out (by kernel_rfl)) (fun _ _ _ h => h) (Or.inl ⟨by rfl, ?_⟩) ?_ ?_
          rotate_left
          ·
           intro w'
           go_simp
           with_reducible rfl
          rotate_left
          ·
           exact Goto.ap
          refine take_ (i := 20) (N := some 59) (v := ?_) (a' := ?_) (Goto.bs 45 2097151) rfl rfl (take_ofW HT_.out HW_.out (by kernel_rfl)) (fun _ _ _ h => h) (Or.inl ⟨by rfl, ?_⟩) hHeld ?_ ?_
          rotate_left
          ·
           rintro w' ⟨s0, s1, s2, s3, s4, s5, s6, s7, s8, s9⟩
           go_simp
           with_reducible rfl
          rotate_left
          ·
           exact Goto.ap
          refine take_ (i := 21) (N := some 60) (v := ?_) (a' := ?_) (Goto.bs 45 4194303) rfl rfl (take_ofW HT_.out HW_.out (by kernel_rfl)) (fun _ _ _ h => h) (Or.inl ⟨by rfl, ?_⟩) hHeld ?_ ?_
          rotate_left
          ·
           rintro w' ⟨s0, s1, s2, s3, s4, s5, s6, s7, s8, s9⟩
           go_simp
           with_reducible rfl
          rotate_left
          ·
           exact Goto.ap
          refine one_ (i := 22) (N := some 61) (Goto.bs 45 8388607) rfl rfl (one_of HT_.out (by kernel_rfl)) (by decide) (fun K hK => ?_)
          refine goes_ Try.func18 (by kernel_rfl) rfl #[.agg #[.int .i64 a2_0, .int .u64 a2_1], .agg #[.int .i64 a1_0, .int .u64 a1_1]] (by rfl) rfl rfl (by (try simp only [List.map_toArray, List.map_cons, List.map_nil]); first | done | rfl | (simp only [List.length_drop, List.length_take]; rfl)) ?_
          with_reducible refine (label_Leq.calls a2_0 a2_1 a1_0 a1_1 t165 _ A135.out).mono ?_
          rintro e w145 ⟨rfl, hb⟩
          refine ⟨_, rfl, ?_⟩
          replace BK139 := Goto.bb BK139 hb; replace BK140 := Goto.bb BK140 hb; replace BK141 := Goto.bb BK141 hb; replace BK147 := Goto.bb BK147 hb; replace BK148 := Goto.bb BK148 hb; replace HB := Goto.hs HB hb
          (try clear hb)
          (try clear hb2)
          (try clear hk)
          (try clear hi)
          refine hK.out _ _ ⟨(blk_cell BK147.out 0).trans rfl, (blk_cell BK147.out 1).trans rfl, (blk_cell BK141.out 0).trans rfl, (blk_cell BK141.out 1).trans rfl, (blk_cell BK139.out 0).trans rfl, (blk_cell BK139.out 1).trans rfl, (blk_cell BK148.out 0).trans rfl, (blk_cell BK148.out 1).trans rfl, (blk_cell BK140.out 0).trans rfl, (blk_cell BK140.out 1).trans rfl⟩ (fun hHeld => ?_)
          clear hK K
          refine norm_ (a' := ?_) ?_ ?_
          rotate_left
          ·
           show Act.put _ (some 61) _ = _
           exact Goto.ap
          refine pure_ (i := 23) (N := some 62) (v := ?_) (a' := ?_) (Goto.bs 45 16777215) rfl rfl (any_of HT_.out (by kernel_rfl)) (fun _ _ _ h => h) (Or.inl ⟨by rfl, ?_⟩) ?_ ?_
          rotate_left
          ·
           intro w'
           go_simp
           with_reducible rfl
          rotate_left
          ·
           exact Goto.ap
          refine pure_ (i := 24) (N := some 63) (v := ?_) (a' := ?_) (Goto.bs 45 33554431) rfl rfl (any_of HT_.out (by kernel_rfl)) (fun _ _ _ h => h) (Or.inl ⟨by rfl, ?_⟩) ?_ ?_
          rotate_left
          ·
           intro w'
           go_simp
           with_reducible rfl
          rotate_left
          ·
           exact Goto.ap
          refine pure_ (i := 25) (N := some 64) (v := ?_) (a' := ?_) (Goto.bs 45 67108863) rfl rfl (any_of HT_.out (by kernel_rfl)) (fun _ _ _ h => h) (Or.inl ⟨by rfl, ?_⟩) ?_ ?_
          rotate_left
          ·
           intro w'
           go_simp
           with_reducible rfl
          rotate_left
          ·
           exact Goto.ap
          refine pure_ (i := 26) (N := some 65) (v := ?_) (a' := ?_) (Goto.bs 45 134217727) rfl rfl (any_of HT_.out (by kernel_rfl)) (fun _ _ _ h => h) (Or.inl ⟨by rfl, ?_⟩) ?_ ?_
          rotate_left
          ·
           intro w'
           go_simp
           with_reducible rfl
          rotate_left
          ·
           exact Goto.ap
          refine take_ (i := 27) (N := some 66) (v := ?_) (a' := ?_) (Goto.bs 45 268435455) rfl rfl (take_ofW HT_.out HW_.out (by kernel_rfl)) (fun _ _ _ h => h) (Or.inl ⟨by rfl, ?_⟩) hHeld ?_ ?_
          rotate_left
          ·
           rintro w' ⟨s0, s1, s2, s3, s4, s5, s6, s7, s8, s9⟩
           go_simp
           with_reducible rfl
          rotate_left
          ·
           exact Goto.ap
          refine take_ (i := 28) (N := some 67) (v := ?_) (a' := ?_) (Goto.bs 45 536870911) rfl rfl (take_ofW HT_.out HW_.out (by kernel_rfl)) (fun _ _ _ h => h) (Or.inl ⟨by rfl, ?_⟩) hHeld ?_ ?_
          rotate_left
          ·
           rintro w' ⟨s0, s1, s2, s3, s4, s5, s6, s7, s8, s9⟩
           go_simp
           with_reducible rfl
          rotate_left
          ·
           exact Goto.ap
          refine take_ (i := 30) (N := some 69) (v := ?_) (a' := ?_) (Goto.bs 45 1610612735) rfl rfl (take_ofW HT_.out HW_.out (by kernel_rfl)) (fun _ _ _ h => h) (Or.inl ⟨by rfl, ?_⟩) hHeld ?_ ?_
          rotate_left
          ·
           rintro w' ⟨s0, s1, s2, s3, s4, s5, s6, s7, s8, s9⟩
           go_simp
           with_reducible rfl
          rotate_left
          ·
           exact Goto.ap
          refine take_ (i := 31) (N := some 70) (v := ?_) (a' := ?_) (Goto.bs 45 3758096383) rfl rfl (take_ofW HT_.out HW_.out (by kernel_rfl)) (fun _ _ _ h => h) (Or.inl ⟨by rfl, ?_⟩) hHeld ?_ ?_
          rotate_left
          ·
           rintro w' ⟨s0, s1, s2, s3, s4, s5, s6, s7, s8, s9⟩
           go_simp
           with_reducible rfl
          rotate_left
          ·
           exact Goto.ap
          refine pure_ (i := 32) (N := some 71) (v := ?_) (a' := ?_) (Goto.bs 45 8053063679) rfl rfl (any_of HT_.out (by kernel_rfl)) (fun _ _ _ h => h) (Or.inl ⟨by rfl, ?_⟩) ?_ ?_
          rotate_left
          ·
           intro w'
           go_simp
           with_reducible rfl
          rotate_left
          ·
           exact Goto.ap
          refine one_ (i := 29) (N := some 68) (Goto.bs 45 8589934591) rfl rfl (one_of HT_.out (by kernel_rfl)) (by decide) (fun K hK => ?_)
          refine goes_ Try.func18 (by kernel_rfl) rfl #[.agg #[.int .i64 a0_0, .int .u64 a0_1], .agg #[.int .i64 a1_0, .int .u64 a1_1]] (by rfl) rfl rfl (by (try simp only [List.map_toArray, List.map_cons, List.map_nil]); first | done | rfl | (simp only [List.length_drop, List.length_take]; rfl)) ?_
          with_reducible refine (label_Leq.calls a0_0 a0_1 a1_0 a1_1 t166 _ A137.out).mono ?_
          rintro e w146 ⟨rfl, hb⟩
          refine ⟨_, rfl, ?_⟩
          replace BK139 := Goto.bb BK139 hb; replace BK140 := Goto.bb BK140 hb; replace BK141 := Goto.bb BK141 hb; replace BK147 := Goto.bb BK147 hb; replace BK148 := Goto.bb BK148 hb; replace HB := Goto.hs HB hb
          (try clear hb)
          (try clear hb2)
          (try clear hk)
          (try clear hi)
          refine hK.out _ _ ⟨(blk_cell BK147.out 0).trans rfl, (blk_cell BK147.out 1).trans rfl, (blk_cell BK141.out 0).trans rfl, (blk_cell BK141.out 1).trans rfl, (blk_cell BK139.out 0).trans rfl, (blk_cell BK139.out 1).trans rfl, (blk_cell BK148.out 0).trans rfl, (blk_cell BK148.out 1).trans rfl, (blk_cell BK140.out 0).trans rfl, (blk_cell BK140.out 1).trans rfl⟩ (fun hHeld => ?_)
          clear hK K
          refine norm_ (a' := ?_) ?_ ?_
          rotate_left
          ·
           show Act.put _ (some 68) _ = _
           exact Goto.ap
          refine pure_ (i := 33) (N := some 72) (v := ?_) (a' := ?_) (Goto.bs 45 17179869183) rfl rfl (any_of HT_.out (by kernel_rfl)) (fun _ _ _ h => h) (Or.inl ⟨by rfl, ?_⟩) ?_ ?_
          rotate_left
          ·
           intro w'
           go_simp
           with_reducible rfl
          rotate_left
          ·
           exact Goto.ap
          refine pure_ (i := 34) (N := some 73) (v := ?_) (a' := ?_) (Goto.bs 45 34359738367) rfl rfl (any_of HT_.out (by kernel_rfl)) (fun _ _ _ h => h) (Or.inl ⟨by rfl, ?_⟩) ?_ ?_
          rotate_left
          ·
           intro w'
           go_simp
           with_reducible rfl
          rotate_left
          ·
           exact Goto.ap
          refine pure_ (i := 35) (N := some 74) (v := ?_) (a' := ?_) (Goto.bs 45 68719476735) rfl rfl (any_of HT_.out (by kernel_rfl)) (fun _ _ _ h => h) (Or.inl ⟨by rfl, ?_⟩) ?_ ?_
          rotate_left
          ·
           intro w'
           go_simp
           with_reducible rfl
          rotate_left
          ·
           exact Goto.ap
          refine take_ (i := 36) (N := some 75) (v := ?_) (a' := ?_) (Goto.bs 45 137438953471) rfl rfl (take_ofW HT_.out HW_.out (by kernel_rfl)) (fun _ _ _ h => h) (Or.inl ⟨by rfl, ?_⟩) hHeld ?_ ?_
          rotate_left
          ·
           rintro w' ⟨s0, s1, s2, s3, s4, s5, s6, s7, s8, s9⟩
           go_simp
           with_reducible rfl
          rotate_left
          ·
           exact Goto.ap
          refine take_ (i := 37) (N := some 76) (v := ?_) (a' := ?_) (Goto.bs 45 274877906943) rfl rfl (take_ofW HT_.out HW_.out (by kernel_rfl)) (fun _ _ _ h => h) (Or.inl ⟨by rfl, ?_⟩) hHeld ?_ ?_
          rotate_left
          ·
           rintro w' ⟨s0, s1, s2, s3, s4, s5, s6, s7, s8, s9⟩
           go_simp
           with_reducible rfl
          rotate_left
          ·
           exact Goto.ap
          refine take_ (i := 39) (N := some 78) (v := ?_) (a' := ?_) (Goto.bs 45 824633720831) rfl rfl (take_ofW HT_.out HW_.out (by kernel_rfl)) (fun _ _ _ h => h) (Or.inl ⟨by rfl, ?_⟩) hHeld ?_ ?_
          rotate_left
          ·
           rintro w' ⟨s0, s1, s2, s3, s4, s5, s6, s7, s8, s9⟩
           go_simp
           with_reducible rfl
          rotate_left
          ·
           exact Goto.ap
          refine take_ (i := 40) (N := some 79) (v := ?_) (a' := ?_) (Goto.bs 45 1924145348607) rfl rfl (take_ofW HT_.out HW_.out (by kernel_rfl)) (fun _ _ _ h => h) (Or.inl ⟨by rfl, ?_⟩) hHeld ?_ ?_
          rotate_left
          ·
           rintro w' ⟨s0, s1, s2, s3, s4, s5, s6, s7, s8, s9⟩
           go_simp
           with_reducible rfl
          rotate_left
          ·
           exact Goto.ap
          refine pure_ (i := 41) (N := some 80) (v := ?_) (a' := ?_) (Goto.bs 45 4123168604159) rfl rfl (any_of HT_.out (by kernel_rfl)) (fun _ _ _ h => h) (Or.inl ⟨by rfl, ?_⟩) ?_ ?_
          rotate_left
          ·
           intro w'
           go_simp
           with_reducible rfl
          rotate_left
          ·
           exact Goto.ap
          refine one_ (i := 38) (N := some 77) (Goto.bs 45 4398046511103) rfl rfl (one_of HT_.out (by kernel_rfl)) (by decide) (fun K hK => ?_)
          refine goes_ Try.func18 (by kernel_rfl) rfl #[.agg #[.int .i64 a0_0, .int .u64 a0_1], .agg #[.int .i64 a1_0, .int .u64 a1_1]] (by rfl) rfl rfl (by (try simp only [List.map_toArray, List.map_cons, List.map_nil]); first | done | rfl | (simp only [List.length_drop, List.length_take]; rfl)) ?_
          with_reducible refine (label_Leq.calls a0_0 a0_1 a1_0 a1_1 t167 _ A139.out).mono ?_
          rintro e w147 ⟨rfl, hb⟩
          refine ⟨_, rfl, ?_⟩
          replace BK139 := Goto.bb BK139 hb; replace BK140 := Goto.bb BK140 hb; replace BK141 := Goto.bb BK141 hb; replace BK147 := Goto.bb BK147 hb; replace BK148 := Goto.bb BK148 hb; replace HB := Goto.hs HB hb
          (try clear hb)
          (try clear hb2)
          (try clear hk)
          (try clear hi)
          refine hK.out _ _ ⟨(blk_cell BK147.out 0).trans rfl, (blk_cell BK147.out 1).trans rfl, (blk_cell BK141.out 0).trans rfl, (blk_cell BK141.out 1).trans rfl, (blk_cell BK139.out 0).trans rfl, (blk_cell BK139.out 1).trans rfl, (blk_cell BK148.out 0).trans rfl, (blk_cell BK148.out 1).trans rfl, (blk_cell BK140.out 0).trans rfl, (blk_cell BK140.out 1).trans rfl⟩ (fun hHeld => ?_)
          clear hK K
          refine norm_ (a' := ?_) ?_ ?_
          rotate_left
          ·
           show Act.put _ (some 77) _ = _
           exact Goto.ap
          refine pure_ (i := 42) (N := some 81) (v := ?_) (a' := ?_) (Goto.bs 45 8796093022207) rfl rfl (any_of HT_.out (by kernel_rfl)) (fun _ _ _ h => h) (Or.inl ⟨by rfl, ?_⟩) ?_ ?_
          rotate_left
          ·
           intro w'
           go_simp
           with_reducible rfl
          rotate_left
          ·
           exact Goto.ap
          refine pure_ (i := 43) (N := some 82) (v := ?_) (a' := ?_) (Goto.bs 45 17592186044415) rfl rfl (any_of HT_.out (by kernel_rfl)) (fun _ _ _ h => h) (Or.inl ⟨by rfl, ?_⟩) ?_ ?_
          rotate_left
          ·
           intro w'
           go_simp
           with_reducible rfl
          rotate_left
          ·
           exact Goto.ap
          refine pure_ (i := 44) (N := some 6) (v := ?_) (a' := ?_) (Goto.bs 45 35184372088831) rfl rfl (any_of HT_.out (by kernel_rfl)) (fun _ _ _ h => h) (Or.inl ⟨by rfl, ?_⟩) ?_ ?_
          rotate_left
          ·
           intro w'
           go_simp
           with_reducible rfl
          rotate_left
          ·
           exact Goto.ap
          refine done_ (done_of HT_.out (by kernel_rfl)) ?_
          try go_wp2
          go_ret
          exact ⟨by first | rfl | (simp [errW_none, errW_some] <;> rfl) | (simp [*, errW_none, errW_some] <;> rfl), by repeat (first | (with_reducible first | exact HB.out | apply below_alloc | apply pw_below_drewN | apply below_drew1 | refine below_set ?_ GE139.out | refine below_set ?_ GE140.out | refine below_set ?_ GE141.out | refine below_set ?_ GE147.out | refine below_set ?_ GE148.out) | exact HB.out)⟩
         ·
          rw [if_neg c138] at H
          have c138b0 : (t166 == (t143 == a1_0 && (t144 == a1_1))) = false := by simpa using c138
          (try (have c138b1 : decide (t166 = (t143 == a1_0 && (t144 == a1_1))) = false := by simpa using c138))
          (try (have c138b2 : (t166 == (t143 == a1_0 && (t144 == a1_1))) = false := by simpa using c138))
          (try (have c138b3 : ¬ (t166 = (t143 == a1_0 && (t144 == a1_1))) := by simpa using c138))
          clear c138
          exact absurd ((Option.some.inj H).trans HRT.out) (by decide)
        ·
         rw [if_neg c136] at H
         have c136b0 : (t163 == t165) = false := by simpa using c136
         (try (have c136b1 : decide (t163 = t165) = false := by simpa using c136))
         (try (have c136b2 : (t163 == t165) = false := by simpa using c136))
         (try (have c136b3 : ¬ (t163 = t165) := by simpa using c136))
         clear c136
         exact absurd ((Option.some.inj H).trans HRT.out) (by decide)
       ·
        replace c134 := Bool.eq_false_iff.mpr c134
        subst c134
        rw [if_neg (show ¬ (false = true) by decide)] at H
        by_cases c148 : (t163 == false) = true
        ·
         rw [if_pos c148] at H
         have c148b0 : (t163 == false) = true := c148
         (try (have c148b1 : decide (t163 = false) = true := by simpa using c148))
         (try (have c148b2 : (t163 == false) = true := by simpa using c148))
         clear c148
         replace H := Option.bind_eq_some_iff.mp H
         obtain ⟨t168, A1490, H⟩ := H
         have A149 := Goto.m0 A1490
         clear A1490
         by_cases c150 : (t168 == (t143 == a1_0 && (t144 == a1_1))) = true
         ·
          rw [if_pos c150] at H
          have c150b0 : (t168 == (t143 == a1_0 && (t144 == a1_1))) = true := c150
          (try (have c150b1 : decide (t168 = (t143 == a1_0 && (t144 == a1_1))) = true := by simpa using c150))
          (try (have c150b2 : (t168 == (t143 == a1_0 && (t144 == a1_1))) = true := by simpa using c150))
          clear c150
          replace H := Option.bind_eq_some_iff.mp H
          obtain ⟨t169, A1510, H⟩ := H
          have A151 := Goto.m0 A1510
          clear A1510
          obtain rfl := Option.some.inj H
          try go_wp2
          replace BK139 := Goto.m0 (blk_drew BK139.out); replace BK140 := Goto.m0 (blk_drew BK140.out); replace BK141 := Goto.m0 (blk_drew BK141.out); replace BK147 := Goto.m0 (blk_drew BK147.out); replace BK148 := Goto.m0 (blk_drew BK148.out); replace HB := Goto.m0 (below_drew1 HB.out)
          refine start_ (n := 45) (S := fun w' => w'.cell? ⟨gb147, 0, none⟩ = some (.int .i64 t143) ∧ w'.cell? ⟨gb147, 1, none⟩ = some (.int .u64 t144) ∧ w'.cell? ⟨gb141, 0, none⟩ = some (.int .i64 a2_0) ∧ w'.cell? ⟨gb141, 1, none⟩ = some (.int .u64 a2_1) ∧ w'.cell? ⟨gb139, 0, none⟩ = some (.int .i64 a0_0) ∧ w'.cell? ⟨gb139, 1, none⟩ = some (.int .u64 a0_1) ∧ w'.cell? ⟨gb148, 0, none⟩ = some (.int .i64 t145) ∧ w'.cell? ⟨gb148, 1, none⟩ = some (.int .u64 t146) ∧ w'.cell? ⟨gb140, 0, none⟩ = some (.int .i64 a1_0) ∧ w'.cell? ⟨gb140, 1, none⟩ = some (.int .u64 a1_1)) (ds := []) (.replicate 45 false) (by kernel_rfl) rfl rfl ⟨(blk_cell BK147.out 0).trans rfl, (blk_cell BK147.out 1).trans rfl, (blk_cell BK141.out 0).trans rfl, (blk_cell BK141.out 1).trans rfl, (blk_cell BK139.out 0).trans rfl, (blk_cell BK139.out 1).trans rfl, (blk_cell BK148.out 0).trans rfl, (blk_cell BK148.out 1).trans rfl, (blk_cell BK140.out 0).trans rfl, (blk_cell BK140.out 1).trans rfl⟩ (fun hHeld => ?_); refine with_tabW tontinelaw1_LabelBounds.tab6 tontinelaw1_LabelBounds.bits6 (fun HT_ HW_ => ?_)
          generalize wc.drew = w152 at BK139 BK140 BK141 BK147 BK148 HB hHeld ⊢
          refine take_ (i := 0) (N := some 39) (v := ?_) (a' := ?_) (Goto.bs 45 1) rfl rfl (take_ofW HT_.out HW_.out (by kernel_rfl)) (fun _ _ _ h => h) (Or.inl ⟨by rfl, ?_⟩) hHeld ?_ ?_
          rotate_left
          ·
           rintro w' ⟨s0, s1, s2, s3, s4, s5, s6, s7, s8, s9⟩
           go_simp
           with_reducible rfl
          rotate_left
          ·
           exact Goto.ap
          refine take_ (i := 1) (N := some 40) (v := ?_) (a' := ?_) (Goto.bs 45 3) rfl rfl (take_ofW HT_.out HW_.out (by kernel_rfl)) (fun _ _ _ h => h) (Or.inl ⟨by rfl, ?_⟩) hHeld ?_ ?_
          rotate_left
          ·
           rintro w' ⟨s0, s1, s2, s3, s4, s5, s6, s7, s8, s9⟩
           go_simp
           with_reducible rfl
          rotate_left
          ·
           exact Goto.ap
          refine take_ (i := 3) (N := some 42) (v := ?_) (a' := ?_) (Goto.bs 45 11) rfl rfl (take_ofW HT_.out HW_.out (by kernel_rfl)) (fun _ _ _ h => h) (Or.inl ⟨by rfl, ?_⟩) hHeld ?_ ?_
          rotate_left
          ·
           rintro w' ⟨s0, s1, s2, s3, s4, s5, s6, s7, s8, s9⟩
           go_simp
           with_reducible rfl
          rotate_left
          ·
           exact Goto.ap
          refine take_ (i := 4) (N := some 43) (v := ?_) (a' := ?_) (Goto.bs 45 27) rfl rfl (take_ofW HT_.out HW_.out (by kernel_rfl)) (fun _ _ _ h => h) (Or.inl ⟨by rfl, ?_⟩) hHeld ?_ ?_
          rotate_left
          ·
           rintro w' ⟨s0, s1, s2, s3, s4, s5, s6, s7, s8, s9⟩
           go_simp
           with_reducible rfl
          rotate_left
          ·
           exact Goto.ap
          refine one_ (i := 2) (N := some 41) (Goto.bs 45 31) rfl rfl (one_of HT_.out (by kernel_rfl)) (by decide) (fun K hK => ?_)
          refine goes_ Try.func18 (by kernel_rfl) rfl #[.agg #[.int .i64 t143, .int .u64 t144], .agg #[.int .i64 a2_0, .int .u64 a2_1]] (by rfl) rfl rfl (by (try simp only [List.map_toArray, List.map_cons, List.map_nil]); first | done | rfl | (simp only [List.length_drop, List.length_take]; rfl)) ?_
          with_reducible refine (label_Leq.calls t143 t144 a2_0 a2_1 t153 _ A97.out).mono ?_
          rintro e w153 ⟨rfl, hb⟩
          refine ⟨_, rfl, ?_⟩
          replace BK139 := Goto.bb BK139 hb; replace BK140 := Goto.bb BK140 hb; replace BK141 := Goto.bb BK141 hb; replace BK147 := Goto.bb BK147 hb; replace BK148 := Goto.bb BK148 hb; replace HB := Goto.hs HB hb
          (try clear hb)
          (try clear hb2)
          (try clear hk)
          (try clear hi)
          refine hK.out _ _ ⟨(blk_cell BK147.out 0).trans rfl, (blk_cell BK147.out 1).trans rfl, (blk_cell BK141.out 0).trans rfl, (blk_cell BK141.out 1).trans rfl, (blk_cell BK139.out 0).trans rfl, (blk_cell BK139.out 1).trans rfl, (blk_cell BK148.out 0).trans rfl, (blk_cell BK148.out 1).trans rfl, (blk_cell BK140.out 0).trans rfl, (blk_cell BK140.out 1).trans rfl⟩ (fun hHeld => ?_)
          clear hK K
          refine norm_ (a' := ?_) ?_ ?_
          rotate_left
          ·
           show Act.put _ (some 41) _ = _
           exact Goto.ap
          refine one_ (i := 5) (N := some 44) (Goto.bs 45 63) rfl rfl (one_of HT_.out (by kernel_rfl)) (by decide) (fun K hK => ?_)
          refine goes_ Try.func18 (by kernel_rfl) rfl #[.agg #[.int .i64 a0_0, .int .u64 a0_1], .agg #[.int .i64 a2_0, .int .u64 a2_1]] (by rfl) rfl rfl (by (try simp only [List.map_toArray, List.map_cons, List.map_nil]); first | done | rfl | (simp only [List.length_drop, List.length_take]; rfl)) ?_
          with_reducible refine (label_Leq.calls a0_0 a0_1 a2_0 a2_1 false _ A98.out).mono ?_
          rintro e w154 ⟨rfl, hb⟩
          refine ⟨_, rfl, ?_⟩
          replace BK139 := Goto.bb BK139 hb; replace BK140 := Goto.bb BK140 hb; replace BK141 := Goto.bb BK141 hb; replace BK147 := Goto.bb BK147 hb; replace BK148 := Goto.bb BK148 hb; replace HB := Goto.hs HB hb
          (try clear hb)
          (try clear hb2)
          (try clear hk)
          (try clear hi)
          refine hK.out _ _ ⟨(blk_cell BK147.out 0).trans rfl, (blk_cell BK147.out 1).trans rfl, (blk_cell BK141.out 0).trans rfl, (blk_cell BK141.out 1).trans rfl, (blk_cell BK139.out 0).trans rfl, (blk_cell BK139.out 1).trans rfl, (blk_cell BK148.out 0).trans rfl, (blk_cell BK148.out 1).trans rfl, (blk_cell BK140.out 0).trans rfl, (blk_cell BK140.out 1).trans rfl⟩ (fun hHeld => ?_)
          clear hK K
          refine norm_ (a' := ?_) ?_ ?_
          rotate_left
          ·
           show Act.put _ (some 44) _ = _
           exact Goto.ap
          refine pure_ (i := 6) (N := some 45) (v := ?_) (a' := ?_) (Goto.bs 45 127) rfl rfl (any_of HT_.out (by kernel_rfl)) (fun _ _ _ h => h) (Or.inl ⟨by rfl, ?_⟩) ?_ ?_
          rotate_left
          ·
           intro w'
           go_simp
           with_reducible rfl
          rotate_left
          ·
           exact Goto.ap
          refine pure_ (i := 7) (N := some 46) (v := undef) (a' := ?_) (Goto.bs 45 255) rfl rfl (any_of HT_.out (by kernel_rfl)) (fun _ _ _ h => h) (Or.inr ⟨by rfl, rfl⟩) ?_ ?_
          rotate_left
          ·
           exact Goto.ap
          refine pure_ (i := 8) (N := some 47) (v := undef) (a' := ?_) (Goto.bs 45 511) rfl rfl (any_of HT_.out (by kernel_rfl)) (fun _ _ _ h => h) (Or.inr ⟨by rfl, rfl⟩) ?_ ?_
          rotate_left
          ·
           exact Goto.ap
          refine pure_ (i := 9) (N := some 48) (v := undef) (a' := ?_) (Goto.bs 45 1023) rfl rfl (any_of HT_.out (by kernel_rfl)) (fun _ _ _ h => h) (Or.inr ⟨by rfl, rfl⟩) ?_ ?_
          rotate_left
          ·
           exact Goto.ap
          refine pure_ (i := 10) (N := some 49) (v := ?_) (a' := ?_) (Goto.bs 45 2047) rfl rfl (any_of HT_.out (by kernel_rfl)) (fun _ _ _ h => h) (Or.inl ⟨by rfl, ?_⟩) ?_ ?_
          rotate_left
          ·
           intro w'
           go_simp
           with_reducible rfl
          rotate_left
          ·
           exact Goto.ap
          refine pure_ (i := 11) (N := some 50) (v := ?_) (a' := ?_) (Goto.bs 45 4095) rfl rfl (any_of HT_.out (by kernel_rfl)) (fun _ _ _ h => h) (Or.inl ⟨by rfl, ?_⟩) ?_ ?_
          rotate_left
          ·
           intro w'
           go_simp
           with_reducible rfl
          rotate_left
          ·
           exact Goto.ap
          refine pure_ (i := 12) (N := some 51) (v := ?_) (a' := ?_) (Goto.bs 45 8191) rfl rfl (any_of HT_.out (by kernel_rfl)) (fun _ _ _ h => h) (Or.inl ⟨by rfl, ?_⟩) ?_ ?_
          rotate_left
          ·
           intro w'
           go_simp
           with_reducible rfl
          rotate_left
          ·
           exact Goto.ap
          refine take_ (i := 13) (N := some 52) (v := ?_) (a' := ?_) (Goto.bs 45 16383) rfl rfl (take_ofW HT_.out HW_.out (by kernel_rfl)) (fun _ _ _ h => h) (Or.inl ⟨by rfl, ?_⟩) hHeld ?_ ?_
          rotate_left
          ·
           rintro w' ⟨s0, s1, s2, s3, s4, s5, s6, s7, s8, s9⟩
           go_simp
           with_reducible rfl
          rotate_left
          ·
           exact Goto.ap
          refine take_ (i := 14) (N := some 53) (v := ?_) (a' := ?_) (Goto.bs 45 32767) rfl rfl (take_ofW HT_.out HW_.out (by kernel_rfl)) (fun _ _ _ h => h) (Or.inl ⟨by rfl, ?_⟩) hHeld ?_ ?_
          rotate_left
          ·
           rintro w' ⟨s0, s1, s2, s3, s4, s5, s6, s7, s8, s9⟩
           go_simp
           with_reducible rfl
          rotate_left
          ·
           exact Goto.ap
          refine take_ (i := 16) (N := some 55) (v := ?_) (a' := ?_) (Goto.bs 45 98303) rfl rfl (take_ofW HT_.out HW_.out (by kernel_rfl)) (fun _ _ _ h => h) (Or.inl ⟨by rfl, ?_⟩) hHeld ?_ ?_
          rotate_left
          ·
           rintro w' ⟨s0, s1, s2, s3, s4, s5, s6, s7, s8, s9⟩
           go_simp
           with_reducible rfl
          rotate_left
          ·
           exact Goto.ap
          refine take_ (i := 17) (N := some 56) (v := ?_) (a' := ?_) (Goto.bs 45 229375) rfl rfl (take_ofW HT_.out HW_.out (by kernel_rfl)) (fun _ _ _ h => h) (Or.inl ⟨by rfl, ?_⟩) hHeld ?_ ?_
          rotate_left
          ·
           rintro w' ⟨s0, s1, s2, s3, s4, s5, s6, s7, s8, s9⟩
           go_simp
           with_reducible rfl
          rotate_left
          ·
           exact Goto.ap
          refine one_ (i := 15) (N := some 54) (Goto.bs 45 262143) rfl rfl (one_of HT_.out (by kernel_rfl)) (by decide) (fun K hK => ?_)
          refine goes_ Try.func18 (by kernel_rfl) rfl #[.agg #[.int .i64 a2_0, .int .u64 a2_1], .agg #[.int .i64 t145, .int .u64 t146]] (by rfl) rfl rfl (by (try simp only [List.map_toArray, List.map_cons, List.map_nil]); first | done | rfl | (simp only [List.length_drop, List.length_take]; rfl)) ?_
          with_reducible refine (label_Leq.calls a2_0 a2_1 t145 t146 t163 _ A132.out).mono ?_
          rintro e w155 ⟨rfl, hb⟩
          refine ⟨_, rfl, ?_⟩
          replace BK139 := Goto.bb BK139 hb; replace BK140 := Goto.bb BK140 hb; replace BK141 := Goto.bb BK141 hb; replace BK147 := Goto.bb BK147 hb; replace BK148 := Goto.bb BK148 hb; replace HB := Goto.hs HB hb
          (try clear hb)
          (try clear hb2)
          (try clear hk)
          (try clear hi)
          refine hK.out _ _ ⟨(blk_cell BK147.out 0).trans rfl, (blk_cell BK147.out 1).trans rfl, (blk_cell BK141.out 0).trans rfl, (blk_cell BK141.out 1).trans rfl, (blk_cell BK139.out 0).trans rfl, (blk_cell BK139.out 1).trans rfl, (blk_cell BK148.out 0).trans rfl, (blk_cell BK148.out 1).trans rfl, (blk_cell BK140.out 0).trans rfl, (blk_cell BK140.out 1).trans rfl⟩ (fun hHeld => ?_)
          clear hK K
          refine norm_ (a' := ?_) ?_ ?_
          rotate_left
          ·
           show Act.put _ (some 54) _ = _
           exact Goto.ap
          refine one_ (i := 18) (N := some 57) (Goto.bs 45 524287) rfl rfl (one_of HT_.out (by kernel_rfl)) (by decide) (fun K hK => ?_)
          refine goes_ Try.func18 (by kernel_rfl) rfl #[.agg #[.int .i64 a2_0, .int .u64 a2_1], .agg #[.int .i64 a0_0, .int .u64 a0_1]] (by rfl) rfl rfl (by (try simp only [List.map_toArray, List.map_cons, List.map_nil]); first | done | rfl | (simp only [List.length_drop, List.length_take]; rfl)) ?_
          with_reducible refine (label_Leq.calls a2_0 a2_1 a0_0 a0_1 false _ A133.out).mono ?_
          rintro e w156 ⟨rfl, hb⟩
          refine ⟨_, rfl, ?_⟩
          replace BK139 := Goto.bb BK139 hb; replace BK140 := Goto.bb BK140 hb; replace BK141 := Goto.bb BK141 hb; replace BK147 := Goto.bb BK147 hb; replace BK148 := Goto.bb BK148 hb; replace HB := Goto.hs HB hb
          (try clear hb)
          (try clear hb2)
          (try clear hk)
          (try clear hi)
          refine hK.out _ _ ⟨(blk_cell BK147.out 0).trans rfl, (blk_cell BK147.out 1).trans rfl, (blk_cell BK141.out 0).trans rfl, (blk_cell BK141.out 1).trans rfl, (blk_cell BK139.out 0).trans rfl, (blk_cell BK139.out 1).trans rfl, (blk_cell BK148.out 0).trans rfl, (blk_cell BK148.out 1).trans rfl, (blk_cell BK140.out 0).trans rfl, (blk_cell BK140.out 1).trans rfl⟩ (fun hHeld => ?_)
          clear hK K
          refine norm_ (a' := ?_) ?_ ?_
          rotate_left
          ·
           show Act.put _ (some 57) _ = _
           exact Goto.ap
          refine pure_ (i := 19) (N := some 58) (v := ?_) (a' := ?_) (Goto.bs 45 1048575) rfl rfl (any_of HT_.out (by kernel_rfl)) (fun _ _ _ h => h) (Or.inl ⟨by rfl, ?_⟩) ?_ ?_
          rotate_left
          ·
           intro w'
           go_simp
           with_reducible rfl
          rotate_left
          ·
           exact Goto.ap
          refine pure_ (i := 20) (N := some 59) (v := undef) (a' := ?_) (Goto.bs 45 2097151) rfl rfl (any_of HT_.out (by kernel_rfl)) (fun _ _ _ h => h) (Or.inr ⟨by rfl, rfl⟩) ?_ ?_
          rotate_left
          ·
           exact Goto.ap
          refine pure_ (i := 21) (N := some 60) (v := undef) (a' := ?_) (Goto.bs 45 4194303) rfl rfl (any_of HT_.out (by kernel_rfl)) (fun _ _ _ h => h) (Or.inr ⟨by rfl, rfl⟩) ?_ ?_
          rotate_left
          ·
           exact Goto.ap
          refine pure_ (i := 22) (N := some 61) (v := undef) (a' := ?_) (Goto.bs 45 8388607) rfl rfl (any_of HT_.out (by kernel_rfl)) (fun _ _ _ h => h) (Or.inr ⟨by rfl, rfl⟩) ?_ ?_
          rotate_left
          ·
           exact Goto.ap
          refine pure_ (i := 23) (N := some 62) (v := ?_) (a' := ?_) (Goto.bs 45 16777215) rfl rfl (any_of HT_.out (by kernel_rfl)) (fun _ _ _ h => h) (Or.inl ⟨by rfl, ?_⟩) ?_ ?_
          rotate_left
          ·
           intro w'
           go_simp
           with_reducible rfl
          rotate_left
          ·
           exact Goto.ap
          refine pure_ (i := 24) (N := some 63) (v := ?_) (a' := ?_) (Goto.bs 45 33554431) rfl rfl (any_of HT_.out (by kernel_rfl)) (fun _ _ _ h => h) (Or.inl ⟨by rfl, ?_⟩) ?_ ?_
          rotate_left
          ·
           intro w'
           go_simp
           with_reducible rfl
          rotate_left
          ·
           exact Goto.ap
          refine pure_ (i := 25) (N := some 64) (v := ?_) (a' := ?_) (Goto.bs 45 67108863) rfl rfl (any_of HT_.out (by kernel_rfl)) (fun _ _ _ h => h) (Or.inl ⟨by rfl, ?_⟩) ?_ ?_
          rotate_left
          ·
           intro w'
           go_simp
           with_reducible rfl
          rotate_left
          ·
           exact Goto.ap
          refine pure_ (i := 26) (N := some 65) (v := ?_) (a' := ?_) (Goto.bs 45 134217727) rfl rfl (any_of HT_.out (by kernel_rfl)) (fun _ _ _ h => h) (Or.inl ⟨by rfl, ?_⟩) ?_ ?_
          rotate_left
          ·
           intro w'
           go_simp
           with_reducible rfl
          rotate_left
          ·
           exact Goto.ap
          refine take_ (i := 27) (N := some 66) (v := ?_) (a' := ?_) (Goto.bs 45 268435455) rfl rfl (take_ofW HT_.out HW_.out (by kernel_rfl)) (fun _ _ _ h => h) (Or.inl ⟨by rfl, ?_⟩) hHeld ?_ ?_
          rotate_left
          ·
           rintro w' ⟨s0, s1, s2, s3, s4, s5, s6, s7, s8, s9⟩
           go_simp
           with_reducible rfl
          rotate_left
          ·
           exact Goto.ap
          refine take_ (i := 28) (N := some 67) (v := ?_) (a' := ?_) (Goto.bs 45 536870911) rfl rfl (take_ofW HT_.out HW_.out (by kernel_rfl)) (fun _ _ _ h => h) (Or.inl ⟨by rfl, ?_⟩) hHeld ?_ ?_
          rotate_left
          ·
           rintro w' ⟨s0, s1, s2, s3, s4, s5, s6, s7, s8, s9⟩
           go_simp
           with_reducible rfl
          rotate_left
          ·
           exact Goto.ap
          refine take_ (i := 30) (N := some 69) (v := ?_) (a' := ?_) (Goto.bs 45 1610612735) rfl rfl (take_ofW HT_.out HW_.out (by kernel_rfl)) (fun _ _ _ h => h) (Or.inl ⟨by rfl, ?_⟩) hHeld ?_ ?_
          rotate_left
          ·
           rintro w' ⟨s0, s1, s2, s3, s4, s5, s6, s7, s8, s9⟩
           go_simp
           with_reducible rfl
          rotate_left
          ·
           exact Goto.ap
          refine take_ (i := 31) (N := some 70) (v := ?_) (a' := ?_) (Goto.bs 45 3758096383) rfl rfl (take_ofW HT_.out HW_.out (by kernel_rfl)) (fun _ _ _ h => h) (Or.inl ⟨by rfl, ?_⟩) hHeld ?_ ?_
          rotate_left
          ·
           rintro w' ⟨s0, s1, s2, s3, s4, s5, s6, s7, s8, s9⟩
           go_simp
           with_reducible rfl
          rotate_left
          ·
           exact Goto.ap
          refine pure_ (i := 32) (N := some 71) (v := ?_) (a' := ?_) (Goto.bs 45 8053063679) rfl rfl (any_of HT_.out (by kernel_rfl)) (fun _ _ _ h => h) (Or.inl ⟨by rfl, ?_⟩) ?_ ?_
          rotate_left
          ·
           intro w'
           go_simp
           with_reducible rfl
          rotate_left
          ·
           exact Goto.ap
          refine one_ (i := 29) (N := some 68) (Goto.bs 45 8589934591) rfl rfl (one_of HT_.out (by kernel_rfl)) (by decide) (fun K hK => ?_)
          refine goes_ Try.func18 (by kernel_rfl) rfl #[.agg #[.int .i64 a0_0, .int .u64 a0_1], .agg #[.int .i64 a1_0, .int .u64 a1_1]] (by rfl) rfl rfl (by (try simp only [List.map_toArray, List.map_cons, List.map_nil]); first | done | rfl | (simp only [List.length_drop, List.length_take]; rfl)) ?_
          with_reducible refine (label_Leq.calls a0_0 a0_1 a1_0 a1_1 t168 _ A149.out).mono ?_
          rintro e w157 ⟨rfl, hb⟩
          refine ⟨_, rfl, ?_⟩
          replace BK139 := Goto.bb BK139 hb; replace BK140 := Goto.bb BK140 hb; replace BK141 := Goto.bb BK141 hb; replace BK147 := Goto.bb BK147 hb; replace BK148 := Goto.bb BK148 hb; replace HB := Goto.hs HB hb
          (try clear hb)
          (try clear hb2)
          (try clear hk)
          (try clear hi)
          refine hK.out _ _ ⟨(blk_cell BK147.out 0).trans rfl, (blk_cell BK147.out 1).trans rfl, (blk_cell BK141.out 0).trans rfl, (blk_cell BK141.out 1).trans rfl, (blk_cell BK139.out 0).trans rfl, (blk_cell BK139.out 1).trans rfl, (blk_cell BK148.out 0).trans rfl, (blk_cell BK148.out 1).trans rfl, (blk_cell BK140.out 0).trans rfl, (blk_cell BK140.out 1).trans rfl⟩ (fun hHeld => ?_)
          clear hK K
          refine norm_ (a' := ?_) ?_ ?_
          rotate_left
          ·
           show Act.put _ (some 68) _ = _
           exact Goto.ap
          refine pure_ (i := 33) (N := some 72) (v := ?_) (a' := ?_) (Goto.bs 45 17179869183) rfl rfl (any_of HT_.out (by kernel_rfl)) (fun _ _ _ h => h) (Or.inl ⟨by rfl, ?_⟩) ?_ ?_
          rotate_left
          ·
           intro w'
           go_simp
           with_reducible rfl
          rotate_left
          ·
           exact Goto.ap
          refine pure_ (i := 34) (N := some 73) (v := ?_) (a' := ?_) (Goto.bs 45 34359738367) rfl rfl (any_of HT_.out (by kernel_rfl)) (fun _ _ _ h => h) (Or.inl ⟨by rfl, ?_⟩) ?_ ?_
          rotate_left
          ·
           intro w'
           go_simp
           with_reducible rfl
          rotate_left
          ·
           exact Goto.ap
          refine pure_ (i := 35) (N := some 74) (v := ?_) (a' := ?_) (Goto.bs 45 68719476735) rfl rfl (any_of HT_.out (by kernel_rfl)) (fun _ _ _ h => h) (Or.inl ⟨by rfl, ?_⟩) ?_ ?_
          rotate_left
          ·
           intro w'
           go_simp
           with_reducible rfl
          rotate_left
          ·
           exact Goto.ap
          refine take_ (i := 36) (N := some 75) (v := ?_) (a' := ?_) (Goto.bs 45 137438953471) rfl rfl (take_ofW HT_.out HW_.out (by kernel_rfl)) (fun _ _ _ h => h) (Or.inl ⟨by rfl, ?_⟩) hHeld ?_ ?_
          rotate_left
          ·
           rintro w' ⟨s0, s1, s2, s3, s4, s5, s6, s7, s8, s9⟩
           go_simp
           with_reducible rfl
          rotate_left
          ·
           exact Goto.ap
          refine take_ (i := 37) (N := some 76) (v := ?_) (a' := ?_) (Goto.bs 45 274877906943) rfl rfl (take_ofW HT_.out HW_.out (by kernel_rfl)) (fun _ _ _ h => h) (Or.inl ⟨by rfl, ?_⟩) hHeld ?_ ?_
          rotate_left
          ·
           rintro w' ⟨s0, s1, s2, s3, s4, s5, s6, s7, s8, s9⟩
           go_simp
           with_reducible rfl
          rotate_left
          ·
           exact Goto.ap
          refine take_ (i := 39) (N := some 78) (v := ?_) (a' := ?_) (Goto.bs 45 824633720831) rfl rfl (take_ofW HT_.out HW_.out (by kernel_rfl)) (fun _ _ _ h => h) (Or.inl ⟨by rfl, ?_⟩) hHeld ?_ ?_
          rotate_left
          ·
           rintro w' ⟨s0, s1, s2, s3, s4, s5, s6, s7, s8, s9⟩
           go_simp
           with_reducible rfl
          rotate_left
          ·
           exact Goto.ap
          refine take_ (i := 40) (N := some 79) (v := ?_) (a' := ?_) (Goto.bs 45 1924145348607) rfl rfl (take_ofW HT_.out HW_.out (by kernel_rfl)) (fun _ _ _ h => h) (Or.inl ⟨by rfl, ?_⟩) hHeld ?_ ?_
          rotate_left
          ·
           rintro w' ⟨s0, s1, s2, s3, s4, s5, s6, s7, s8, s9⟩
           go_simp
           with_reducible rfl
          rotate_left
          ·
           exact Goto.ap
          refine pure_ (i := 41) (N := some 80) (v := ?_) (a' := ?_) (Goto.bs 45 4123168604159) rfl rfl (any_of HT_.out (by kernel_rfl)) (fun _ _ _ h => h) (Or.inl ⟨by rfl, ?_⟩) ?_ ?_
          rotate_left
          ·
           intro w'
           go_simp
           with_reducible rfl
          rotate_left
          ·
           exact Goto.ap
          refine one_ (i := 38) (N := some 77) (Goto.bs 45 4398046511103) rfl rfl (one_of HT_.out (by kernel_rfl)) (by decide) (fun K hK => ?_)
          refine goes_ Try.func18 (by kernel_rfl) rfl #[.agg #[.int .i64 a0_0, .int .u64 a0_1], .agg #[.int .i64 a1_0, .int .u64 a1_1]] (by rfl) rfl rfl (by (try simp only [List.map_toArray, List.map_cons, List.map_nil]); first | done | rfl | (simp only [List.length_drop, List.length_take]; rfl)) ?_
          with_reducible refine (label_Leq.calls a0_0 a0_1 a1_0 a1_1 t169 _ A151.out).mono ?_
          rintro e w158 ⟨rfl, hb⟩
          refine ⟨_, rfl, ?_⟩
          replace BK139 := Goto.bb BK139 hb; replace BK140 := Goto.bb BK140 hb; replace BK141 := Goto.bb BK141 hb; replace BK147 := Goto.bb BK147 hb; replace BK148 := Goto.bb BK148 hb; replace HB := Goto.hs HB hb
          (try clear hb)
          (try clear hb2)
          (try clear hk)
          (try clear hi)
          refine hK.out _ _ ⟨(blk_cell BK147.out 0).trans rfl, (blk_cell BK147.out 1).trans rfl, (blk_cell BK141.out 0).trans rfl, (blk_cell BK141.out 1).trans rfl, (blk_cell BK139.out 0).trans rfl, (blk_cell BK139.out 1).trans rfl, (blk_cell BK148.out 0).trans rfl, (blk_cell BK148.out 1).trans rfl, (blk_cell BK140.out 0).trans rfl, (blk_cell BK140.out 1).trans rfl⟩ (fun hHeld => ?_)
          clear hK K
          refine norm_ (a' := ?_) ?_ ?_
          rotate_left
          ·
           show Act.put _ (some 77) _ = _
           exact Goto.ap
          refine pure_ (i := 42) (N := some 81) (v := ?_) (a' := ?_) (Goto.bs 45 8796093022207) rfl rfl (any_of HT_.out (by kernel_rfl)) (fun _ _ _ h => h) (Or.inl ⟨by rfl, ?_⟩) ?_ ?_
          rotate_left
          ·
           intro w'
           go_simp
           with_reducible rfl
          rotate_left
          ·
           exact Goto.ap
          refine pure_ (i := 43) (N := some 82) (v := ?_) (a' := ?_) (Goto.bs 45 17592186044415) rfl rfl (any_of HT_.out (by kernel_rfl)) (fun _ _ _ h => h) (Or.inl ⟨by rfl, ?_⟩) ?_ ?_
          rotate_left
          ·
           intro w'
           go_simp
           with_reducible rfl
          rotate_left
          ·
           exact Goto.ap
          refine pure_ (i := 44) (N := some 6) (v := ?_) (a' := ?_) (Goto.bs 45 35184372088831) rfl rfl (any_of HT_.out (by kernel_rfl)) (fun _ _ _ h => h) (Or.inl ⟨by rfl, ?_⟩) ?_ ?_
          rotate_left
          ·
           intro w'
           go_simp
           with_reducible rfl
          rotate_left
          ·
           exact Goto.ap
          refine done_ (done_of HT_.out (by kernel_rfl)) ?_
          try go_wp2
          go_ret
          exact ⟨by first | rfl | (simp [errW_none, errW_some] <;> rfl) | (simp [*, errW_none, errW_some] <;> rfl), by repeat (first | (with_reducible first | exact HB.out | apply below_alloc | apply pw_below_drewN | apply below_drew1 | refine below_set ?_ GE139.out | refine below_set ?_ GE140.out | refine below_set ?_ GE141.out | refine below_set ?_ GE147.out | refine below_set ?_ GE148.out) | exact HB.out)⟩
         ·
          rw [if_neg c150] at H
          have c150b0 : (t168 == (t143 == a1_0 && (t144 == a1_1))) = false := by simpa using c150
          (try (have c150b1 : decide (t168 = (t143 == a1_0 && (t144 == a1_1))) = false := by simpa using c150))
          (try (have c150b2 : (t168 == (t143 == a1_0 && (t144 == a1_1))) = false := by simpa using c150))
          (try (have c150b3 : ¬ (t168 = (t143 == a1_0 && (t144 == a1_1))) := by simpa using c150))
          clear c150
          exact absurd ((Option.some.inj H).trans HRT.out) (by decide)
        ·
         rw [if_neg c148] at H
         have c148b0 : (t163 == false) = false := by simpa using c148
         (try (have c148b1 : decide (t163 = false) = false := by simpa using c148))
         (try (have c148b2 : (t163 == false) = false := by simpa using c148))
         (try (have c148b3 : ¬ (t163 = false) := by simpa using c148))
         clear c148
         exact absurd ((Option.some.inj H).trans HRT.out) (by decide)
      ·
       rw [if_neg c131] at H
       have c131b0 : (t153 == false) = false := by simpa using c131
       (try (have c131b1 : decide (t153 = false) = false := by simpa using c131))
       (try (have c131b2 : (t153 == false) = false := by simpa using c131))
       (try (have c131b3 : ¬ (t153 = false) := by simpa using c131))
       clear c131
       exact absurd ((Option.some.inj H).trans HRT.out) (by decide)
 ·
  replace c5 := Bool.eq_false_iff.mpr c5
  subst c5
  rw [if_neg (show ¬ (false = true) by decide)] at H
  exact absurd ((Option.some.inj H).trans HRT.out) (by decide)

end Go.Proofs.Ytpbcamdjcnokfaa.P
