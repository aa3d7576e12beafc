/- Printed by a program of this workplace (a turned copy of the kit's optional print), out of the translation; not trusted: Lean checks it. -/
import Derived.Test.YtpbcamdjcnokfaaPx0
import Derived.Test.YtpbcamdjcnokfaaPx1
import Derived.Test.YtpbcamdjcnokfaaPx2
import Derived.Test.YtpbcamdjcnokfaaPx3
import Derived.Test.YtpbcamdjcnokfaaPx4
import Derived.Test.YtpbcamdjcnokfaaPx5
import Derived.Test.YtpbcamdjcnokfaaPx6
import Derived.Test.YtpbcamdjcnokfaaPx7
namespace Go.Proofs.Ytpbcamdjcnokfaa.P
open Go.RowKit Go.Proofs.YtpbcamdjcnokfaaW.PrintWords Go.Proofs.YtpbcamdjcnokfaaW.PrintLast Go.Proofs.YtpbcamdjcnokfaaW.PrintMore
attribute [local go_sem] max2_int min2_int max_two min_two max_three min_three max_four min_four   -- for this text's walks alone
set_option linter.unusedVariables false
set_option linter.unusedSimpArgs false

attribute [local go_sem high] eqA63
/-! ### tontinelaw19_MailPlays: function 11 -/
mutual
def tontinelaw19_MailPlays.l0 : Nat → List (S61) → Int → List (S63) → Int → Int → List (S63) → Option (Bool)
  | 0, _, _, _, _, _, _ => none
  | k + 1, x1, x7, x183000, x183001, x188000, x188001 => if x7 < (x1.length : Int) then (if 0 ≤ x7 then (if ((rd_T61 x1 x7).f0) ≤ 2 then ((mail_Box_Put.f k x183000 x183001 ((rd_T61 x1 x7).f1) ((rd_T61 x1 x7).f2)).bind fun bt195 => ((tontineref15_Box_Put.f k x188000 x188001 ((rd_T61 x1 x7).f1) ((rd_T61 x1 x7).f2)).bind fun bt199 => (if (bt195.1 != bt199.1) = true then (some false) else (tontinelaw19_MailPlays.j1 k x1 x7 bt195.2 x183001 x188000 bt199.2 ((rd_T61 x1 x7).f0) ((rd_T61 x1 x7).f1) ((rd_T61 x1 x7).f2))))) else ((mail_Box_Take.f x183000 x183001).bind fun bt203 => ((tontineref15_Box_Take.f x188000 x188001).bind fun bt210 => (if (!(bt203.1 == bt210.1) || (!(bt203.2.1 == bt210.2.1))) = true then (some false) else (if (bt203.2.2.1 != bt210.2.2.1) = true then (some false) else (tontinelaw19_MailPlays.j1 k x1 x7 bt203.2.2.2 x183001 x188000 bt210.2.2.2 ((rd_T61 x1 x7).f0) ((rd_T61 x1 x7).f1) ((rd_T61 x1 x7).f2))))))) else (none)) else (some true)
def tontinelaw19_MailPlays.j1 : Nat → List (S61) → Int → List (S63) → Int → Int → List (S63) → Int → Int → Int → Option (Bool)
  | 0, _, _, _, _, _, _, _, _, _ => none
  | k + 1, x1, x7, x183000, x183001, x188000, x188001, x194000, x194001, x194002 => (mail_Box_Len.f x183000 x183001).bind fun bt217 => (if bt217.1 = (x188001.length : Int) then ((mail_Box_Waits.f k bt217.2 x183001 x194001).bind fun bt219 => ((tontineref15_Box_Waits.f k x188000 x188001 x194001).bind fun bt221 => (if bt219.1 = bt221.1 then (tontinelaw19_MailPlays.l0 k x1 (wrap64 (x7 + 1)) bt219.2 x183001 x188000 bt221.2) else (some false)))) else (some false))
end
def tontinelaw19_MailPlays.f (k : Nat) (a0 : Int) (l1 : List (S61)) : Option (Bool) := (tontinelaw19_known.f k).bind fun t181 => (if t181 = true then (if (l1.length : Int) > 80 then (some true) else ((mail_New.f a0).bind fun bt183 => ((tontineref15_NewBox.f a0).bind fun bt188 => (tontinelaw19_MailPlays.l0 k l1 0 bt183.1 bt183.2 bt188.1 bt188.2)))) else (some false))
theorem tontinelaw19_MailPlays.mono_l : ∀ k, (∀ y0 y1 y2 y3 y4 y5, LeO (tontinelaw19_MailPlays.l0 k y0 y1 y2 y3 y4 y5) (tontinelaw19_MailPlays.l0 (k + 1) y0 y1 y2 y3 y4 y5)) ∧ (∀ y0 y1 y2 y3 y4 y5 y6 y7 y8, LeO (tontinelaw19_MailPlays.j1 k y0 y1 y2 y3 y4 y5 y6 y7 y8) (tontinelaw19_MailPlays.j1 (k + 1) y0 y1 y2 y3 y4 y5 y6 y7 y8))
  | 0 => ⟨fun _ _ _ _ _ _ r h => by simp [tontinelaw19_MailPlays.l0] at h, fun _ _ _ _ _ _ _ _ _ r h => by simp [tontinelaw19_MailPlays.j1] at h⟩
  | k + 1 => by
    obtain ⟨ih0, ih1⟩ := tontinelaw19_MailPlays.mono_l k
    refine ⟨?_, ?_⟩
    · intro y0 y1 y2 y3 y4 y5
      unfold tontinelaw19_MailPlays.l0
      repeat' first
      | (with_reducible exact ih0 _ _ _ _ _ _)
      | (with_reducible exact ih1 _ _ _ _ _ _ _ _ _)
      | (with_reducible exact mail_Box_Put.mono _ _ _ _ _)
      | (with_reducible exact mail_Box_Waits.mono _ _ _ _)
      | (with_reducible exact tontinelaw19_known.mono _)
      | (with_reducible exact tontineref15_Box_Put.mono _ _ _ _ _)
      | (with_reducible exact tontineref15_Box_Waits.mono _ _ _ _)
      | (with_reducible exact LeO.refl _)
      | (with_reducible exact LeO.none _)
      | (with_reducible refine LeO.ite ?_ ?_)
      | (with_reducible refine LeO.bind ?_ (fun _ => ?_))
      | exact ih0 _ _ _ _ _ _
      | exact ih1 _ _ _ _ _ _ _ _ _
      | exact mail_Box_Put.mono _ _ _ _ _
      | exact mail_Box_Waits.mono _ _ _ _
      | exact tontinelaw19_known.mono _
      | exact tontineref15_Box_Put.mono _ _ _ _ _
      | exact tontineref15_Box_Waits.mono _ _ _ _
      | exact LeO.none _
      | refine LeO.ite ?_ ?_
      | refine LeO.bind ?_ (fun _ => ?_)
    · intro y0 y1 y2 y3 y4 y5 y6 y7 y8
      unfold tontinelaw19_MailPlays.j1
      repeat' first
      | (with_reducible exact ih0 _ _ _ _ _ _)
      | (with_reducible exact ih1 _ _ _ _ _ _ _ _ _)
      | (with_reducible exact mail_Box_Put.mono _ _ _ _ _)
      | (with_reducible exact mail_Box_Waits.mono _ _ _ _)
      | (with_reducible exact tontinelaw19_known.mono _)
      | (with_reducible exact tontineref15_Box_Put.mono _ _ _ _ _)
      | (with_reducible exact tontineref15_Box_Waits.mono _ _ _ _)
      | (with_reducible exact LeO.refl _)
      | (with_reducible exact LeO.none _)
      | (with_reducible refine LeO.ite ?_ ?_)
      | (with_reducible refine LeO.bind ?_ (fun _ => ?_))
      | exact ih0 _ _ _ _ _ _
      | exact ih1 _ _ _ _ _ _ _ _ _
      | exact mail_Box_Put.mono _ _ _ _ _
      | exact mail_Box_Waits.mono _ _ _ _
      | exact tontinelaw19_known.mono _
      | exact tontineref15_Box_Put.mono _ _ _ _ _
      | exact tontineref15_Box_Waits.mono _ _ _ _
      | exact LeO.none _
      | refine LeO.ite ?_ ?_
      | refine LeO.bind ?_ (fun _ => ?_)
theorem tontinelaw19_MailPlays.mono : ∀ a0 a1 k, LeO (tontinelaw19_MailPlays.f k a0 a1) (tontinelaw19_MailPlays.f (k + 1) a0 a1) := by
 intro a0 a1 k
 obtain ⟨ih0, ih1⟩ := tontinelaw19_MailPlays.mono_l k
 unfold tontinelaw19_MailPlays.f
 repeat' first
   | (with_reducible exact ih0 _ _ _ _ _ _)
   | (with_reducible exact ih1 _ _ _ _ _ _ _ _ _)
   | (with_reducible exact mail_Box_Put.mono _ _ _ _ _)
   | (with_reducible exact mail_Box_Waits.mono _ _ _ _)
   | (with_reducible exact tontinelaw19_known.mono _)
   | (with_reducible exact tontineref15_Box_Put.mono _ _ _ _ _)
   | (with_reducible exact tontineref15_Box_Waits.mono _ _ _ _)
   | (with_reducible exact LeO.refl _)
   | (with_reducible exact LeO.none _)
   | (with_reducible refine LeO.ite ?_ ?_)
   | (with_reducible refine LeO.bind ?_ (fun _ => ?_))
   | exact ih0 _ _ _ _ _ _
   | exact ih1 _ _ _ _ _ _ _ _ _
   | exact mail_Box_Put.mono _ _ _ _ _
   | exact mail_Box_Waits.mono _ _ _ _
   | exact tontinelaw19_known.mono _
   | exact tontineref15_Box_Put.mono _ _ _ _ _
   | exact tontineref15_Box_Waits.mono _ _ _ _
   | exact LeO.none _
   | refine LeO.ite ?_ ?_
   | refine LeO.bind ?_ (fun _ => ?_)
def tontinelaw19_MailPlays.T18 : Bool × List (List Nat × List Nat) := (true, [([], []), ([0], [0]), ([], []), ([2], [2]), ([3], [3]), ([4], [4]), ([5], [5]), ([1, 6], [1, 6]), ([7, 1], [7]), ([8], [8]), ([8], [8]), ([10, 8], [8, 10]), ([9, 11, 8, 8], [8, 9, 11]), ([8], [8]), ([8], [8]), ([14, 8], [8, 14]), ([13, 15, 12, 8], [8, 13, 15]), ([12, 16, 8], [8, 12, 16]), ([8, 17], [8, 17])])
def tontinelaw19_MailPlays.B18 : List Nat := [0, 1, 0, 4, 12, 28, 60, 127, 255, 511, 511, 1535, 4095, 511, 511, 16895, 65535, 131071, 262143]
theorem tontinelaw19_MailPlays.tab18 : rtab .any (opsOf Try.f11 18) = tontinelaw19_MailPlays.T18 := by kernel_rfl
theorem tontinelaw19_MailPlays.bits18 : waitsOk tontinelaw19_MailPlays.T18.2 tontinelaw19_MailPlays.B18 = true := by kernel_rfl
set_option maxHeartbeats 8000000 in
set_option maxRecDepth 100000 in
theorem tontinelaw19_MailPlays.calls (k : Nat) (a0 : Int) (A1 : Option Addr) (c1 : Nat) (l1 : List (S61)) (r : Bool) (hrt : r = true) (w : World) (hr1 : Kd.C k61 w A1 l1.length l1) (hc1 : l1.length ≤ c1) (h : tontinelaw19_MailPlays.f k a0 l1 = some r) :
    Calls Try.prog 11 #[.int .i64 a0, .slice A1 l1.length c1] w fun e w' => e = .returned (.bool r) ∧ Below w.heap.size w w' := by
 have hu61 := Try.underlying61; have hu63 := Try.underlying63
 have HR1 := Goto.m0 hr1
 have HC1 := Goto.m0 hc1
 clear hr1 hc1
 have HB := Goto.m0 (Below.refl w.heap.size w)
 have HRT := Goto.m0 hrt
 clear hrt
 have H : ((tontinelaw19_known.f k).bind fun t181 => (if t181 = true then (if (l1.length : Int) > 80 then (some true) else ((mail_New.f a0).bind fun bt183 => ((tontineref15_NewBox.f a0).bind fun bt188 => (tontinelaw19_MailPlays.l0 k l1 0 bt183.1 bt183.2 bt188.1 bt188.2)))) else (some false))) = some r := h
 clear h
 replace H := Option.bind_eq_some_iff.mp H
 obtain ⟨t181, A30, H⟩ := H
 have A3 := Goto.m0 A30
 clear A30
 by_cases c4 : t181 = true
 ·
  subst c4
  rw [if_pos rfl] at H
  by_cases c5 : (l1.length : Int) > 80
  ·
   rw [if_pos c5] at H
   have c5b0 : decide (80 < (l1.length : Int)) = true := decide_eq_true c5
   have c5b1 : decide (80 < l1.length) = true := decide_eq_true (by omega)
   clear c5
   obtain rfl := Option.some.inj H
   go_enter Try.func11, Try.ntmps11
   go_wp2_with (first | ((with_reducible refine gate_callee (f := 37) rfl ?_); refine goesL_ (some 14) rfl rfl Try.func37 (by kernel_rfl) rfl #[] rfl (by (try simp only [List.map_toArray, List.map_cons, List.map_nil]); first | done | rfl | (simp only [List.length_drop, List.length_take]; rfl)) ?_; (with_reducible refine (tontinelaw19_known.calls k  true (by first | rfl | assumption | (simp only [Bool.not_eq_true, Bool.not_eq_false] at *; assumption)) _ A3.out).mono ?_); rintro e w6 ⟨rfl, hb⟩; refine ⟨_, rfl, ?_⟩; replace HB := Goto.hs HB hb; (try clear hb); (try clear hb2); (try clear hk); (try clear hi)))
   go_ret
   exact ⟨by first | rfl | (simp [errW_none, errW_some] <;> rfl) | (simp [*, errW_none, errW_some] <;> rfl), by repeat (first | (with_reducible first | exact HB.out | apply below_alloc | apply pw_below_drewN | apply below_drew1) | exact HB.out)⟩
  ·
   rw [if_neg c5] at H
   have c5b0 : decide (80 < (l1.length : Int)) = false := decide_eq_false c5
   have c5b1 : decide (80 < l1.length) = false := decide_eq_false (by omega)
   clear c5
   replace H := Option.bind_eq_some_iff.mp H
   obtain ⟨⟨t183, t186⟩, A70, H⟩ := H
   replace H : ((tontineref15_NewBox.f a0).bind fun bt188 => (tontinelaw19_MailPlays.l0 k l1 0 t183 t186 bt188.1 bt188.2)) = some r := H
   have A7 := Goto.m0 A70
   clear A70
   replace H := Option.bind_eq_some_iff.mp H
   obtain ⟨⟨t188, t189⟩, A80, H⟩ := H
   replace H : (tontinelaw19_MailPlays.l0 k l1 0 t183 t186 t188 t189) = some r := H
   have A8 := Goto.m0 A80
   clear A80
   have H' := Goto.m0 H
   clear H
   go_enter Try.func11, Try.ntmps11
   go_wp2_with (first | ((with_reducible refine gate_callee (f := 37) rfl ?_); refine goesL_ (some 14) rfl rfl Try.func37 (by kernel_rfl) rfl #[] rfl (by (try simp only [List.map_toArray, List.map_cons, List.map_nil]); first | done | rfl | (simp only [List.length_drop, List.length_take]; rfl)) ?_; (with_reducible refine (tontinelaw19_known.calls k  true (by first | rfl | assumption | (simp only [Bool.not_eq_true, Bool.not_eq_false] at *; assumption)) _ A3.out).mono ?_); rintro e w9 ⟨rfl, hb⟩; refine ⟨_, rfl, ?_⟩; replace HB := Goto.hs HB hb; (try clear hb); (try clear hb2); (try clear hk); (try clear hi)) | ((with_reducible refine gate_callee (f := 38) rfl ?_); refine goesL_ (some 20) rfl rfl Try.func38 (by kernel_rfl) rfl #[.int .i64 a0] rfl (by (try simp only [List.map_toArray, List.map_cons, List.map_nil]); first | done | rfl | (simp only [List.length_drop, List.length_take]; rfl)) ?_; (with_reducible refine (mail_New.calls a0 t183 t186 _ A7.out).mono ?_); rintro e w10 ⟨v184, gb182, rfl, ho0, hi, hge, hb⟩; refine ⟨_, rfl, ?_⟩; have HO185 := Goto.m0 (Kd.R_lower ho0 (below_size (Goto.hx HB))); have BK182 := Goto.m0 (hi); have GW182 := Goto.m0 ((Nat.le_trans (below_size (Goto.hx HB)) hge : w.heap.size ≤ gb182)); have GE182 := Goto.m0 ((Nat.le_trans (below_size (Goto.hx HB)) hge : w.heap.size ≤ gb182)); replace HB := Goto.hs HB hb; (try clear hb); (try clear hi); (try clear hge); (try clear ho0)) | ((with_reducible refine gate_callee (f := 39) rfl ?_); refine goesL_ (some 22) rfl rfl Try.func39 (by kernel_rfl) rfl #[.int .i64 a0] rfl (by (try simp only [List.map_toArray, List.map_cons, List.map_nil]); first | done | rfl | (simp only [List.length_drop, List.length_take]; rfl)) ?_; (with_reducible refine (tontineref15_NewBox.calls a0 t188 t189 _ A8.out).mono ?_); rintro e w11 ⟨v190, gb187, rfl, ho0, hi, hge, hb⟩; refine ⟨_, rfl, ?_⟩; have HO191 := Goto.m0 (Kd.Q_lower (Kd.Q_new' ho0 (Kd.R_lt (by (with_reducible repeat (first | apply Kd.R_alloc | apply Kd.R_drewN | apply Kd.R_drew)); exact HO185.out))) (below_size (Goto.hx HB))); have BK187 := Goto.m0 (hi); have GW187 := Goto.m0 ((Nat.le_trans (below_size (Goto.hx HB)) hge : w.heap.size ≤ gb187)); have GE187 := Goto.m0 ((Nat.le_trans (below_size (Goto.hx HB)) hge : w.heap.size ≤ gb187)); have NB182_187 := Goto.m0 ((Nat.ne_of_lt (Nat.lt_of_lt_of_le (blk_lt (g := gb182) (o := .cells #[v184, .int .i64 t186] 83 (0, 0)) (Goto.bx BK182)) hge) : gb182 ≠ gb187)); have NB187_182 := Goto.m0 ((Nat.ne_of_gt (Nat.lt_of_lt_of_le (blk_lt (g := gb182) (o := .cells #[v184, .int .i64 t186] 83 (0, 0)) (Goto.bx BK182)) hge) : gb187 ≠ gb182)); replace HO185 := Goto.m0 (Kd.R_elder' (by (with_reducible repeat (first | apply Kd.R_alloc | apply Kd.R_drewN | apply Kd.R_drew)); exact HO185.out) (Kd.Q_base ho0) hb); replace BK182 := Goto.bb BK182 hb; replace HB := Goto.hs HB hb; (try clear hb); (try clear hi); (try clear hge); (try clear ho0)))
   go_loopg [7] k (fun kq v7 w' => ∃ (x7_1 : Int) (x183000_1 : List (S63)) (x188001_1 : List (S63)) (u183000 : Value) (u188001 : Value), v7 = .int .i64 x7_1 ∧ Aside0 (tontinelaw19_MailPlays.l0 kq l1 x7_1 x183000_1 t186 t188 x188001_1 = some r) ∧ Aside0 (kq ≤ k) ∧ Aside0 (Kd.R k63 63 w' w.heap.size (fun k_ => some k_ ≠ (u188001 : Value).ownBlock) u183000 x183000_1) ∧ Aside0 (Kd.Q k63 63 w' w.heap.size (fun k_ => some k_ ≠ (u183000 : Value).ownBlock) u188001 x188001_1) ∧ Aside0 (w'.heap[gb182]? = some (.cells #[u183000, .int .i64 t186] 83 (0, 0))) ∧ Aside0 (w'.heap[gb187]? = some (.cells #[.int .i64 t188, u188001] 69 (0, 0))) ∧ Aside0 (Below w.heap.size w w'))
   case atStart => exact ⟨(0), (t183), (t189), (v184), (v190), (by first | rfl | (simp; done) | (simp [*]; done)), H', ⟨Nat.le_refl _⟩, ⟨by (with_reducible repeat (first | apply Kd.R_alloc | apply Kd.R_drewN | apply Kd.R_drew)); exact Kd.R_mono HO185.out (fun _ hk => hk.2)⟩, ⟨by (with_reducible repeat (first | apply Kd.Q_alloc | apply Kd.Q_drewN | apply Kd.Q_drew)); exact Kd.Q_mono HO191.out (fun _ hk => hk.2)⟩, ⟨Goto.bx BK182⟩, ⟨Goto.bx BK187⟩, ⟨Goto.hx HB⟩⟩
   case round =>
    clear H'
    try clear c1; try clear p2; try clear c3; try clear c4; try clear c5; try clear c5b0; try clear c5b1; try clear c11
    obtain ⟨x7_1, x183000_1, x188001_1, u183000, u188001, rfl, HA, HK1, HO_183000, HO_188001, BK182, BK187, HB⟩ := hrel
    cases gk with
    | zero => exact absurd HA.out (by simp [tontinelaw19_MailPlays.l0])
    | succ k1 =>
     have H := HA.out; clear HA
     simp only [tontinelaw19_MailPlays.l0] at H
     by_cases c12 : x7_1 < (l1.length : Int)
     ·
      rw [if_pos c12] at H
      have c12b0 : decide (x7_1 < (l1.length : Int)) = true := decide_eq_true c12
      clear c12
      by_cases c13 : 0 ≤ x7_1
      ·
       rw [if_pos c13] at H
       have c13b0 : decide (0 ≤ x7_1) = true := decide_eq_true c13
       clear c13
       have HC14 := Goto.m0 H
       clear H
       have p192 : 0 ≤ (x7_1 : Int) := of_decide_eq_true (by first | (with_reducible assumption) | assumption)
       have q192 : x7_1 < (l1.length : Int) := of_decide_eq_true (by first | (with_reducible assumption) | assumption)
       obtain ⟨ad192, e192, hx192_0, hx192_1, hx192_2⟩ := at_T61 HR1.out x7_1 p192 q192
       cases e192
       replace hx192_0 := Goto.kc HB.out hx192_0
       replace hx192_1 := Goto.kc HB.out hx192_1
       replace hx192_2 := Goto.kc HB.out hx192_2
       replace p192 := eq_true p192; replace q192 := eq_true q192
       go_upto_if 35 with (first | ((with_reducible refine gate_dst (N := 8) rfl ?_); refine box_event ?hg (N := 8) ?hd (cs := #[.int .i64 0, .int .i64 0, .int .i64 0]) (t := 61) ?hr ?_; (case hd => rfl); (case hg => rfl); (case hr => first | (go_simp; done) | (go_simp; rfl)); intro gb193 hg w15 hbox hb; have BK193 := Goto.m0 (hbox); have GW193 := Goto.gs HB hg; have GE193 := Goto.gs HB hg; have NB182_193 := Goto.nl BK182 hg; have NB193_182 := Goto.nr BK182 hg; have NB187_193 := Goto.nl BK187 hg; have NB193_187 := Goto.nr BK187 hg; replace HO_183000 := Goto.m0 (Kd.R_below (by (with_reducible repeat (first | apply Kd.R_alloc | apply Kd.R_drewN | apply Kd.R_drew)); exact HO_183000.out) hb); replace HO_188001 := Goto.m0 (Kd.Q_below (by (with_reducible repeat (first | apply Kd.Q_alloc | apply Kd.Q_drewN | apply Kd.Q_drew)); exact HO_188001.out) hb); replace BK182 := Goto.bb BK182 hb; replace BK187 := Goto.bb BK187 hb; replace HB := Goto.hs HB hb; clear hb hbox hg; have hnb16 := NB193_182.out; have hnc16 := NB182_193.out; have hnb17 := NB193_187.out; have hnc17 := NB187_193.out; have hcz18_0 : w15.cell? ⟨gb193, 0, none⟩ = some (.int .i64 0) := (blk_cell BK193.out 0).trans rfl; have hcz18_1 : w15.cell? ⟨gb193, 1, none⟩ = some (.int .i64 0) := (blk_cell BK193.out 1).trans rfl; have hcz18_2 : w15.cell? ⟨gb193, 2, none⟩ = some (.int .i64 0) := (blk_cell BK193.out 2).trans rfl; have hfz18_0 := blk_frozen BK193.out 0; have hfz18_1 := blk_frozen BK193.out 1; have hfz18_2 := blk_frozen BK193.out 2) | ((with_reducible refine gate_store (t := 61) (p := 8) rfl ?_); refine store_event (t := 61) (p := 8) (v := ?vo_w19) (w1 := (((w15.setCell ⟨gb193, 0, none⟩ (.int .i64 ((rd_T61 l1 x7_1).f0))).setCell ⟨gb193, 1, none⟩ (.int .i64 ((rd_T61 l1 x7_1).f1))).setCell ⟨gb193, 2, none⟩ (.int .i64 ((rd_T61 l1 x7_1).f2)))) ?hg ?ho ?hn ?hr ?_; (case ho => rfl); (case hg => rfl); (case hn => rfl); (case hr => first | (go_simp; done) | (go_simp; rfl)); intro w19 hw; have n0_ : Aside0 (Kd.R k63 63 w19 w.heap.size (fun k_ => some k_ ≠ (u188001 : Value).ownBlock) u183000 x183000_1) := ⟨(by rw [hw]; exact (by (with_reducible repeat (first | apply Kd.R_alloc | apply Kd.R_drewN | apply Kd.R_drew)); exact Kd.R_mono (Kd.R_far (p := ⟨gb193, 2, none⟩) (Kd.R_far (p := ⟨gb193, 1, none⟩) (Kd.R_far (p := ⟨gb193, 0, none⟩) (Kd.R_types HO_183000.out BK193.out (by decide)) (fun _ hk => hk.2) (.int .i64 ((rd_T61 l1 x7_1).f0))) (fun _ hk => hk.2) (.int .i64 ((rd_T61 l1 x7_1).f1))) (fun _ hk => hk.2) (.int .i64 ((rd_T61 l1 x7_1).f2))) (fun _ hk => hk.1)))⟩; have n1_ : Aside0 (Kd.Q k63 63 w19 w.heap.size (fun k_ => some k_ ≠ (u183000 : Value).ownBlock) u188001 x188001_1) := ⟨(by rw [hw]; exact (by (with_reducible repeat (first | apply Kd.Q_alloc | apply Kd.Q_drewN | apply Kd.Q_drew)); exact Kd.Q_mono (Kd.Q_far (p := ⟨gb193, 2, none⟩) (Kd.Q_far (p := ⟨gb193, 1, none⟩) (Kd.Q_far (p := ⟨gb193, 0, none⟩) (Kd.Q_types HO_188001.out BK193.out (by decide)) (fun _ hk => hk.2) (.int .i64 ((rd_T61 l1 x7_1).f0))) (fun _ hk => hk.2) (.int .i64 ((rd_T61 l1 x7_1).f1))) (fun _ hk => hk.2) (.int .i64 ((rd_T61 l1 x7_1).f2))) (fun _ hk => hk.1)))⟩; have n2_ : Aside0 (w19.heap[gb182]? = some (.cells #[u183000, .int .i64 t186] 83 (0, 0))) := ⟨(by rw [hw]; exact (Goto.bx BK182))⟩; have n3_ : Aside0 (w19.heap[gb187]? = some (.cells #[.int .i64 t188, u188001] 69 (0, 0))) := ⟨(by rw [hw]; exact (Goto.bx BK187))⟩; have n4_ : Aside0 (w19.heap[gb193]? = some (.cells #[.int .i64 ((rd_T61 l1 x7_1).f0), .int .i64 ((rd_T61 l1 x7_1).f1), .int .i64 ((rd_T61 l1 x7_1).f2)] 61 (0, 0))) := ⟨(by rw [hw]; exact (Goto.bx BK193))⟩; have n5_ : Aside0 (Below w.heap.size w w19) := ⟨(by rw [hw]; exact (Goto.hx HB))⟩; clear hw; clear HO_183000; clear HO_188001; clear BK182; clear BK187; clear BK193; clear HB; have HO_183000 := n0_; have HO_188001 := n1_; have BK182 := n2_; have BK187 := n3_; have BK193 := n4_; have HB := n5_; clear n0_ n1_ n2_ n3_ n4_ n5_; have hcz20_0 : w19.cell? ⟨gb193, 0, none⟩ = some (.int .i64 ((rd_T61 l1 x7_1).f0)) := (blk_cell BK193.out 0).trans rfl; have hcz20_1 : w19.cell? ⟨gb193, 1, none⟩ = some (.int .i64 ((rd_T61 l1 x7_1).f1)) := (blk_cell BK193.out 1).trans rfl; have hcz20_2 : w19.cell? ⟨gb193, 2, none⟩ = some (.int .i64 ((rd_T61 l1 x7_1).f2)) := (blk_cell BK193.out 2).trans rfl; have hfz20_0 := blk_frozen BK193.out 0; have hfz20_1 := blk_frozen BK193.out 1; have hfz20_2 := blk_frozen BK193.out 2))
       (try simp only [Act.put, List.setIfInBounds_toArray, List.set_cons_zero, List.set_cons_succ])
       go_cut [] (fun wc => ∃ (kq : Nat) (x183000_13 : List (S63)) (x188001_13 : List (S63)) (u183000 : Value) (u188001 : Value), Aside0 (tontinelaw19_MailPlays.j1 kq l1 x7_1 x183000_13 t186 t188 x188001_13 ((rd_T61 l1 x7_1).f0) ((rd_T61 l1 x7_1).f1) ((rd_T61 l1 x7_1).f2) = some r) ∧ Aside0 (kq ≤ k1) ∧ Aside0 (Kd.R k63 63 wc w.heap.size (fun k_ => some k_ ≠ (u188001 : Value).ownBlock) u183000 x183000_13) ∧ Aside0 (Kd.Q k63 63 wc w.heap.size (fun k_ => some k_ ≠ (u183000 : Value).ownBlock) u188001 x188001_13) ∧ Aside0 (wc.heap[gb182]? = some (.cells #[u183000, .int .i64 t186] 83 (0, 0))) ∧ Aside0 (wc.heap[gb187]? = some (.cells #[.int .i64 t188, u188001] 69 (0, 0))) ∧ Aside0 (wc.heap[gb193]? = some (.cells #[.int .i64 ((rd_T61 l1 x7_1).f0), .int .i64 ((rd_T61 l1 x7_1).f1), .int .i64 ((rd_T61 l1 x7_1).f2)] 61 (0, 0))) ∧ Aside0 (Below w.heap.size w wc))
       case first =>
        have H := HC14.out; clear HC14
        by_cases c21 : ((rd_T61 l1 x7_1).f0) ≤ 2
        ·
         rw [if_pos c21] at H
         have c21b0 : decide (((rd_T61 l1 x7_1).f0) ≤ 2) = true := decide_eq_true c21
         clear c21
         (first | rw [c21b0] | (simp only [i64_w, i32_w]; rw [c21b0]) | skip)
         replace H := Option.bind_eq_some_iff.mp H
         obtain ⟨⟨t195, t196⟩, A220, H⟩ := H
         replace H : ((tontineref15_Box_Put.f k1 t188 x188001_1 ((rd_T61 l1 x7_1).f1) ((rd_T61 l1 x7_1).f2)).bind fun bt199 => (if (t195 != bt199.1) = true then (some false) else (tontinelaw19_MailPlays.j1 k1 l1 x7_1 t196 t186 t188 bt199.2 ((rd_T61 l1 x7_1).f0) ((rd_T61 l1 x7_1).f1) ((rd_T61 l1 x7_1).f2)))) = some r := H
         have A22 := Goto.m0 A220
         clear A220
         replace H := Option.bind_eq_some_iff.mp H
         obtain ⟨⟨t199, t200⟩, A230, H⟩ := H
         replace H : (if (t195 != t199) = true then (some false) else (tontinelaw19_MailPlays.j1 k1 l1 x7_1 t196 t186 t188 t200 ((rd_T61 l1 x7_1).f0) ((rd_T61 l1 x7_1).f1) ((rd_T61 l1 x7_1).f2))) = some r := H
         have A23 := Goto.m0 A230
         clear A230
         by_cases c24 : (t195 != t199) = true
         ·
          rw [if_pos c24] at H
          have c24b0 : (t195 != t199) = true := c24
          (try (have c24b1 : decide (t195 = t199) = false := by simpa using c24))
          (try (have c24b2 : (t195 == t199) = false := by simpa using c24))
          (try (have c24b3 : ¬ (t195 = t199) := by simpa using c24))
          clear c24
          exact absurd ((Option.some.inj H).trans HRT.out) (by decide)
         ·
          rw [if_neg c24] at H
          have c24b0 : (t195 != t199) = false := by simpa using c24
          (try (have c24b1 : decide (t195 = t199) = true := by simpa using c24))
          (try (have c24b2 : (t195 == t199) = true := by simpa using c24))
          clear c24
          have H' := Goto.m0 H
          clear H; have hnb25 := NB193_182.out; have hnc25 := NB182_193.out; have hnb26 := NB193_187.out; have hnc26 := NB187_193.out
          have hcz27_0 : w19.cell? ⟨gb193, 0, none⟩ = some (.int .i64 ((rd_T61 l1 x7_1).f0)) := (blk_cell BK193.out 0).trans rfl
          have hcz27_1 : w19.cell? ⟨gb193, 1, none⟩ = some (.int .i64 ((rd_T61 l1 x7_1).f1)) := (blk_cell BK193.out 1).trans rfl
          have hcz27_2 : w19.cell? ⟨gb193, 2, none⟩ = some (.int .i64 ((rd_T61 l1 x7_1).f2)) := (blk_cell BK193.out 2).trans rfl
          have hfz27_0 := blk_frozen BK193.out 0; have hfz27_1 := blk_frozen BK193.out 1; have hfz27_2 := blk_frozen BK193.out 2
          try go_wp2_with (first | ((with_reducible refine gate_dst (N := 9) rfl ?_); refine box_event ?hg (N := 9) ?hd (cs := #[.int .i64 0, .int .i64 0]) (t := 63) ?hr ?_; (case hd => rfl); (case hg => rfl); (case hr => first | (go_simp; done) | (go_simp; rfl)); intro gb194 hg w28 hbox hb; have BK194 := Goto.m0 (hbox); have GW194 := Goto.gs HB hg; have GE194 := Goto.gs HB hg; have NB182_194 := Goto.nl BK182 hg; have NB194_182 := Goto.nr BK182 hg; have NB187_194 := Goto.nl BK187 hg; have NB194_187 := Goto.nr BK187 hg; have NB193_194 := Goto.nl BK193 hg; have NB194_193 := Goto.nr BK193 hg; replace HO_183000 := Goto.m0 (Kd.R_below (Kd.R_elderB (by (with_reducible repeat (first | apply Kd.R_alloc | apply Kd.R_drewN | apply Kd.R_drew)); exact HO_183000.out) gb194 (Nat.le_of_eq hg.symm)) hb); replace HO_188001 := Goto.m0 (Kd.Q_below (Kd.Q_elderB (by (with_reducible repeat (first | apply Kd.Q_alloc | apply Kd.Q_drewN | apply Kd.Q_drew)); exact HO_188001.out) gb194 (Nat.le_of_eq hg.symm)) hb); replace BK182 := Goto.bb BK182 hb; replace BK187 := Goto.bb BK187 hb; replace BK193 := Goto.bb BK193 hb; replace HB := Goto.hs HB hb; clear hb hbox hg; have hnb29 := NB194_182.out; have hnc29 := NB182_194.out; have hnb30 := NB194_187.out; have hnc30 := NB187_194.out; have hnb31 := NB194_193.out; have hnc31 := NB193_194.out; have hcz32_0 : w28.cell? ⟨gb194, 0, none⟩ = some (.int .i64 0) := (blk_cell BK194.out 0).trans rfl; have hcz32_1 : w28.cell? ⟨gb194, 1, none⟩ = some (.int .i64 0) := (blk_cell BK194.out 1).trans rfl; have hfz32_0 := blk_frozen BK194.out 0; have hfz32_1 := blk_frozen BK194.out 1))
          have n0_ : Aside0 (Kd.R k63 63 ((w28.setCell ⟨gb194, 0, none⟩ (.int .i64 ((rd_T61 l1 x7_1).f1))).setCell ⟨gb194, 1, none⟩ (.int .i64 ((rd_T61 l1 x7_1).f2))) w.heap.size (fun k_ => some k_ ≠ (u188001 : Value).ownBlock ∧ k_ ≠ gb194) u183000 x183000_1) := ⟨by (with_reducible repeat (first | apply Kd.R_alloc | apply Kd.R_drewN | apply Kd.R_drew)); exact Kd.R_mono (Kd.R_far (p := ⟨gb194, 1, none⟩) (Kd.R_far (p := ⟨gb194, 0, none⟩) (Goto.nx gb194 HO_183000.out (fun k_ hk => hk.2)) (fun _ hk => hk.2) (.int .i64 ((rd_T61 l1 x7_1).f1))) (fun _ hk => hk.2) (.int .i64 ((rd_T61 l1 x7_1).f2))) (fun _ hk => ⟨hk.1.1, hk.1.2⟩)⟩
          have n1_ : Aside0 (Kd.Q k63 63 ((w28.setCell ⟨gb194, 0, none⟩ (.int .i64 ((rd_T61 l1 x7_1).f1))).setCell ⟨gb194, 1, none⟩ (.int .i64 ((rd_T61 l1 x7_1).f2))) w.heap.size (fun k_ => some k_ ≠ (u183000 : Value).ownBlock ∧ k_ ≠ gb194) u188001 x188001_1) := ⟨by (with_reducible repeat (first | apply Kd.Q_alloc | apply Kd.Q_drewN | apply Kd.Q_drew)); exact Kd.Q_mono (Kd.Q_far (p := ⟨gb194, 1, none⟩) (Kd.Q_far (p := ⟨gb194, 0, none⟩) (Kd.Q_mono HO_188001.out (fun k_ hk => (⟨hk, hk.2⟩ : _ ∧ k_ ≠ gb194))) (fun _ hk => hk.2) (.int .i64 ((rd_T61 l1 x7_1).f1))) (fun _ hk => hk.2) (.int .i64 ((rd_T61 l1 x7_1).f2))) (fun _ hk => ⟨hk.1.1, hk.1.2⟩)⟩
          have n2_ : Aside0 (((w28.setCell ⟨gb194, 0, none⟩ (.int .i64 ((rd_T61 l1 x7_1).f1))).setCell ⟨gb194, 1, none⟩ (.int .i64 ((rd_T61 l1 x7_1).f2))).heap[gb182]? = some (.cells #[u183000, .int .i64 t186] 83 (0, 0))) := ⟨Goto.bx BK182⟩
          have n3_ : Aside0 (((w28.setCell ⟨gb194, 0, none⟩ (.int .i64 ((rd_T61 l1 x7_1).f1))).setCell ⟨gb194, 1, none⟩ (.int .i64 ((rd_T61 l1 x7_1).f2))).heap[gb187]? = some (.cells #[.int .i64 t188, u188001] 69 (0, 0))) := ⟨Goto.bx BK187⟩
          have n4_ : Aside0 (((w28.setCell ⟨gb194, 0, none⟩ (.int .i64 ((rd_T61 l1 x7_1).f1))).setCell ⟨gb194, 1, none⟩ (.int .i64 ((rd_T61 l1 x7_1).f2))).heap[gb193]? = some (.cells #[.int .i64 ((rd_T61 l1 x7_1).f0), .int .i64 ((rd_T61 l1 x7_1).f1), .int .i64 ((rd_T61 l1 x7_1).f2)] 61 (0, 0))) := ⟨Goto.bx BK193⟩
          have n5_ : Aside0 (((w28.setCell ⟨gb194, 0, none⟩ (.int .i64 ((rd_T61 l1 x7_1).f1))).setCell ⟨gb194, 1, none⟩ (.int .i64 ((rd_T61 l1 x7_1).f2))).heap[gb194]? = some (.cells #[.int .i64 ((rd_T61 l1 x7_1).f1), .int .i64 ((rd_T61 l1 x7_1).f2)] 63 (0, 0))) := ⟨Goto.bx BK194⟩
          have n6_ : Aside0 (Below w.heap.size w ((w28.setCell ⟨gb194, 0, none⟩ (.int .i64 ((rd_T61 l1 x7_1).f1))).setCell ⟨gb194, 1, none⟩ (.int .i64 ((rd_T61 l1 x7_1).f2)))) := ⟨Goto.hx HB⟩
          (try clear HO_183000)
          (try clear HO_188001)
          (try clear BK182)
          (try clear BK187)
          (try clear BK193)
          (try clear BK194)
          (try clear HB)
          generalize ((w28.setCell ⟨gb194, 0, none⟩ (.int .i64 ((rd_T61 l1 x7_1).f1))).setCell ⟨gb194, 1, none⟩ (.int .i64 ((rd_T61 l1 x7_1).f2))) = w33 at n0_ n1_ n2_ n3_ n4_ n5_ n6_ ⊢
          have HO_183000 := n0_; have HO_188001 := n1_; have BK182 := n2_; have BK187 := n3_; have BK193 := n4_; have BK194 := n5_; have HB := n6_; clear n0_ n1_ n2_ n3_ n4_ n5_ n6_
          replace HO_183000 := Goto.m0 (Kd.R_drew HO_183000.out); replace HO_188001 := Goto.m0 (Kd.Q_drew HO_188001.out); replace BK182 := Goto.m0 (blk_drew BK182.out); replace BK187 := Goto.m0 (blk_drew BK187.out); replace BK193 := Goto.m0 (blk_drew BK193.out); replace BK194 := Goto.m0 (blk_drew BK194.out); replace HB := Goto.m0 (below_drew1 HB.out)
          refine start_ (n := 7) (S := fun w' => w'.cell? ⟨gb194, 0, none⟩ = some (.int .i64 ((rd_T61 l1 x7_1).f1)) ∧ w'.cell? ⟨gb194, 1, none⟩ = some (.int .i64 ((rd_T61 l1 x7_1).f2))) (ds := []) #[false, false, false, false, false, false, false] (by kernel_rfl) rfl rfl ⟨(blk_cell BK194.out 0).trans rfl, (blk_cell BK194.out 1).trans rfl⟩ (fun hHeld => ?_)
          generalize w33.drew = w34 at HO_183000 HO_188001 BK182 BK187 BK193 BK194 HB hHeld ⊢
          refine pure_ (i := 0) (N := some 41) (v := ?_) (a' := ?_) #[true, false, false, false, false, false, false] rfl rfl (by kernel_rfl) (fun _ _ _ h => h) (Or.inl ⟨by rfl, ?_⟩) ?_ ?_
          rotate_left
          ·
           intro w'
           go_simp
           with_reducible rfl
          rotate_left
          ·
           exact Goto.ap
          refine pure_ (i := 3) (N := some 44) (v := ?_) (a' := ?_) #[true, false, false, true, false, false, false] rfl rfl (by kernel_rfl) (fun _ _ _ h => h) (Or.inl ⟨by rfl, ?_⟩) ?_ ?_
          rotate_left
          ·
           intro w'
           go_simp
           with_reducible rfl
          rotate_left
          ·
           exact Goto.ap
          refine take_ (i := 1) (N := some 42) (v := ?_) (a' := ?_) #[true, true, false, true, false, false, false] rfl rfl (by kernel_rfl) (fun _ _ _ h => h) (Or.inl ⟨by rfl, ?_⟩) hHeld ?_ ?_
          rotate_left
          ·
           rintro w' ⟨s0, s1⟩
           go_simp
           with_reducible rfl
          rotate_left
          ·
           exact Goto.ap
          refine take_ (i := 4) (N := some 45) (v := ?_) (a' := ?_) #[true, true, false, true, true, false, false] rfl rfl (by kernel_rfl) (fun _ _ _ h => h) (Or.inl ⟨by rfl, ?_⟩) hHeld ?_ ?_
          rotate_left
          ·
           rintro w' ⟨s0, s1⟩
           go_simp
           with_reducible rfl
          rotate_left
          ·
           exact Goto.ap
          refine one_ (i := 2) (N := some 43) #[true, true, true, true, true, false, false] rfl rfl (by kernel_rfl) (by decide) (fun K hK => ?_)
          refine goes_ Try.func40 (by kernel_rfl) rfl #[.pointer (some ⟨gb182, 0, none⟩), .agg #[.int .i64 ((rd_T61 l1 x7_1).f1), .int .i64 ((rd_T61 l1 x7_1).f2)]] (by rfl) rfl rfl (by (try simp only [List.map_toArray, List.map_cons, List.map_nil]); first | done | rfl | (simp only [List.length_drop, List.length_take]; rfl)) ?_
          with_reducible refine (mail_Box_Put.calls k1 gb182 (fun k_ => some k_ = (u183000 : Value).ownBlock) u183000 x183000_1 t186 ((rd_T61 l1 x7_1).f1) ((rd_T61 l1 x7_1).f2) t195 t196 w _ ?side1 ?side2 ?side3 ?side4 A22.out).mono ?_
          (case side1 => exact by (with_reducible repeat first | refine blk_drewN ?_ _ | refine blk_drew ?_ | refine blk_alloc ?_ _); exact BK182.out)
          (case side2 => exact GE182.out)
          (case side3 => repeat (first | (with_reducible first | exact HB.out | apply below_alloc | apply pw_below_drewN | apply below_drew1 | refine below_set ?_ GE182.out | refine below_set ?_ GE187.out | refine below_set ?_ GE193.out | refine below_set ?_ GE194.out) | exact HB.out))
          (case side4 => exact Kd.R_tight rfl HO_183000.out)
          rintro e w35 ⟨v197, rfl, ho0, hi, hb, hkp⟩
          refine ⟨_, rfl, ?_⟩
          have n0_ := Goto.m0 (Kd.Q_mono (ok' := fun k_ => k_ ≠ gb194 ∧ some k_ ≠ (v197 : Value).ownBlock) (Kd.Q_keptB ((Kd.Q_types HO_188001.out BK182.out (by decide))) hkp (fun k_ hk_ hs_ => Or.elim hs_ (fun hs_ => (hk_.1.1) hs_) (fun e_ => (hk_.2) e_))) (fun k_ hk_ => ⟨hk_.1.1.2, fun e_ => Or.elim (ho0.1 k_ e_.symm) (fun hs_ => hk_.2.1 (.inl hs_)) (fun hn_ => Nat.not_le.2 hk_.2.2 hn_)⟩))
          have n1_ := Goto.m0 (hi)
          have n2_ := Goto.m0 (blk_kept (Goto.bx BK187) hkp (fun hs_ => Or.elim hs_ (fun hs_ => (fun e_ => (Kd.R_ne HO_183000.out BK187.out (by decide)) e_) hs_) (fun e_ => NB187_182.out e_)))
          have n3_ := Goto.m0 (blk_kept (Goto.bx BK193) hkp (fun hs_ => Or.elim hs_ (fun hs_ => (fun e_ => (Kd.R_ne HO_183000.out BK193.out (by decide)) e_) hs_) (fun e_ => NB193_182.out e_)))
          have n4_ := Goto.m0 (blk_kept (Goto.bx BK194) hkp (fun hs_ => Or.elim hs_ (fun hs_ => (fun e_ => (Kd.R_away HO_183000.out (fun _ hk => hk.2)) e_) hs_) (fun e_ => NB194_182.out e_)))
          have n5_ := Goto.m0 (Kd.R_mono (ok' := fun k_ => some k_ ≠ (u188001 : Value).ownBlock ∧ k_ ≠ gb194) ho0 (fun k_ hk_ => ⟨Or.elim hk_ (fun hs_ => fun e_ => ((((Kd.Q_types HO_188001.out BK182.out (by decide))).1 k_ e_.symm).1.1) hs_) (fun hn_ => (Kd.fresh' (Kd.Q_lt (by (with_reducible repeat (first | apply Kd.Q_alloc | apply Kd.Q_drewN | apply Kd.Q_drew)); exact HO_188001.out)) k_ hn_)), Or.elim hk_ (fun hs_ => fun e_ => (Kd.R_away HO_183000.out (fun _ hk => hk.2)) (by rw [← e_]; exact hs_)) (fun hn_ => (Kd.freshB (g := gb194) (o := .cells #[.int .i64 ((rd_T61 l1 x7_1).f1), .int .i64 ((rd_T61 l1 x7_1).f2)] 63 (0, 0)) (Goto.bx BK194) k_ hn_))⟩))
          have n6_ := Goto.m0 (hb)
          clear HO_188001; clear BK182; clear BK187; clear BK193; clear BK194; clear HB; clear HO_183000; have HO_188001 := n0_; have BK182 := n1_; have BK187 := n2_; have BK193 := n3_; have BK194 := n4_; have HO198 := n5_; have HB := n6_; clear n0_ n1_ n2_ n3_ n4_ n5_ n6_
          (try clear hb)
          (try clear hkp)
          (try clear ho0)
          refine hK.out _ _ ⟨(blk_cell BK194.out 0).trans rfl, (blk_cell BK194.out 1).trans rfl⟩ (fun hHeld => ?_)
          clear hK K
          refine norm_ (a' := ?_) ?_ ?_
          rotate_left
          ·
           show Act.put _ (some 43) _ = _
           exact Goto.ap
          refine one_ (i := 5) (N := some 46) #[true, true, true, true, true, true, false] rfl rfl (by kernel_rfl) (by decide) (fun K hK => ?_)
          refine goes_ Try.func41 (by kernel_rfl) rfl #[.pointer (some ⟨gb187, 0, none⟩), .agg #[.int .i64 ((rd_T61 l1 x7_1).f1), .int .i64 ((rd_T61 l1 x7_1).f2)]] (by rfl) rfl rfl (by (try simp only [List.map_toArray, List.map_cons, List.map_nil]); first | done | rfl | (simp only [List.length_drop, List.length_take]; rfl)) ?_
          with_reducible refine (tontineref15_Box_Put.calls k1 gb187 t188 (fun k_ => some k_ = (u188001 : Value).ownBlock) u188001 x188001_1 ((rd_T61 l1 x7_1).f1) ((rd_T61 l1 x7_1).f2) t199 t200 w _ ?side1 ?side2 ?side3 ?side4 A23.out).mono ?_
          (case side1 => exact by (with_reducible repeat first | refine blk_drewN ?_ _ | refine blk_drew ?_ | refine blk_alloc ?_ _); exact BK187.out)
          (case side2 => exact GE187.out)
          (case side3 => repeat (first | (with_reducible first | exact HB.out | apply below_alloc | apply pw_below_drewN | apply below_drew1 | refine below_set ?_ GE182.out | refine below_set ?_ GE187.out | refine below_set ?_ GE193.out | refine below_set ?_ GE194.out) | exact HB.out))
          (case side4 => exact Goto.Q_tight rfl (HO_188001.out))
          rintro e w36 ⟨v201, rfl, ho0, hi, hb, hkp⟩
          refine ⟨_, rfl, ?_⟩
          have n0_ := Goto.m0 (blk_kept (Goto.bx BK182) hkp (fun hs_ => Or.elim hs_ (fun hs_ => (fun e_ => (Kd.Q_ne HO_188001.out BK182.out (by decide)) e_) hs_) (fun e_ => NB182_187.out e_)))
          have n1_ := Goto.m0 (hi)
          have n2_ := Goto.m0 (blk_kept (Goto.bx BK193) hkp (fun hs_ => Or.elim hs_ (fun hs_ => (fun e_ => (Kd.Q_ne HO_188001.out BK193.out (by decide)) e_) hs_) (fun e_ => NB193_187.out e_)))
          have n3_ := Goto.m0 (blk_kept (Goto.bx BK194) hkp (fun hs_ => Or.elim hs_ (fun hs_ => (fun e_ => (Kd.Q_away HO_188001.out (fun _ hk => hk.1)) e_) hs_) (fun e_ => NB194_187.out e_)))
          have n4_ := Goto.m0 (Kd.R_mono (ok' := fun k_ => k_ ≠ gb194 ∧ some k_ ≠ (v201 : Value).ownBlock) (Kd.R_keptB ((Kd.R_types HO198.out BK187.out (by decide))) hkp (fun k_ hk_ hs_ => Or.elim hs_ (fun hs_ => (hk_.1.1) hs_) (fun e_ => (hk_.2) e_))) (fun k_ hk_ => ⟨hk_.1.1.2, fun e_ => Or.elim (ho0.1 k_ e_.symm) (fun hs_ => hk_.2.1 (.inl hs_)) (fun hn_ => Nat.not_le.2 hk_.2.2 hn_)⟩))
          have n5_ := Goto.m0 (Kd.Q_mono (ok' := fun k_ => some k_ ≠ (v197 : Value).ownBlock ∧ k_ ≠ gb194) ho0 (fun k_ hk_ => ⟨Or.elim hk_ (fun hs_ => fun e_ => ((((Kd.R_types HO198.out BK187.out (by decide))).1 k_ e_.symm).1.1) hs_) (fun hn_ => (Kd.fresh' (Kd.R_lt (by (with_reducible repeat (first | apply Kd.R_alloc | apply Kd.R_drewN | apply Kd.R_drew)); exact HO198.out)) k_ hn_)), Or.elim hk_ (fun hs_ => fun e_ => (Kd.Q_away HO_188001.out (fun _ hk => hk.1)) (by rw [← e_]; exact hs_)) (fun hn_ => (Kd.freshB (g := gb194) (o := .cells #[.int .i64 ((rd_T61 l1 x7_1).f1), .int .i64 ((rd_T61 l1 x7_1).f2)] 63 (0, 0)) (Goto.bx BK194) k_ hn_))⟩))
          have n6_ := Goto.m0 (hb)
          clear BK182; clear BK187; clear BK193; clear BK194; clear HO198; clear HB; clear HO_188001; have BK182 := n0_; have BK187 := n1_; have BK193 := n2_; have BK194 := n3_; have HO198 := n4_; have HO202 := n5_; have HB := n6_; clear n0_ n1_ n2_ n3_ n4_ n5_ n6_
          (try clear hb)
          (try clear hkp)
          (try clear ho0)
          refine hK.out _ _ ⟨(blk_cell BK194.out 0).trans rfl, (blk_cell BK194.out 1).trans rfl⟩ (fun hHeld => ?_)
          clear hK K
          refine norm_ (a' := ?_) ?_ ?_
          rotate_left
          ·
           show Act.put _ (some 46) _ = _
           exact Goto.ap
          refine pure_ (i := 6) (N := some 47) (v := ?_) (a' := ?_) #[true, true, true, true, true, true, true] rfl rfl (by kernel_rfl) (fun _ _ _ h => h) (Or.inl ⟨by rfl, ?_⟩) ?_ ?_
          rotate_left
          ·
           intro w'
           go_simp
           with_reducible rfl
          rotate_left
          ·
           exact Goto.ap
          refine done_ (by kernel_rfl) ?_
          try go_wp2
          go_meet
          case rel => exact ⟨_, (t196), (t200), (v197), (v201), H', ⟨by have := HK1.out; first | omega | exact Nat.le_refl _⟩, ⟨by (with_reducible repeat (first | apply Kd.R_alloc | apply Kd.R_drewN | apply Kd.R_drew)); exact Kd.R_mono HO198.out (fun _ hk => hk.2)⟩, ⟨by (with_reducible repeat (first | apply Kd.Q_alloc | apply Kd.Q_drewN | apply Kd.Q_drew)); exact Kd.Q_mono HO202.out (fun _ hk => hk.1)⟩, ⟨Goto.bx BK182⟩, ⟨Goto.bx BK187⟩, ⟨Goto.bx BK193⟩, ⟨Goto.hx HB⟩⟩
        ·
         rw [if_neg c21] at H
         have c21b0 : decide (((rd_T61 l1 x7_1).f0) ≤ 2) = false := decide_eq_false c21
         clear c21
         (first | rw [c21b0] | (simp only [i64_w, i32_w]; rw [c21b0]) | skip)
         replace H := Option.bind_eq_some_iff.mp H
         obtain ⟨⟨t203, t204, t205, t206⟩, A370, H⟩ := H
         replace H : ((tontineref15_Box_Take.f t188 x188001_1).bind fun bt210 => (if (!(t203 == bt210.1) || (!(t204 == bt210.2.1))) = true then (some false) else (if (t205 != bt210.2.2.1) = true then (some false) else (tontinelaw19_MailPlays.j1 k1 l1 x7_1 t206 t186 t188 bt210.2.2.2 ((rd_T61 l1 x7_1).f0) ((rd_T61 l1 x7_1).f1) ((rd_T61 l1 x7_1).f2))))) = some r := H
         have A37 := Goto.m0 A370
         clear A370
         replace H := Option.bind_eq_some_iff.mp H
         obtain ⟨⟨t210, t211, t212, t213⟩, A380, H⟩ := H
         replace H : (if (!(t203 == t210) || (!(t204 == t211))) = true then (some false) else (if (t205 != t212) = true then (some false) else (tontinelaw19_MailPlays.j1 k1 l1 x7_1 t206 t186 t188 t213 ((rd_T61 l1 x7_1).f0) ((rd_T61 l1 x7_1).f1) ((rd_T61 l1 x7_1).f2)))) = some r := H
         have A38 := Goto.m0 A380
         clear A380
         by_cases c39 : (!(t203 == t210) || (!(t204 == t211))) = true
         ·
          rw [if_pos c39] at H
          have c39b0 : (!(t203 == t210) || (!(t204 == t211))) = true := c39
          clear c39
          exact absurd ((Option.some.inj H).trans HRT.out) (by decide)
         ·
          rw [if_neg c39] at H
          have c39b0 : (!(t203 == t210) || (!(t204 == t211))) = false := by simpa using c39
          clear c39
          by_cases c40 : (t205 != t212) = true
          ·
           rw [if_pos c40] at H
           have c40b0 : (t205 != t212) = true := c40
           (try (have c40b1 : decide (t205 = t212) = false := by simpa using c40))
           (try (have c40b2 : (t205 == t212) = false := by simpa using c40))
           (try (have c40b3 : ¬ (t205 = t212) := by simpa using c40))
           clear c40
           exact absurd ((Option.some.inj H).trans HRT.out) (by decide)
          ·
           rw [if_neg c40] at H
           have c40b0 : (t205 != t212) = false := by simpa using c40
           (try (have c40b1 : decide (t205 = t212) = true := by simpa using c40))
           (try (have c40b2 : (t205 == t212) = true := by simpa using c40))
           clear c40
           have H' := Goto.m0 H
           clear H
           go_wp2_with (first | ((with_reducible refine gate_callee (f := 42) rfl ?_); refine goesL_ (some 50) rfl rfl Try.func42 (by kernel_rfl) rfl #[.pointer (some ⟨gb182, 0, none⟩)] rfl (by (try simp only [List.map_toArray, List.map_cons, List.map_nil]); first | done | rfl | (simp only [List.length_drop, List.length_take]; rfl)) ?_; (with_reducible refine (mail_Box_Take.calls gb182 (fun k_ => some k_ = (u183000 : Value).ownBlock) u183000 x183000_1 t186 t203 t204 t205 t206 w _ ?side1 ?side2 ?side3 ?side4 A37.out).mono ?_); (case side1 => exact by (with_reducible repeat first | refine blk_drewN ?_ _ | refine blk_drew ?_ | refine blk_alloc ?_ _); exact BK182.out); (case side2 => exact GE182.out); (case side3 => repeat (first | (with_reducible first | exact HB.out | apply below_alloc | apply pw_below_drewN | apply below_drew1 | refine below_set ?_ GE182.out | refine below_set ?_ GE187.out | refine below_set ?_ GE193.out) | exact HB.out)); (case side4 => exact Kd.R_tight rfl HO_183000.out); rintro e w41 ⟨v207, rfl, ho0, hi, hb, hkp⟩; refine ⟨_, rfl, ?_⟩; have n0_ := Goto.m0 (Kd.Q_mono (ok' := fun k_ => some k_ ≠ (v207 : Value).ownBlock) (Kd.Q_keptB ((Kd.Q_types HO_188001.out BK182.out (by decide))) hkp (fun k_ hk_ hs_ => Or.elim hs_ (fun hs_ => (hk_.1) hs_) (fun e_ => (hk_.2) e_))) (fun k_ hk_ => fun e_ => Or.elim (ho0.1 k_ e_.symm) (fun hs_ => hk_.2.1 (.inl hs_)) (fun hn_ => Nat.not_le.2 hk_.2.2 hn_))); have n1_ := Goto.m0 (hi); have n2_ := Goto.m0 (blk_kept (Goto.bx BK187) hkp (fun hs_ => Or.elim hs_ (fun hs_ => (fun e_ => (Kd.R_ne HO_183000.out BK187.out (by decide)) e_) hs_) (fun e_ => NB187_182.out e_))); have n3_ := Goto.m0 (blk_kept (Goto.bx BK193) hkp (fun hs_ => Or.elim hs_ (fun hs_ => (fun e_ => (Kd.R_ne HO_183000.out BK193.out (by decide)) e_) hs_) (fun e_ => NB193_182.out e_))); have n4_ := Goto.m0 (Kd.R_mono (ok' := fun k_ => some k_ ≠ (u188001 : Value).ownBlock) ho0 (fun k_ hk_ => Or.elim hk_ (fun hs_ => fun e_ => ((((Kd.Q_types HO_188001.out BK182.out (by decide))).1 k_ e_.symm).1) hs_) (fun hn_ => (Kd.fresh' (Kd.Q_lt (by (with_reducible repeat (first | apply Kd.Q_alloc | apply Kd.Q_drewN | apply Kd.Q_drew)); exact HO_188001.out)) k_ hn_)))); have n5_ := Goto.m0 (hb); clear HO_188001; clear BK182; clear BK187; clear BK193; clear HB; clear HO_183000; have HO_188001 := n0_; have BK182 := n1_; have BK187 := n2_; have BK193 := n3_; have HO208 := n4_; have HB := n5_; clear n0_ n1_ n2_ n3_ n4_ n5_; (try clear hb); (try clear hkp); (try clear ho0)) | ((with_reducible refine gate_dst (N := 10) rfl ?_); refine box_event ?hg (N := 10) ?hd (cs := #[.int .i64 0, .int .i64 0]) (t := 63) ?hr ?_; (case hd => rfl); (case hg => rfl); (case hr => first | (go_simp; done) | (go_simp; rfl)); intro gb209 hg w42 hbox hb; have BK209 := Goto.m0 (hbox); have GW209 := Goto.gs HB hg; have GE209 := Goto.gs HB hg; have NB182_209 := Goto.nl BK182 hg; have NB209_182 := Goto.nr BK182 hg; have NB187_209 := Goto.nl BK187 hg; have NB209_187 := Goto.nr BK187 hg; have NB193_209 := Goto.nl BK193 hg; have NB209_193 := Goto.nr BK193 hg; replace HO_188001 := Goto.m0 (Kd.Q_below (Kd.Q_elderB (by (with_reducible repeat (first | apply Kd.Q_alloc | apply Kd.Q_drewN | apply Kd.Q_drew)); exact HO_188001.out) gb209 (Nat.le_of_eq hg.symm)) hb); replace HO208 := Goto.m0 (Kd.R_below (Kd.R_elderB (by (with_reducible repeat (first | apply Kd.R_alloc | apply Kd.R_drewN | apply Kd.R_drew)); exact HO208.out) gb209 (Nat.le_of_eq hg.symm)) hb); replace BK182 := Goto.bb BK182 hb; replace BK187 := Goto.bb BK187 hb; replace BK193 := Goto.bb BK193 hb; replace HB := Goto.hs HB hb; clear hb hbox hg; have hnb43 := NB209_182.out; have hnc43 := NB182_209.out; have hnb44 := NB209_187.out; have hnc44 := NB187_209.out; have hnb45 := NB209_193.out; have hnc45 := NB193_209.out; have hcz46_0 : w42.cell? ⟨gb209, 0, none⟩ = some (.int .i64 0) := (blk_cell BK209.out 0).trans rfl; have hcz46_1 : w42.cell? ⟨gb209, 1, none⟩ = some (.int .i64 0) := (blk_cell BK209.out 1).trans rfl; have hfz46_0 := blk_frozen BK209.out 0; have hfz46_1 := blk_frozen BK209.out 1) | ((with_reducible refine gate_store (t := 63) (p := 10) rfl ?_); refine store_event (t := 63) (p := 10) (v := ?vo_w47) (w1 := ((w42.setCell ⟨gb209, 0, none⟩ (.int .i64 t203)).setCell ⟨gb209, 1, none⟩ (.int .i64 t204))) ?hg ?ho ?hn ?hr ?_; (case ho => rfl); (case hg => rfl); (case hn => rfl); (case hr => first | (go_simp; done) | (go_simp; rfl)); intro w47 hw; have n0_ : Aside0 (Kd.Q k63 63 w47 w.heap.size (fun k_ => some k_ ≠ (v207 : Value).ownBlock ∧ k_ ≠ gb209) u188001 x188001_1) := ⟨(by rw [hw]; exact (by (with_reducible repeat (first | apply Kd.Q_alloc | apply Kd.Q_drewN | apply Kd.Q_drew)); exact Kd.Q_mono (Kd.Q_far (p := ⟨gb209, 1, none⟩) (Kd.Q_far (p := ⟨gb209, 0, none⟩) (Kd.Q_mono HO_188001.out (fun k_ hk => (⟨hk, hk.2⟩ : _ ∧ k_ ≠ gb209))) (fun _ hk => hk.2) (.int .i64 t203)) (fun _ hk => hk.2) (.int .i64 t204)) (fun _ hk => ⟨hk.1.1, hk.1.2⟩)))⟩; have n1_ : Aside0 (Kd.R k63 63 w47 w.heap.size (fun k_ => some k_ ≠ (u188001 : Value).ownBlock ∧ k_ ≠ gb209) v207 t206) := ⟨(by rw [hw]; exact (by (with_reducible repeat (first | apply Kd.R_alloc | apply Kd.R_drewN | apply Kd.R_drew)); exact Kd.R_mono (Kd.R_far (p := ⟨gb209, 1, none⟩) (Kd.R_far (p := ⟨gb209, 0, none⟩) (Goto.nx gb209 HO208.out (fun k_ hk => hk.2)) (fun _ hk => hk.2) (.int .i64 t203)) (fun _ hk => hk.2) (.int .i64 t204)) (fun _ hk => ⟨hk.1.1, hk.1.2⟩)))⟩; have n2_ : Aside0 (w47.heap[gb182]? = some (.cells #[v207, .int .i64 t186] 83 (0, 0))) := ⟨(by rw [hw]; exact (Goto.bx BK182))⟩; have n3_ : Aside0 (w47.heap[gb187]? = some (.cells #[.int .i64 t188, u188001] 69 (0, 0))) := ⟨(by rw [hw]; exact (Goto.bx BK187))⟩; have n4_ : Aside0 (w47.heap[gb193]? = some (.cells #[.int .i64 ((rd_T61 l1 x7_1).f0), .int .i64 ((rd_T61 l1 x7_1).f1), .int .i64 ((rd_T61 l1 x7_1).f2)] 61 (0, 0))) := ⟨(by rw [hw]; exact (Goto.bx BK193))⟩; have n5_ : Aside0 (w47.heap[gb209]? = some (.cells #[.int .i64 t203, .int .i64 t204] 63 (0, 0))) := ⟨(by rw [hw]; exact (Goto.bx BK209))⟩; have n6_ : Aside0 (Below w.heap.size w w47) := ⟨(by rw [hw]; exact (Goto.hx HB))⟩; clear hw; clear HO_188001; clear HO208; clear BK182; clear BK187; clear BK193; clear BK209; clear HB; have HO_188001 := n0_; have HO208 := n1_; have BK182 := n2_; have BK187 := n3_; have BK193 := n4_; have BK209 := n5_; have HB := n6_; clear n0_ n1_ n2_ n3_ n4_ n5_ n6_) | ((with_reducible refine gate_callee (f := 43) rfl ?_); refine goesL_ (some 55) rfl rfl Try.func43 (by kernel_rfl) rfl #[.pointer (some ⟨gb187, 0, none⟩)] rfl (by (try simp only [List.map_toArray, List.map_cons, List.map_nil]); first | done | rfl | (simp only [List.length_drop, List.length_take]; rfl)) ?_; (with_reducible refine (tontineref15_Box_Take.calls gb187 t188 (fun k_ => some k_ = (u188001 : Value).ownBlock) u188001 x188001_1 t210 t211 t212 t213 w _ ?side1 ?side2 ?side3 ?side4 A38.out).mono ?_); (case side1 => exact by (with_reducible repeat first | refine blk_drewN ?_ _ | refine blk_drew ?_ | refine blk_alloc ?_ _); exact BK187.out); (case side2 => exact GE187.out); (case side3 => repeat (first | (with_reducible first | exact HB.out | apply below_alloc | apply pw_below_drewN | apply below_drew1 | refine below_set ?_ GE182.out | refine below_set ?_ GE187.out | refine below_set ?_ GE193.out | refine below_set ?_ GE209.out) | exact HB.out)); (case side4 => exact Goto.Q_tight rfl (HO_188001.out)); rintro e w48 ⟨v214, rfl, ho0, hi, hb, hkp⟩; refine ⟨_, rfl, ?_⟩; have n0_ := Goto.m0 (blk_kept (Goto.bx BK182) hkp (fun hs_ => Or.elim hs_ (fun hs_ => (fun e_ => (Kd.Q_ne HO_188001.out BK182.out (by decide)) e_) hs_) (fun e_ => NB182_187.out e_))); have n1_ := Goto.m0 (hi); have n2_ := Goto.m0 (blk_kept (Goto.bx BK193) hkp (fun hs_ => Or.elim hs_ (fun hs_ => (fun e_ => (Kd.Q_ne HO_188001.out BK193.out (by decide)) e_) hs_) (fun e_ => NB193_187.out e_))); have n3_ := Goto.m0 (Kd.R_mono (ok' := fun k_ => k_ ≠ gb209 ∧ some k_ ≠ (v214 : Value).ownBlock) (Kd.R_keptB ((Kd.R_types HO208.out BK187.out (by decide))) hkp (fun k_ hk_ hs_ => Or.elim hs_ (fun hs_ => (hk_.1.1) hs_) (fun e_ => (hk_.2) e_))) (fun k_ hk_ => ⟨hk_.1.1.2, fun e_ => Or.elim (ho0.1 k_ e_.symm) (fun hs_ => hk_.2.1 (.inl hs_)) (fun hn_ => Nat.not_le.2 hk_.2.2 hn_)⟩)); have n4_ := Goto.m0 (blk_kept (Goto.bx BK209) hkp (fun hs_ => Or.elim hs_ (fun hs_ => (fun e_ => (Kd.Q_away HO_188001.out (fun _ hk => hk.2)) e_) hs_) (fun e_ => NB209_187.out e_))); have n5_ := Goto.m0 (Kd.Q_mono (ok' := fun k_ => some k_ ≠ (v207 : Value).ownBlock ∧ k_ ≠ gb209) ho0 (fun k_ hk_ => ⟨Or.elim hk_ (fun hs_ => fun e_ => ((((Kd.R_types HO208.out BK187.out (by decide))).1 k_ e_.symm).1.1) hs_) (fun hn_ => (Kd.fresh' (Kd.R_lt (by (with_reducible repeat (first | apply Kd.R_alloc | apply Kd.R_drewN | apply Kd.R_drew)); exact HO208.out)) k_ hn_)), Or.elim hk_ (fun hs_ => fun e_ => (Kd.Q_away HO_188001.out (fun _ hk => hk.2)) (by rw [← e_]; exact hs_)) (fun hn_ => (Kd.freshB (g := gb209) (o := .cells #[.int .i64 t203, .int .i64 t204] 63 (0, 0)) (Goto.bx BK209) k_ hn_))⟩)); have n6_ := Goto.m0 (hb); clear BK182; clear BK187; clear BK193; clear HO208; clear BK209; clear HB; clear HO_188001; have BK182 := n0_; have BK187 := n1_; have BK193 := n2_; have HO208 := n3_; have BK209 := n4_; have HO215 := n5_; have HB := n6_; clear n0_ n1_ n2_ n3_ n4_ n5_ n6_; (try clear hb); (try clear hkp); (try clear ho0)) | ((with_reducible refine gate_dst (N := 12) rfl ?_); refine box_event ?hg (N := 12) ?hd (cs := #[.int .i64 0, .int .i64 0]) (t := 63) ?hr ?_; (case hd => rfl); (case hg => rfl); (case hr => first | (go_simp; done) | (go_simp; rfl)); intro gb216 hg w49 hbox hb; have BK216 := Goto.m0 (hbox); have GW216 := Goto.gs HB hg; have GE216 := Goto.gs HB hg; have NB182_216 := Goto.nl BK182 hg; have NB216_182 := Goto.nr BK182 hg; have NB187_216 := Goto.nl BK187 hg; have NB216_187 := Goto.nr BK187 hg; have NB193_216 := Goto.nl BK193 hg; have NB216_193 := Goto.nr BK193 hg; have NB209_216 := Goto.nl BK209 hg; have NB216_209 := Goto.nr BK209 hg; replace HO208 := Goto.m0 (Kd.R_below (Kd.R_elderB (by (with_reducible repeat (first | apply Kd.R_alloc | apply Kd.R_drewN | apply Kd.R_drew)); exact HO208.out) gb216 (Nat.le_of_eq hg.symm)) hb); replace HO215 := Goto.m0 (Kd.Q_below (Kd.Q_elderB (by (with_reducible repeat (first | apply Kd.Q_alloc | apply Kd.Q_drewN | apply Kd.Q_drew)); exact HO215.out) gb216 (Nat.le_of_eq hg.symm)) hb); replace BK182 := Goto.bb BK182 hb; replace BK187 := Goto.bb BK187 hb; replace BK193 := Goto.bb BK193 hb; replace BK209 := Goto.bb BK209 hb; replace HB := Goto.hs HB hb; clear hb hbox hg; have hnb50 := NB216_182.out; have hnc50 := NB182_216.out; have hnb51 := NB216_187.out; have hnc51 := NB187_216.out; have hnb52 := NB216_193.out; have hnc52 := NB193_216.out; have hnb53 := NB216_209.out; have hnc53 := NB209_216.out; have hcz54_0 : w49.cell? ⟨gb216, 0, none⟩ = some (.int .i64 0) := (blk_cell BK216.out 0).trans rfl; have hcz54_1 : w49.cell? ⟨gb216, 1, none⟩ = some (.int .i64 0) := (blk_cell BK216.out 1).trans rfl; have hfz54_0 := blk_frozen BK216.out 0; have hfz54_1 := blk_frozen BK216.out 1) | ((with_reducible refine gate_store (t := 63) (p := 12) rfl ?_); refine store_event (t := 63) (p := 12) (v := ?vo_w55) (w1 := ((w49.setCell ⟨gb216, 0, none⟩ (.int .i64 t210)).setCell ⟨gb216, 1, none⟩ (.int .i64 t211))) ?hg ?ho ?hn ?hr ?_; (case ho => rfl); (case hg => rfl); (case hn => rfl); (case hr => first | (go_simp; done) | (go_simp; rfl)); intro w55 hw; have n0_ : Aside0 (Kd.R k63 63 w55 w.heap.size (fun k_ => some k_ ≠ (v214 : Value).ownBlock ∧ k_ ≠ gb209 ∧ k_ ≠ gb216) v207 t206) := ⟨(by rw [hw]; exact (by (with_reducible repeat (first | apply Kd.R_alloc | apply Kd.R_drewN | apply Kd.R_drew)); exact Kd.R_mono (Kd.R_far (p := ⟨gb216, 1, none⟩) (Kd.R_far (p := ⟨gb216, 0, none⟩) (Goto.nx gb216 HO208.out (fun k_ hk => hk.2)) (fun _ hk => hk.2) (.int .i64 t210)) (fun _ hk => hk.2) (.int .i64 t211)) (fun _ hk => ⟨hk.1.1.2, ⟨hk.1.1.1, hk.1.2⟩⟩)))⟩; have n1_ : Aside0 (Kd.Q k63 63 w55 w.heap.size (fun k_ => some k_ ≠ (v207 : Value).ownBlock ∧ k_ ≠ gb209 ∧ k_ ≠ gb216) v214 t213) := ⟨(by rw [hw]; exact (by (with_reducible repeat (first | apply Kd.Q_alloc | apply Kd.Q_drewN | apply Kd.Q_drew)); exact Kd.Q_mono (Kd.Q_far (p := ⟨gb216, 1, none⟩) (Kd.Q_far (p := ⟨gb216, 0, none⟩) (Kd.Q_mono HO215.out (fun k_ hk => (⟨hk, hk.2⟩ : _ ∧ k_ ≠ gb216))) (fun _ hk => hk.2) (.int .i64 t210)) (fun _ hk => hk.2) (.int .i64 t211)) (fun _ hk => ⟨hk.1.1.1, ⟨hk.1.1.2, hk.1.2⟩⟩)))⟩; have n2_ : Aside0 (w55.heap[gb182]? = some (.cells #[v207, .int .i64 t186] 83 (0, 0))) := ⟨(by rw [hw]; exact (Goto.bx BK182))⟩; have n3_ : Aside0 (w55.heap[gb187]? = some (.cells #[.int .i64 t188, v214] 69 (0, 0))) := ⟨(by rw [hw]; exact (Goto.bx BK187))⟩; have n4_ : Aside0 (w55.heap[gb193]? = some (.cells #[.int .i64 ((rd_T61 l1 x7_1).f0), .int .i64 ((rd_T61 l1 x7_1).f1), .int .i64 ((rd_T61 l1 x7_1).f2)] 61 (0, 0))) := ⟨(by rw [hw]; exact (Goto.bx BK193))⟩; have n5_ : Aside0 (w55.heap[gb209]? = some (.cells #[.int .i64 t203, .int .i64 t204] 63 (0, 0))) := ⟨(by rw [hw]; exact (Goto.bx BK209))⟩; have n6_ : Aside0 (w55.heap[gb216]? = some (.cells #[.int .i64 t210, .int .i64 t211] 63 (0, 0))) := ⟨(by rw [hw]; exact (Goto.bx BK216))⟩; have n7_ : Aside0 (Below w.heap.size w w55) := ⟨(by rw [hw]; exact (Goto.hx HB))⟩; clear hw; clear HO208; clear HO215; clear BK182; clear BK187; clear BK193; clear BK209; clear BK216; clear HB; have HO208 := n0_; have HO215 := n1_; have BK182 := n2_; have BK187 := n3_; have BK193 := n4_; have BK209 := n5_; have BK216 := n6_; have HB := n7_; clear n0_ n1_ n2_ n3_ n4_ n5_ n6_ n7_; have hcz56_0 : w55.cell? ⟨gb209, 0, none⟩ = some (.int .i64 t203) := (blk_cell BK209.out 0).trans rfl; have hcz56_1 : w55.cell? ⟨gb209, 1, none⟩ = some (.int .i64 t204) := (blk_cell BK209.out 1).trans rfl; have hfz56_0 := blk_frozen BK209.out 0; have hfz56_1 := blk_frozen BK209.out 1; have hcz57_0 : w55.cell? ⟨gb216, 0, none⟩ = some (.int .i64 t210) := (blk_cell BK216.out 0).trans rfl; have hcz57_1 : w55.cell? ⟨gb216, 1, none⟩ = some (.int .i64 t211) := (blk_cell BK216.out 1).trans rfl; have hfz57_0 := blk_frozen BK216.out 0; have hfz57_1 := blk_frozen BK216.out 1))
           go_meet
           case rel => exact ⟨_, (t206), (t213), (v207), (v214), H', ⟨by have := HK1.out; first | omega | exact Nat.le_refl _⟩, ⟨by (with_reducible repeat (first | apply Kd.R_alloc | apply Kd.R_drewN | apply Kd.R_drew)); exact Kd.R_mono HO208.out (fun _ hk => hk.1)⟩, ⟨by (with_reducible repeat (first | apply Kd.Q_alloc | apply Kd.Q_drewN | apply Kd.Q_drew)); exact Kd.Q_mono HO215.out (fun _ hk => hk.1)⟩, ⟨Goto.bx BK182⟩, ⟨Goto.bx BK187⟩, ⟨Goto.bx BK193⟩, ⟨Goto.hx HB⟩⟩
       case rest =>
        clear HC14; try clear c1; try clear p1; try clear q1; try clear hx1; try clear c2; try clear p2; try clear c3; try clear c4; try clear c5; try clear c5b0; try clear c5b1; try clear c11; try clear c12; try clear c12b0; try clear c13; try clear c13b0; try clear c16; try clear c17; try clear p19; try clear q19; try clear hx19; try clear c21; try clear c21b0; try clear c24; try clear c24b0; try clear c24b1; try clear c24b2; try clear c25; try clear c26; try clear c29; try clear c30; try clear c31; try clear c37; try clear c38; try clear c39; try clear c39b0; try clear c40; try clear c40b0; try clear c40b1; try clear c40b2; try clear c41; try clear c42; try clear c43; try clear c44; try clear c45; try clear c50; try clear c51; try clear c52; try clear c53; try clear hcz18_0; try clear hcz18_1; try clear hcz18_2; try clear hcz20_0; try clear hcz20_1; try clear hcz20_2; try clear hcz27_0; try clear hcz27_1; try clear hcz27_2; try clear hcz32_0; try clear hcz32_1; try clear hcz46_0; try clear hcz46_1; try clear hcz54_0; try clear hcz54_1; try clear hcz56_0; try clear hcz56_1; try clear hcz57_0; try clear hcz57_1; try clear hfz18_0; try clear hfz18_1; try clear hfz18_2; try clear hfz20_0; try clear hfz20_1; try clear hfz20_2; try clear hfz27_0; try clear hfz27_1; try clear hfz27_2; try clear hfz32_0; try clear hfz32_1; try clear hfz46_0; try clear hfz46_1; try clear hfz54_0; try clear hfz54_1; try clear hfz56_0; try clear hfz56_1; try clear hfz57_0; try clear hfz57_1; try clear hx192_0; try clear hx192_1; try clear hx192_2; try clear p192; try clear p2; try clear q192
        obtain ⟨kq, x183000_13, x188001_13, u183000, u188001, HA, HJ13, HO_183000, HO_188001, BK182, BK187, BK193, HB⟩ := hcut
        cases kq with
        | zero => exact absurd HA.out (by simp [tontinelaw19_MailPlays.j1])
        | succ kj13 =>
         have H := HA.out; clear HA
         simp only [tontinelaw19_MailPlays.j1] at H
         replace H := Option.bind_eq_some_iff.mp H
         obtain ⟨⟨t217, t218⟩, A580, H⟩ := H
         replace H : (if t217 = (x188001_13.length : Int) then ((mail_Box_Waits.f kj13 t218 t186 ((rd_T61 l1 x7_1).f1)).bind fun bt219 => ((tontineref15_Box_Waits.f kj13 t188 x188001_13 ((rd_T61 l1 x7_1).f1)).bind fun bt221 => (if bt219.1 = bt221.1 then (tontinelaw19_MailPlays.l0 kj13 l1 (wrap64 (x7_1 + 1)) bt219.2 t186 t188 bt221.2) else (some false)))) else (some false)) = some r := H
         have A58 := Goto.m0 A580
         clear A580
         by_cases c59 : t217 = (x188001_13.length : Int)
         ·
          rw [if_pos c59] at H
          have c59b0 : (t217 == (x188001_13.length : Int)) = true := beq_iff_eq.mpr c59
          have c59b1 : (t217 != (x188001_13.length : Int)) = false := bne_eq_false_iff_eq.mpr c59
          clear c59
          replace H := Option.bind_eq_some_iff.mp H
          obtain ⟨⟨t219, t220⟩, A600, H⟩ := H
          replace H : ((tontineref15_Box_Waits.f kj13 t188 x188001_13 ((rd_T61 l1 x7_1).f1)).bind fun bt221 => (if t219 = bt221.1 then (tontinelaw19_MailPlays.l0 kj13 l1 (wrap64 (x7_1 + 1)) t220 t186 t188 bt221.2) else (some false))) = some r := H
          have A60 := Goto.m0 A600
          clear A600
          replace H := Option.bind_eq_some_iff.mp H
          obtain ⟨⟨t221, t222⟩, A610, H⟩ := H
          replace H : (if t219 = t221 then (tontinelaw19_MailPlays.l0 kj13 l1 (wrap64 (x7_1 + 1)) t220 t186 t188 t222) else (some false)) = some r := H
          have A61 := Goto.m0 A610
          clear A610
          by_cases c62 : t219 = t221
          ·
           rw [if_pos c62] at H
           have c62b0 : (t219 == t221) = true := beq_iff_eq.mpr c62
           have c62b1 : (t219 != t221) = false := bne_eq_false_iff_eq.mpr c62
           clear c62
           have H' := Goto.m0 H
           clear H
           try go_wp2
           replace HO_183000 := Goto.m0 (Kd.R_drew HO_183000.out); replace HO_188001 := Goto.m0 (Kd.Q_drew HO_188001.out); replace BK182 := Goto.m0 (blk_drew BK182.out); replace BK187 := Goto.m0 (blk_drew BK187.out); replace BK193 := Goto.m0 (blk_drew BK193.out); replace HB := Goto.m0 (below_drew1 HB.out)
           obtain ⟨Ao64, co64, eo64, _⟩ := Kd.Q_slice HO_188001.out
           (first | subst eo64 | (injection eo64 with f1_ f2_ f3_; have f4_ := f1_.symm; have f5_ := f3_.symm; clear f1_ f2_ f3_; subst f4_; subst f5_))
           refine start_ (n := 19) (S := fun w' => w'.cell? ⟨gb187, 0, none⟩ = some (.int .i64 t188) ∧ w'.cell? ⟨gb187, 1, none⟩ = some (.slice Ao64 x188001_13.length co64) ∧ w'.cell? ⟨gb193, 0, none⟩ = some (.int .i64 ((rd_T61 l1 x7_1).f0)) ∧ w'.cell? ⟨gb193, 1, none⟩ = some (.int .i64 ((rd_T61 l1 x7_1).f1)) ∧ w'.cell? ⟨gb193, 2, none⟩ = some (.int .i64 ((rd_T61 l1 x7_1).f2))) (ds := []) (.replicate 19 false) (by kernel_rfl) rfl rfl ⟨(blk_cell BK187.out 0).trans rfl, (blk_cell BK187.out 1).trans rfl, (blk_cell BK193.out 0).trans rfl, (blk_cell BK193.out 1).trans rfl, (blk_cell BK193.out 2).trans rfl⟩ (fun hHeld => ?_); refine with_tabW tontinelaw19_MailPlays.tab18 tontinelaw19_MailPlays.bits18 (fun HT_ HW_ => ?_)
           generalize wc.drew = w63 at HO_183000 HO_188001 BK182 BK187 BK193 HB hHeld ⊢
           refine pure_ (i := 0) (N := some 66) (v := ?_) (a' := ?_) (Goto.bs 19 1) rfl rfl (any_of HT_.out (by kernel_rfl)) (fun _ _ _ h => h) (Or.inl ⟨by rfl, ?_⟩) ?_ ?_
           rotate_left
           ·
            intro w'
            go_simp
            with_reducible rfl
           rotate_left
           ·
            exact Goto.ap
           refine pure_ (i := 2) (N := some 68) (v := ?_) (a' := ?_) (Goto.bs 19 5) rfl rfl (any_of HT_.out (by kernel_rfl)) (fun _ _ _ h => h) (Or.inl ⟨by rfl, ?_⟩) ?_ ?_
           rotate_left
           ·
            intro w'
            go_simp
            with_reducible rfl
           rotate_left
           ·
            exact Goto.ap
           refine pure_ (i := 3) (N := some 69) (v := ?_) (a' := ?_) (Goto.bs 19 13) rfl rfl (any_of HT_.out (by kernel_rfl)) (fun _ _ _ h => h) (Or.inl ⟨by rfl, ?_⟩) ?_ ?_
           rotate_left
           ·
            intro w'
            go_simp
            with_reducible rfl
           rotate_left
           ·
            exact Goto.ap
           refine pure_ (i := 4) (N := some 70) (v := ?_) (a' := ?_) (Goto.bs 19 29) rfl rfl (any_of HT_.out (by kernel_rfl)) (fun _ _ _ h => h) (Or.inl ⟨by rfl, ?_⟩) ?_ ?_
           rotate_left
           ·
            intro w'
            go_simp
            with_reducible rfl
           rotate_left
           ·
            exact Goto.ap
           refine take_ (i := 5) (N := some 71) (v := ?_) (a' := ?_) (Goto.bs 19 61) rfl rfl (take_ofW HT_.out HW_.out (by kernel_rfl)) (fun _ _ _ h => h) (Or.inl ⟨by rfl, ?_⟩) hHeld ?_ ?_
           rotate_left
           ·
            rintro w' ⟨s0, s1, s2, s3, s4⟩
            go_simp
            with_reducible rfl
           rotate_left
           ·
            exact Goto.ap
           refine pure_ (i := 6) (N := some 72) (v := ?_) (a' := ?_) (Goto.bs 19 125) rfl rfl (any_of HT_.out (by kernel_rfl)) (fun _ _ _ h => h) (Or.inl ⟨by rfl, ?_⟩) ?_ ?_
           rotate_left
           ·
            intro w'
            go_simp
            with_reducible rfl
           rotate_left
           ·
            exact Goto.ap
           refine one_ (i := 1) (N := some 67) (Goto.bs 19 127) rfl rfl (one_of HT_.out (by kernel_rfl)) (by decide) (fun K hK => ?_)
           refine goes_ Try.func44 (by kernel_rfl) rfl #[.pointer (some ⟨gb182, 0, none⟩)] (by rfl) rfl rfl (by (try simp only [List.map_toArray, List.map_cons, List.map_nil]); first | done | rfl | (simp only [List.length_drop, List.length_take]; rfl)) ?_
           with_reducible refine (mail_Box_Len.calls gb182 (fun k_ => some k_ = (u183000 : Value).ownBlock) u183000 x183000_13 t186 t217 t218 w _ ?side1 ?side2 ?side3 ?side4 A58.out).mono ?_
           (case side1 => exact by (with_reducible repeat first | refine blk_drewN ?_ _ | refine blk_drew ?_ | refine blk_alloc ?_ _); exact BK182.out)
           (case side2 => exact GE182.out)
           (case side3 => repeat (first | (with_reducible first | exact HB.out | apply below_alloc | apply pw_below_drewN | apply below_drew1 | refine below_set ?_ GE182.out | refine below_set ?_ GE187.out | refine below_set ?_ GE193.out) | exact HB.out))
           (case side4 => exact Kd.R_tight rfl HO_183000.out)
           rintro e w65 ⟨rfl, hi, hy0, hb, hkp⟩
           refine ⟨_, rfl, ?_⟩
           replace HO_188001 := Goto.m0 (Kd.Q_mono (ok' := fun k_ => some k_ ≠ (u183000 : Value).ownBlock) (Kd.Q_keptB ((Kd.Q_types HO_188001.out BK182.out (by decide))) hkp (fun k_ hk_ hs_ => Or.elim hs_ (fun hs_ => (hk_.1) hs_) (fun e_ => (hk_.2) e_))) (fun k_ hk_ => hk_.1.1)); replace BK182 := Goto.m0 (hi); replace BK187 := Goto.m0 (blk_kept (Goto.bx BK187) hkp (fun hs_ => Or.elim hs_ (fun hs_ => (fun e_ => (Kd.R_ne HO_183000.out BK187.out (by decide)) e_) hs_) (fun e_ => NB187_182.out e_))); replace BK193 := Goto.m0 (blk_kept (Goto.bx BK193) hkp (fun hs_ => Or.elim hs_ (fun hs_ => (fun e_ => (Kd.R_ne HO_183000.out BK193.out (by decide)) e_) hs_) (fun e_ => NB193_182.out e_))); replace HO_183000 := Goto.m0 (Kd.R_reok rfl hy0 (fun k_ e_ => HO_183000.out.1 k_ e_)); replace HB := Goto.m0 (hb)
           (try clear hb)
           (try clear hkp)
           (try clear hy0)
           refine hK.out _ _ ⟨(blk_cell BK187.out 0).trans rfl, (blk_cell BK187.out 1).trans rfl, (blk_cell BK193.out 0).trans rfl, (blk_cell BK193.out 1).trans rfl, (blk_cell BK193.out 2).trans rfl⟩ (fun hHeld => ?_)
           clear hK K
           refine norm_ (a' := ?_) ?_ ?_
           rotate_left
           ·
            show Act.put _ (some 67) _ = _
            exact Goto.ap
           refine pure_ (i := 7) (N := some 73) (v := ?_) (a' := ?_) (Goto.bs 19 255) rfl rfl (any_of HT_.out (by kernel_rfl)) (fun _ _ _ h => h) (Or.inl ⟨by rfl, ?_⟩) ?_ ?_
           rotate_left
           ·
            intro w'
            go_simp
            with_reducible rfl
           rotate_left
           ·
            exact Goto.ap
           refine pure_ (i := 8) (N := some 74) (v := ?_) (a' := ?_) (Goto.bs 19 511) rfl rfl (any_of HT_.out (by kernel_rfl)) (fun _ _ _ h => h) (Or.inl ⟨by rfl, ?_⟩) ?_ ?_
           rotate_left
           ·
            intro w'
            go_simp
            with_reducible rfl
           rotate_left
           ·
            exact Goto.ap
           refine pure_ (i := 9) (N := some 75) (v := ?_) (a' := ?_) (Goto.bs 19 1023) rfl rfl (any_of HT_.out (by kernel_rfl)) (fun _ _ _ h => h) (Or.inl ⟨by rfl, ?_⟩) ?_ ?_
           rotate_left
           ·
            intro w'
            go_simp
            with_reducible rfl
           rotate_left
           ·
            exact Goto.ap
           refine pure_ (i := 10) (N := some 76) (v := ?_) (a' := ?_) (Goto.bs 19 2047) rfl rfl (any_of HT_.out (by kernel_rfl)) (fun _ _ _ h => h) (Or.inl ⟨by rfl, ?_⟩) ?_ ?_
           rotate_left
           ·
            intro w'
            go_simp
            with_reducible rfl
           rotate_left
           ·
            exact Goto.ap
           refine pure_ (i := 13) (N := some 79) (v := ?_) (a' := ?_) (Goto.bs 19 10239) rfl rfl (any_of HT_.out (by kernel_rfl)) (fun _ _ _ h => h) (Or.inl ⟨by rfl, ?_⟩) ?_ ?_
           rotate_left
           ·
            intro w'
            go_simp
            with_reducible rfl
           rotate_left
           ·
            exact Goto.ap
           refine pure_ (i := 14) (N := some 80) (v := ?_) (a' := ?_) (Goto.bs 19 26623) rfl rfl (any_of HT_.out (by kernel_rfl)) (fun _ _ _ h => h) (Or.inl ⟨by rfl, ?_⟩) ?_ ?_
           rotate_left
           ·
            intro w'
            go_simp
            with_reducible rfl
           rotate_left
           ·
            exact Goto.ap
           refine take_ (i := 11) (N := some 77) (v := ?_) (a' := ?_) (Goto.bs 19 28671) rfl rfl (take_ofW HT_.out HW_.out (by kernel_rfl)) (fun _ _ _ h => h) (Or.inl ⟨by rfl, ?_⟩) hHeld ?_ ?_
           rotate_left
           ·
            rintro w' ⟨s0, s1, s2, s3, s4⟩
            go_simp
            with_reducible rfl
           rotate_left
           ·
            exact Goto.ap
           refine take_ (i := 15) (N := some 81) (v := ?_) (a' := ?_) (Goto.bs 19 61439) rfl rfl (take_ofW HT_.out HW_.out (by kernel_rfl)) (fun _ _ _ h => h) (Or.inl ⟨by rfl, ?_⟩) hHeld ?_ ?_
           rotate_left
           ·
            rintro w' ⟨s0, s1, s2, s3, s4⟩
            go_simp
            with_reducible rfl
           rotate_left
           ·
            exact Goto.ap
           refine one_ (i := 12) (N := some 78) (Goto.bs 19 65535) rfl rfl (one_of HT_.out (by kernel_rfl)) (by decide) (fun K hK => ?_)
           refine goes_ Try.func45 (by kernel_rfl) rfl #[.pointer (some ⟨gb182, 0, none⟩), .int .i64 ((rd_T61 l1 x7_1).f1)] (by rfl) rfl rfl (by (try simp only [List.map_toArray, List.map_cons, List.map_nil]); first | done | rfl | (simp only [List.length_drop, List.length_take]; rfl)) ?_
           with_reducible refine (mail_Box_Waits.calls kj13 gb182 (fun k_ => some k_ = (u183000 : Value).ownBlock) u183000 t218 t186 ((rd_T61 l1 x7_1).f1) t219 t220 w _ ?side1 ?side2 ?side3 ?side4 A60.out).mono ?_
           (case side1 => exact by (with_reducible repeat first | refine blk_drewN ?_ _ | refine blk_drew ?_ | refine blk_alloc ?_ _); exact BK182.out)
           (case side2 => exact GE182.out)
           (case side3 => repeat (first | (with_reducible first | exact HB.out | apply below_alloc | apply pw_below_drewN | apply below_drew1 | refine below_set ?_ GE182.out | refine below_set ?_ GE187.out | refine below_set ?_ GE193.out) | exact HB.out))
           (case side4 => exact Kd.R_tight rfl HO_183000.out)
           rintro e w66 ⟨rfl, hi, hy0, hb, hkp⟩
           refine ⟨_, rfl, ?_⟩
           replace HO_188001 := Goto.m0 (Kd.Q_mono (ok' := fun k_ => some k_ ≠ (u183000 : Value).ownBlock) (Kd.Q_keptB ((Kd.Q_types HO_188001.out BK182.out (by decide))) hkp (fun k_ hk_ hs_ => Or.elim hs_ (fun hs_ => (hk_.1) hs_) (fun e_ => (hk_.2) e_))) (fun k_ hk_ => hk_.1.1)); replace BK182 := Goto.m0 (hi); replace BK187 := Goto.m0 (blk_kept (Goto.bx BK187) hkp (fun hs_ => Or.elim hs_ (fun hs_ => (fun e_ => (Kd.R_ne HO_183000.out BK187.out (by decide)) e_) hs_) (fun e_ => NB187_182.out e_))); replace BK193 := Goto.m0 (blk_kept (Goto.bx BK193) hkp (fun hs_ => Or.elim hs_ (fun hs_ => (fun e_ => (Kd.R_ne HO_183000.out BK193.out (by decide)) e_) hs_) (fun e_ => NB193_182.out e_))); replace HO_183000 := Goto.m0 (Kd.R_reok rfl hy0 (fun k_ e_ => HO_183000.out.1 k_ e_)); replace HB := Goto.m0 (hb)
           (try clear hb)
           (try clear hkp)
           (try clear hy0)
           refine hK.out _ _ ⟨(blk_cell BK187.out 0).trans rfl, (blk_cell BK187.out 1).trans rfl, (blk_cell BK193.out 0).trans rfl, (blk_cell BK193.out 1).trans rfl, (blk_cell BK193.out 2).trans rfl⟩ (fun hHeld => ?_)
           clear hK K
           refine norm_ (a' := ?_) ?_ ?_
           rotate_left
           ·
            show Act.put _ (some 78) _ = _
            exact Goto.ap
           refine one_ (i := 16) (N := some 82) (Goto.bs 19 131071) rfl rfl (one_of HT_.out (by kernel_rfl)) (by decide) (fun K hK => ?_)
           refine goes_ Try.func46 (by kernel_rfl) rfl #[.pointer (some ⟨gb187, 0, none⟩), .int .i64 ((rd_T61 l1 x7_1).f1)] (by rfl) rfl rfl (by (try simp only [List.map_toArray, List.map_cons, List.map_nil]); first | done | rfl | (simp only [List.length_drop, List.length_take]; rfl)) ?_
           with_reducible refine (tontineref15_Box_Waits.calls kj13 gb187 t188 (fun k_ => some k_ = (.slice Ao64 x188001_13.length co64 : Value).ownBlock) (.slice Ao64 x188001_13.length co64) x188001_13 ((rd_T61 l1 x7_1).f1) t221 t222 w _ ?side1 ?side2 ?side3 ?side4 A61.out).mono ?_
           (case side1 => exact by (with_reducible repeat first | refine blk_drewN ?_ _ | refine blk_drew ?_ | refine blk_alloc ?_ _); exact BK187.out)
           (case side2 => exact GE187.out)
           (case side3 => repeat (first | (with_reducible first | exact HB.out | apply below_alloc | apply pw_below_drewN | apply below_drew1 | refine below_set ?_ GE182.out | refine below_set ?_ GE187.out | refine below_set ?_ GE193.out) | exact HB.out))
           (case side4 => exact Goto.Q_tight rfl (HO_188001.out))
           rintro e w67 ⟨rfl, hi, hy0, hb, hkp⟩
           refine ⟨_, rfl, ?_⟩
           replace HO_183000 := Goto.m0 (Kd.R_mono (ok' := fun k_ => some k_ ≠ (.slice Ao64 x188001_13.length co64 : Value).ownBlock) (Kd.R_keptB ((Kd.R_types HO_183000.out BK187.out (by decide))) hkp (fun k_ hk_ hs_ => Or.elim hs_ (fun hs_ => (hk_.1) hs_) (fun e_ => (hk_.2) e_))) (fun k_ hk_ => hk_.1.1)); replace BK182 := Goto.m0 (blk_kept (Goto.bx BK182) hkp (fun hs_ => Or.elim hs_ (fun hs_ => (fun e_ => (Kd.Q_ne HO_188001.out BK182.out (by decide)) e_) hs_) (fun e_ => NB182_187.out e_))); replace BK187 := Goto.m0 (hi); replace BK193 := Goto.m0 (blk_kept (Goto.bx BK193) hkp (fun hs_ => Or.elim hs_ (fun hs_ => (fun e_ => (Kd.Q_ne HO_188001.out BK193.out (by decide)) e_) hs_) (fun e_ => NB193_187.out e_))); replace HO_188001 := Goto.m0 (Kd.Q_mono (Goto.Q_tight rfl (hy0)) (fun k_ e_ => HO_188001.out.1 k_ e_.symm)); replace HB := Goto.m0 (hb)
           (try clear hb)
           (try clear hkp)
           (try clear hy0)
           refine hK.out _ _ ⟨(blk_cell BK187.out 0).trans rfl, (blk_cell BK187.out 1).trans rfl, (blk_cell BK193.out 0).trans rfl, (blk_cell BK193.out 1).trans rfl, (blk_cell BK193.out 2).trans rfl⟩ (fun hHeld => ?_)
           clear hK K
           refine norm_ (a' := ?_) ?_ ?_
           rotate_left
           ·
            show Act.put _ (some 82) _ = _
            exact Goto.ap
           refine pure_ (i := 17) (N := some 83) (v := ?_) (a' := ?_) (Goto.bs 19 262143) rfl rfl (any_of HT_.out (by kernel_rfl)) (fun _ _ _ h => h) (Or.inl ⟨by rfl, ?_⟩) ?_ ?_
           rotate_left
           ·
            intro w'
            go_simp
            with_reducible rfl
           rotate_left
           ·
            exact Goto.ap
           refine pure_ (i := 18) (N := some 84) (v := ?_) (a' := ?_) (Goto.bs 19 524287) rfl rfl (any_of HT_.out (by kernel_rfl)) (fun _ _ _ h => h) (Or.inl ⟨by rfl, ?_⟩) ?_ ?_
           rotate_left
           ·
            intro w'
            go_simp
            with_reducible rfl
           rotate_left
           ·
            exact Goto.ap
           refine done_ (done_of HT_.out (by kernel_rfl)) ?_
           try go_wp2
           go_roundg kj13
           case measure => have := HK1.out; have := HJ13.out; omega
           case rel => exact ⟨(wrap64 (x7_1 + 1)), (t220), (t222), (u183000), (.slice Ao64 x188001_13.length co64), (by first | rfl | (simp; done) | (simp [*]; done)), H', ⟨by have := HK1.out; have := HJ13.out; omega⟩, ⟨by (with_reducible repeat (first | apply Kd.R_alloc | apply Kd.R_drewN | apply Kd.R_drew)); exact HO_183000.out⟩, ⟨by (with_reducible repeat (first | apply Kd.Q_alloc | apply Kd.Q_drewN | apply Kd.Q_drew)); exact HO_188001.out⟩, ⟨Goto.bx BK182⟩, ⟨Goto.bx BK187⟩, ⟨Goto.hx HB⟩⟩
          ·
           rw [if_neg c62] at H
           have c62b0 : (t219 == t221) = false := beq_eq_false_iff_ne.mpr c62
           have c62b1 : (t219 != t221) = true := bne_iff_ne.mpr c62
           exact absurd ((Option.some.inj H).trans HRT.out) (by decide)
         ·
          rw [if_neg c59] at H
          have c59b0 : (t217 == (x188001_13.length : Int)) = false := beq_eq_false_iff_ne.mpr c59
          have c59b1 : (t217 != (x188001_13.length : Int)) = true := bne_iff_ne.mpr c59
          exact absurd ((Option.some.inj H).trans HRT.out) (by decide)
      ·
       rw [if_neg c13] at H
       exact absurd H (by simp)
     ·
      rw [if_neg c12] at H
      have c12b0 : decide (x7_1 < (l1.length : Int)) = false := decide_eq_false c12
      clear c12
      obtain rfl := Option.some.inj H
      go_wp2
      go_ret
      exact ⟨by first | rfl | (simp [errW_none, errW_some] <;> rfl) | (simp [*, errW_none, errW_some] <;> rfl), by repeat (first | (with_reducible first | exact HB.out | apply below_alloc | apply pw_below_drewN | apply below_drew1 | refine below_set ?_ GE182.out | refine below_set ?_ GE187.out) | exact HB.out)⟩
 ·
  replace c4 := Bool.eq_false_iff.mpr c4
  subst c4
  rw [if_neg (show ¬ (false = true) by decide)] at H
  exact absurd ((Option.some.inj H).trans HRT.out) (by decide)

end Go.Proofs.Ytpbcamdjcnokfaa.P
