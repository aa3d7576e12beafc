/- Printed by a program of this workplace (a turned copy of the kit's optional print), out of the translation; not trusted: Lean checks it. -/
import Derived.Test.YtiejhnijfgdapaaPx0
import Derived.Test.YtiejhnijfgdapaaPx2
import Derived.Test.YtiejhnijfgdapaaPx4
import Derived.Test.YtiejhnijfgdapaaPx5
import Derived.Test.YtiejhnijfgdapaaPx6
import Derived.Test.YtiejhnijfgdapaaPx7
import Derived.Test.YtiejhnijfgdapaaPx8
namespace Go.Proofs.Ytiejhnijfgdapaa.P
open Go.RowKit Go.Proofs.YtiejhnijfgdapaaW.PrintWords Go.Proofs.YtiejhnijfgdapaaW.PrintLast Go.Proofs.YtiejhnijfgdapaaW.PrintMore
attribute [local go_sem] max2_int min2_int max_two min_two max_three min_three max_four min_four   -- for this text's walks alone
set_option linter.unusedVariables false
set_option linter.unusedSimpArgs false

/-! ### tontinelaw9_ObjectOrder: function 6 -/
mutual
def tontinelaw9_ObjectOrder.l0 : Nat → Int → Int → Int → Int → Int → List Int → Int → List Int → Int → List Int → Int → List Int → Option (Bool)
  | 0, _, _, _, _, _, _, _, _, _, _, _, _ => none
  | k + 1, x7, x8, x9, x11, x410000, x410001, x410002, x410003, x410004, x410005, x410006, x410007 => if x11 < x7 then ((object_Objects_Wait.f k x410000 x410001 x410002 x410003 x410004 x410005 x410006 x410007 x11 x9).bind fun bt426 => (if bt426.1 = true then (tontinelaw9_ObjectOrder.j1 k x7 x8 x9 x11 true bt426.2.2.1 bt426.2.2.2.1 bt426.2.2.2.2.1 bt426.2.2.2.2.2.1 bt426.2.2.2.2.2.2.1 bt426.2.2.2.2.2.2.2.1 bt426.2.2.2.2.2.2.2.2.1 bt426.2.2.2.2.2.2.2.2.2) else (if bt426.2.1.isNone = true then (tontinelaw9_ObjectOrder.j1 k x7 x8 x9 x11 false bt426.2.2.1 bt426.2.2.2.1 bt426.2.2.2.2.1 bt426.2.2.2.2.2.1 bt426.2.2.2.2.2.2.1 bt426.2.2.2.2.2.2.2.1 bt426.2.2.2.2.2.2.2.2.1 bt426.2.2.2.2.2.2.2.2.2) else (tontinelaw9_ObjectOrder.j1 k x7 x8 x9 x11 true bt426.2.2.1 bt426.2.2.2.1 bt426.2.2.2.2.1 bt426.2.2.2.2.2.1 bt426.2.2.2.2.2.2.1 bt426.2.2.2.2.2.2.2.1 bt426.2.2.2.2.2.2.2.2.1 bt426.2.2.2.2.2.2.2.2.2)))) else (tontinelaw9_ObjectOrder.l1 k x7 x8 x9 0 x410000 x410001 x410002 x410003 x410004 x410005 x410006 x410007)
def tontinelaw9_ObjectOrder.j1 : Nat → Int → Int → Int → Int → Bool → Int → List Int → Int → List Int → Int → List Int → Int → List Int → Option (Bool)
  | 0, _, _, _, _, _, _, _, _, _, _, _, _, _ => none
  | k + 1, x7, x8, x9, x11, x48, x410000, x410001, x410002, x410003, x410004, x410005, x410006, x410007 => if x48 = true then (some false) else (tontinelaw9_ObjectOrder.l0 k x7 x8 x9 (wrap64 (x11 + 1)) x410000 x410001 x410002 x410003 x410004 x410005 x410006 x410007)
def tontinelaw9_ObjectOrder.l1 : Nat → Int → Int → Int → Int → Int → List Int → Int → List Int → Int → List Int → Int → List Int → Option (Bool)
  | 0, _, _, _, _, _, _, _, _, _, _, _, _ => none
  | k + 1, x7, x8, x9, x14, x410000, x410001, x410002, x410003, x410004, x410005, x410006, x410007 => if x14 < x8 then ((object_Objects_Signal.f x410000 x410001 x410002 x410003 x410004 x410005 x410006 x410007 x9).bind fun bt445 => (if bt445.2.2.1.isNone = true then (if (bt445.2.1 != (decide (x14 < x7))) = true then (tontinelaw9_ObjectOrder.j3 k x7 x8 x9 x14 true bt445.2.2.2.1 bt445.2.2.2.2.1 bt445.2.2.2.2.2.1 bt445.2.2.2.2.2.2.1 bt445.2.2.2.2.2.2.2.1 bt445.2.2.2.2.2.2.2.2.1 bt445.2.2.2.2.2.2.2.2.2.1 bt445.2.2.2.2.2.2.2.2.2.2) else (if bt445.2.1 = true then (tontinelaw9_ObjectOrder.j3 k x7 x8 x9 x14 (bt445.1 != x14) bt445.2.2.2.1 bt445.2.2.2.2.1 bt445.2.2.2.2.2.1 bt445.2.2.2.2.2.2.1 bt445.2.2.2.2.2.2.2.1 bt445.2.2.2.2.2.2.2.2.1 bt445.2.2.2.2.2.2.2.2.2.1 bt445.2.2.2.2.2.2.2.2.2.2) else (tontinelaw9_ObjectOrder.j3 k x7 x8 x9 x14 false bt445.2.2.2.1 bt445.2.2.2.2.1 bt445.2.2.2.2.2.1 bt445.2.2.2.2.2.2.1 bt445.2.2.2.2.2.2.2.1 bt445.2.2.2.2.2.2.2.2.1 bt445.2.2.2.2.2.2.2.2.2.1 bt445.2.2.2.2.2.2.2.2.2.2))) else (tontinelaw9_ObjectOrder.j3 k x7 x8 x9 x14 true bt445.2.2.2.1 bt445.2.2.2.2.1 bt445.2.2.2.2.2.1 bt445.2.2.2.2.2.2.1 bt445.2.2.2.2.2.2.2.1 bt445.2.2.2.2.2.2.2.2.1 bt445.2.2.2.2.2.2.2.2.2.1 bt445.2.2.2.2.2.2.2.2.2.2))) else ((object_Objects_Count.f x410000 x410001 x410002 x410003 x410004 x410005 x410006 x410007 x9).bind fun bt465 => (if bt465.1 = (mn (mx 0 (wrap64 (x8 - x7))) 255) then ((object_Objects_Row.f bt465.2.1 bt465.2.2.1 bt465.2.2.2.1 bt465.2.2.2.2.1 bt465.2.2.2.2.2.1 bt465.2.2.2.2.2.2.1 bt465.2.2.2.2.2.2.2.1 bt465.2.2.2.2.2.2.2.2 x9).bind fun bt482 => (if (bt482.1.length : Int) = (mx 0 (wrap64 (x7 - x8))) then ((object_Objects_Wait.f k bt482.2.1 bt482.2.2.1 bt482.2.2.2.1 bt482.2.2.2.2.1 bt482.2.2.2.2.2.1 bt482.2.2.2.2.2.2.1 bt482.2.2.2.2.2.2.2.1 bt482.2.2.2.2.2.2.2.2 1000 x9).bind fun bt501 => (if bt501.2.1.isNone = true then (some (bt501.1 == (decide (x8 > x7)))) else (some false))) else (some false))) else (some false)))
def tontinelaw9_ObjectOrder.j3 : Nat → Int → Int → Int → Int → Bool → Int → List Int → Int → List Int → Int → List Int → Int → List Int → Option (Bool)
  | 0, _, _, _, _, _, _, _, _, _, _, _, _, _ => none
  | k + 1, x7, x8, x9, x14, x77, x410000, x410001, x410002, x410003, x410004, x410005, x410006, x410007 => if x77 = true then (some false) else (tontinelaw9_ObjectOrder.l1 k x7 x8 x9 (wrap64 (x14 + 1)) x410000 x410001 x410002 x410003 x410004 x410005 x410006 x410007)
end
def tontinelaw9_ObjectOrder.f (k : Nat) (a0 : Int) (a1 : Int) (a2 : Int) : Option (Bool) := (tontinelaw9_known.f k).bind fun t408 => (if t408 = true then ((object_New.f).bind fun bt410 => (tontinelaw9_ObjectOrder.l0 k (wrap64 (Int.tmod a0 40)) (wrap64 (Int.tmod a1 400)) (wrap64 (Int.tmod a2 4)) 0 bt410.1 bt410.2.1 bt410.2.2.1 bt410.2.2.2.1 bt410.2.2.2.2.1 bt410.2.2.2.2.2.1 bt410.2.2.2.2.2.2.1 bt410.2.2.2.2.2.2.2)) else (some false))
theorem tontinelaw9_ObjectOrder.mono_l : ∀ k, (∀ y0 y1 y2 y3 y4 y5 y6 y7 y8 y9 y10 y11, LeO (tontinelaw9_ObjectOrder.l0 k y0 y1 y2 y3 y4 y5 y6 y7 y8 y9 y10 y11) (tontinelaw9_ObjectOrder.l0 (k + 1) y0 y1 y2 y3 y4 y5 y6 y7 y8 y9 y10 y11)) ∧ (∀ y0 y1 y2 y3 y4 y5 y6 y7 y8 y9 y10 y11 y12, LeO (tontinelaw9_ObjectOrder.j1 k y0 y1 y2 y3 y4 y5 y6 y7 y8 y9 y10 y11 y12) (tontinelaw9_ObjectOrder.j1 (k + 1) y0 y1 y2 y3 y4 y5 y6 y7 y8 y9 y10 y11 y12)) ∧ (∀ y0 y1 y2 y3 y4 y5 y6 y7 y8 y9 y10 y11, LeO (tontinelaw9_ObjectOrder.l1 k y0 y1 y2 y3 y4 y5 y6 y7 y8 y9 y10 y11) (tontinelaw9_ObjectOrder.l1 (k + 1) y0 y1 y2 y3 y4 y5 y6 y7 y8 y9 y10 y11)) ∧ (∀ y0 y1 y2 y3 y4 y5 y6 y7 y8 y9 y10 y11 y12, LeO (tontinelaw9_ObjectOrder.j3 k y0 y1 y2 y3 y4 y5 y6 y7 y8 y9 y10 y11 y12) (tontinelaw9_ObjectOrder.j3 (k + 1) y0 y1 y2 y3 y4 y5 y6 y7 y8 y9 y10 y11 y12))
  | 0 => ⟨fun _ _ _ _ _ _ _ _ _ _ _ _ r h => by simp [tontinelaw9_ObjectOrder.l0] at h, fun _ _ _ _ _ _ _ _ _ _ _ _ _ r h => by simp [tontinelaw9_ObjectOrder.j1] at h, fun _ _ _ _ _ _ _ _ _ _ _ _ r h => by simp [tontinelaw9_ObjectOrder.l1] at h, fun _ _ _ _ _ _ _ _ _ _ _ _ _ r h => by simp [tontinelaw9_ObjectOrder.j3] at h⟩
  | k + 1 => by
    obtain ⟨ih0, ih1, ih2, ih3⟩ := tontinelaw9_ObjectOrder.mono_l k
    refine ⟨?_, ?_, ?_, ?_⟩
    · intro y0 y1 y2 y3 y4 y5 y6 y7 y8 y9 y10 y11
      unfold tontinelaw9_ObjectOrder.l0
      repeat' first
      | (with_reducible exact ih0 _ _ _ _ _ _ _ _ _ _ _ _)
      | (with_reducible exact ih1 _ _ _ _ _ _ _ _ _ _ _ _ _)
      | (with_reducible exact ih2 _ _ _ _ _ _ _ _ _ _ _ _)
      | (with_reducible exact ih3 _ _ _ _ _ _ _ _ _ _ _ _ _)
      | (with_reducible exact object_Objects_Wait.mono _ _ _ _ _ _ _ _ _ _ _)
      | (with_reducible exact tontinelaw9_known.mono _)
      | (with_reducible exact LeO.refl _)
      | (with_reducible exact LeO.none _)
      | (with_reducible refine LeO.ite ?_ ?_)
      | (with_reducible refine LeO.bind ?_ (fun _ => ?_))
      | exact ih0 _ _ _ _ _ _ _ _ _ _ _ _
      | exact ih1 _ _ _ _ _ _ _ _ _ _ _ _ _
      | exact ih2 _ _ _ _ _ _ _ _ _ _ _ _
      | exact ih3 _ _ _ _ _ _ _ _ _ _ _ _ _
      | exact object_Objects_Wait.mono _ _ _ _ _ _ _ _ _ _ _
      | exact tontinelaw9_known.mono _
      | exact LeO.none _
      | refine LeO.ite ?_ ?_
      | refine LeO.bind ?_ (fun _ => ?_)
    · intro y0 y1 y2 y3 y4 y5 y6 y7 y8 y9 y10 y11 y12
      unfold tontinelaw9_ObjectOrder.j1
      repeat' first
      | (with_reducible exact ih0 _ _ _ _ _ _ _ _ _ _ _ _)
      | (with_reducible exact ih1 _ _ _ _ _ _ _ _ _ _ _ _ _)
      | (with_reducible exact ih2 _ _ _ _ _ _ _ _ _ _ _ _)
      | (with_reducible exact ih3 _ _ _ _ _ _ _ _ _ _ _ _ _)
      | (with_reducible exact object_Objects_Wait.mono _ _ _ _ _ _ _ _ _ _ _)
      | (with_reducible exact tontinelaw9_known.mono _)
      | (with_reducible exact LeO.refl _)
      | (with_reducible exact LeO.none _)
      | (with_reducible refine LeO.ite ?_ ?_)
      | (with_reducible refine LeO.bind ?_ (fun _ => ?_))
      | exact ih0 _ _ _ _ _ _ _ _ _ _ _ _
      | exact ih1 _ _ _ _ _ _ _ _ _ _ _ _ _
      | exact ih2 _ _ _ _ _ _ _ _ _ _ _ _
      | exact ih3 _ _ _ _ _ _ _ _ _ _ _ _ _
      | exact object_Objects_Wait.mono _ _ _ _ _ _ _ _ _ _ _
      | exact tontinelaw9_known.mono _
      | exact LeO.none _
      | refine LeO.ite ?_ ?_
      | refine LeO.bind ?_ (fun _ => ?_)
    · intro y0 y1 y2 y3 y4 y5 y6 y7 y8 y9 y10 y11
      unfold tontinelaw9_ObjectOrder.l1
      repeat' first
      | (with_reducible exact ih0 _ _ _ _ _ _ _ _ _ _ _ _)
      | (with_reducible exact ih1 _ _ _ _ _ _ _ _ _ _ _ _ _)
      | (with_reducible exact ih2 _ _ _ _ _ _ _ _ _ _ _ _)
      | (with_reducible exact ih3 _ _ _ _ _ _ _ _ _ _ _ _ _)
      | (with_reducible exact object_Objects_Wait.mono _ _ _ _ _ _ _ _ _ _ _)
      | (with_reducible exact tontinelaw9_known.mono _)
      | (with_reducible exact LeO.refl _)
      | (with_reducible exact LeO.none _)
      | (with_reducible refine LeO.ite ?_ ?_)
      | (with_reducible refine LeO.bind ?_ (fun _ => ?_))
      | exact ih0 _ _ _ _ _ _ _ _ _ _ _ _
      | exact ih1 _ _ _ _ _ _ _ _ _ _ _ _ _
      | exact ih2 _ _ _ _ _ _ _ _ _ _ _ _
      | exact ih3 _ _ _ _ _ _ _ _ _ _ _ _ _
      | exact object_Objects_Wait.mono _ _ _ _ _ _ _ _ _ _ _
      | exact tontinelaw9_known.mono _
      | exact LeO.none _
      | refine LeO.ite ?_ ?_
      | refine LeO.bind ?_ (fun _ => ?_)
    · intro y0 y1 y2 y3 y4 y5 y6 y7 y8 y9 y10 y11 y12
      unfold tontinelaw9_ObjectOrder.j3
      repeat' first
      | (with_reducible exact ih0 _ _ _ _ _ _ _ _ _ _ _ _)
      | (with_reducible exact ih1 _ _ _ _ _ _ _ _ _ _ _ _ _)
      | (with_reducible exact ih2 _ _ _ _ _ _ _ _ _ _ _ _)
      | (with_reducible exact ih3 _ _ _ _ _ _ _ _ _ _ _ _ _)
      | (with_reducible exact object_Objects_Wait.mono _ _ _ _ _ _ _ _ _ _ _)
      | (with_reducible exact tontinelaw9_known.mono _)
      | (with_reducible exact LeO.refl _)
      | (with_reducible exact LeO.none _)
      | (with_reducible refine LeO.ite ?_ ?_)
      | (with_reducible refine LeO.bind ?_ (fun _ => ?_))
      | exact ih0 _ _ _ _ _ _ _ _ _ _ _ _
      | exact ih1 _ _ _ _ _ _ _ _ _ _ _ _ _
      | exact ih2 _ _ _ _ _ _ _ _ _ _ _ _
      | exact ih3 _ _ _ _ _ _ _ _ _ _ _ _ _
      | exact object_Objects_Wait.mono _ _ _ _ _ _ _ _ _ _ _
      | exact tontinelaw9_known.mono _
      | exact LeO.none _
      | refine LeO.ite ?_ ?_
      | refine LeO.bind ?_ (fun _ => ?_)
theorem tontinelaw9_ObjectOrder.mono : ∀ a0 a1 a2 k, LeO (tontinelaw9_ObjectOrder.f k a0 a1 a2) (tontinelaw9_ObjectOrder.f (k + 1) a0 a1 a2) := by
 intro a0 a1 a2 k
 obtain ⟨ih0, ih1, ih2, ih3⟩ := tontinelaw9_ObjectOrder.mono_l k
 unfold tontinelaw9_ObjectOrder.f
 repeat' first
   | (with_reducible exact ih0 _ _ _ _ _ _ _ _ _ _ _ _)
   | (with_reducible exact ih1 _ _ _ _ _ _ _ _ _ _ _ _ _)
   | (with_reducible exact ih2 _ _ _ _ _ _ _ _ _ _ _ _)
   | (with_reducible exact ih3 _ _ _ _ _ _ _ _ _ _ _ _ _)
   | (with_reducible exact object_Objects_Wait.mono _ _ _ _ _ _ _ _ _ _ _)
   | (with_reducible exact tontinelaw9_known.mono _)
   | (with_reducible exact LeO.refl _)
   | (with_reducible exact LeO.none _)
   | (with_reducible refine LeO.ite ?_ ?_)
   | (with_reducible refine LeO.bind ?_ (fun _ => ?_))
   | exact ih0 _ _ _ _ _ _ _ _ _ _ _ _
   | exact ih1 _ _ _ _ _ _ _ _ _ _ _ _ _
   | exact ih2 _ _ _ _ _ _ _ _ _ _ _ _
   | exact ih3 _ _ _ _ _ _ _ _ _ _ _ _ _
   | exact object_Objects_Wait.mono _ _ _ _ _ _ _ _ _ _ _
   | exact tontinelaw9_known.mono _
   | exact LeO.none _
   | refine LeO.ite ?_ ?_
   | refine LeO.bind ?_ (fun _ => ?_)
set_option maxHeartbeats 8000000 in
set_option maxRecDepth 100000 in
theorem tontinelaw9_ObjectOrder.calls (k : Nat) (a0 : Int) (a1 : Int) (a2 : Int) (r : Bool) (hrt : r = true) (w : World) (h : tontinelaw9_ObjectOrder.f k a0 a1 a2 = some r) :
    Calls Try.prog 6 #[.int .u8 a0, .int .u16 a1, .int .u8 a2] w fun e w' => e = .returned (.bool r) ∧ Below w.heap.size w w' := by
 have hu37 := Try.underlying37; have hu42 := Try.underlying42
 have HB := Goto.m0 (Below.refl w.heap.size w)
 have HRT := Goto.m0 hrt
 clear hrt
 have H : ((tontinelaw9_known.f k).bind fun t408 => (if t408 = true then ((object_New.f).bind fun bt410 => (tontinelaw9_ObjectOrder.l0 k (wrap64 (Int.tmod a0 40)) (wrap64 (Int.tmod a1 400)) (wrap64 (Int.tmod a2 4)) 0 bt410.1 bt410.2.1 bt410.2.2.1 bt410.2.2.2.1 bt410.2.2.2.2.1 bt410.2.2.2.2.2.1 bt410.2.2.2.2.2.2.1 bt410.2.2.2.2.2.2.2)) else (some false))) = some r := h
 clear h
 replace H := Option.bind_eq_some_iff.mp H
 obtain ⟨t408, A40, H⟩ := H
 have A4 := Goto.m0 A40
 clear A40
 by_cases c5 : t408 = true
 ·
  subst c5
  rw [if_pos rfl] at H
  replace H := Option.bind_eq_some_iff.mp H
  obtain ⟨⟨t410, t411, t414, t415, t418, t419, t422, t423⟩, A60, H⟩ := H
  replace H : (tontinelaw9_ObjectOrder.l0 k (wrap64 (Int.tmod a0 40)) (wrap64 (Int.tmod a1 400)) (wrap64 (Int.tmod a2 4)) 0 t410 t411 t414 t415 t418 t419 t422 t423) = some r := H
  have A6 := Goto.m0 A60
  clear A60
  have H' := Goto.m0 H
  clear H
  go_enter Try.func6, Try.ntmps6
  go_wp2_with (first | ((with_reducible refine gate_callee (f := 20) rfl ?_); refine goesL_ (some 20) rfl rfl Try.func20 (by kernel_rfl) rfl #[] rfl (by (try simp only [List.map_toArray, List.map_cons, List.map_nil]); first | done | rfl | (simp only [List.length_drop, List.length_take]; rfl)) ?_; (with_reducible refine (tontinelaw9_known.calls k  true (by first | rfl | assumption | (simp only [Bool.not_eq_true, Bool.not_eq_false] at *; assumption)) _ A4.out).mono ?_); rintro e w7 ⟨rfl, hb⟩; refine ⟨_, rfl, ?_⟩; replace HB := Goto.hs HB hb; (try clear hb); (try clear hb2); (try clear hk); (try clear hi)) | ((with_reducible refine gate_callee (f := 21) rfl ?_); refine goesL_ (some 31) rfl rfl Try.func21 (by kernel_rfl) rfl #[] rfl (by (try simp only [List.map_toArray, List.map_cons, List.map_nil]); first | done | rfl | (simp only [List.length_drop, List.length_take]; rfl)) ?_; (with_reducible refine (object_New.calls  t410 t411 t414 t415 t418 t419 t422 t423 _ A6.out).mono ?_); rintro e w8 ⟨v412, v416, v420, v424, gb409, rfl, ho0, ho1, ho2, ho3, hi, hge, hb⟩; refine ⟨_, rfl, ?_⟩; have HO413 := Goto.m0 (Kd.R_lower ho0 (below_size (Goto.hx HB))); have HO417 := Goto.m0 (Kd.R_lower ho1 (below_size (Goto.hx HB))); have HO421 := Goto.m0 (Kd.R_lower ho2 (below_size (Goto.hx HB))); have HO425 := Goto.m0 (Kd.R_lower ho3 (below_size (Goto.hx HB))); have BK409 := Goto.m0 (hi); have GW409 := Goto.m0 ((Nat.le_trans (below_size (Goto.hx HB)) hge : w.heap.size ≤ gb409)); have GE409 := Goto.m0 ((Nat.le_trans (below_size (Goto.hx HB)) hge : w.heap.size ≤ gb409)); replace HB := Goto.hs HB hb; (try clear hb); (try clear hi); (try clear hge); (try clear ho0); (try clear ho1); (try clear ho2); (try clear ho3)))
  go_loopg [11] k (fun kq v11 w' => ∃ (x11_1 : Int) (x410000_1 : Int) (x410001_1 : List Int) (x410002_1 : Int) (x410003_1 : List Int) (x410004_1 : Int) (x410005_1 : List Int) (x410006_1 : Int) (x410007_1 : List Int) (u410001 : Value) (u410003 : Value) (u410005 : Value) (u410007 : Value), v11 = .int .i64 x11_1 ∧ Aside0 (tontinelaw9_ObjectOrder.l0 kq (wrap64 (Int.tmod a0 40)) (wrap64 (Int.tmod a1 400)) (wrap64 (Int.tmod a2 4)) x11_1 x410000_1 x410001_1 x410002_1 x410003_1 x410004_1 x410005_1 x410006_1 x410007_1 = some r) ∧ Aside0 (kq ≤ k) ∧ Aside0 (Kd.R (Kd.int .i64) 3 w' w.heap.size (fun k_ => some k_ ≠ (u410003 : Value).ownBlock ∧ some k_ ≠ (u410005 : Value).ownBlock ∧ some k_ ≠ (u410007 : Value).ownBlock) u410001 x410001_1) ∧ Aside0 (Kd.R (Kd.int .i64) 3 w' w.heap.size (fun k_ => some k_ ≠ (u410001 : Value).ownBlock ∧ some k_ ≠ (u410005 : Value).ownBlock ∧ some k_ ≠ (u410007 : Value).ownBlock) u410003 x410003_1) ∧ Aside0 (Kd.R (Kd.int .i64) 3 w' w.heap.size (fun k_ => some k_ ≠ (u410001 : Value).ownBlock ∧ some k_ ≠ (u410003 : Value).ownBlock ∧ some k_ ≠ (u410007 : Value).ownBlock) u410005 x410005_1) ∧ Aside0 (Kd.R (Kd.int .i64) 3 w' w.heap.size (fun k_ => some k_ ≠ (u410001 : Value).ownBlock ∧ some k_ ≠ (u410003 : Value).ownBlock ∧ some k_ ≠ (u410005 : Value).ownBlock) u410007 x410007_1) ∧ Aside0 (w'.heap[gb409]? = some (.cells #[.int .i64 x410000_1, u410001, .int .i64 x410002_1, u410003, .int .i64 x410004_1, u410005, .int .i64 x410006_1, u410007] 79 (0, 0))) ∧ Aside0 (Below w.heap.size w w'))
  case atStart => exact ⟨(0), (t410), (t411), (t414), (t415), (t418), (t419), (t422), (t423), (v412), (v416), (v420), (v424), (by first | rfl | (simp; done) | (simp [*]; done) | (congr 1; unfold wrap64; omega)), H', ⟨Nat.le_refl _⟩, ⟨Goto.rk HO413⟩, ⟨Goto.rk HO417⟩, ⟨Goto.rk HO421⟩, ⟨Goto.rk HO425⟩, ⟨Goto.bx BK409⟩, ⟨Goto.hx HB⟩⟩
  case round =>
   clear H'
   try clear c2; try clear p2; try clear c5; try clear c6; try clear p6
   obtain ⟨x11_1, x410000_1, x410001_1, x410002_1, x410003_1, x410004_1, x410005_1, x410006_1, x410007_1, u410001, u410003, u410005, u410007, rfl, HA, HK1, HO_410001, HO_410003, HO_410005, HO_410007, BK409, HB⟩ := hrel
   cases gk with
   | zero => exact absurd HA.out (by simp [tontinelaw9_ObjectOrder.l0])
   | succ k1 =>
    have H := HA.out; clear HA
    simp only [tontinelaw9_ObjectOrder.l0] at H
    by_cases c9 : x11_1 < (wrap64 (Int.tmod a0 40))
    ·
     rw [if_pos c9] at H
     have c9b0 : decide (x11_1 < (wrap64 (Int.tmod a0 40))) = true := decide_eq_true c9
     clear c9
     replace H := Option.bind_eq_some_iff.mp H
     obtain ⟨⟨t426, t427, t428, t429, t432, t433, t436, t437, t440, t441⟩, A100, H⟩ := H
     replace H : (if t426 = true then (tontinelaw9_ObjectOrder.j1 k1 (wrap64 (Int.tmod a0 40)) (wrap64 (Int.tmod a1 400)) (wrap64 (Int.tmod a2 4)) x11_1 true t428 t429 t432 t433 t436 t437 t440 t441) else (if t427.isNone = true then (tontinelaw9_ObjectOrder.j1 k1 (wrap64 (Int.tmod a0 40)) (wrap64 (Int.tmod a1 400)) (wrap64 (Int.tmod a2 4)) x11_1 false t428 t429 t432 t433 t436 t437 t440 t441) else (tontinelaw9_ObjectOrder.j1 k1 (wrap64 (Int.tmod a0 40)) (wrap64 (Int.tmod a1 400)) (wrap64 (Int.tmod a2 4)) x11_1 true t428 t429 t432 t433 t436 t437 t440 t441))) = some r := H
     have A10 := Goto.m0 A100
     clear A100
     have HC11 := Goto.m0 H
     clear H
     go_upto_region 9 with (first | ((with_reducible refine gate_callee (f := 22) rfl ?_); refine goesL_ (some 41) rfl rfl Try.func22 (by kernel_rfl) rfl #[.pointer (some ⟨gb409, 0, none⟩), .int .i64 x11_1, .int .i64 (wrap64 (Int.tmod a2 4))] rfl (by (try simp only [List.map_toArray, List.map_cons, List.map_nil]); first | done | rfl | (simp only [List.length_drop, List.length_take]; rfl)) ?_; (with_reducible refine (object_Objects_Wait.calls k1 gb409 x410000_1 (fun k_ => some k_ = (u410001 : Value).ownBlock) u410001 x410001_1 x410002_1 (fun k_ => some k_ = (u410003 : Value).ownBlock) u410003 x410003_1 x410004_1 (fun k_ => some k_ = (u410005 : Value).ownBlock) u410005 x410005_1 x410006_1 (fun k_ => some k_ = (u410007 : Value).ownBlock) u410007 x410007_1 x11_1 (wrap64 (Int.tmod a2 4)) t426 t427 t428 t429 t432 t433 t436 t437 t440 t441 w _ ?side1 ?side2 ?side3 ?side4 ?side5 ?side6 ?side7 ?side8 ?side9 ?side10 ?side11 ?side12 ?side13 ?side14 ?side15 ?side16 ?side17 ?side18 ?side19 A10.out).mono ?_); (case side1 => exact by (with_reducible repeat first | refine blk_drewN ?_ _ | refine blk_drew ?_ | refine blk_alloc ?_ _); exact BK409.out); (case side2 => exact GE409.out); (case side3 => repeat (first | (with_reducible first | exact HB.out | apply below_alloc | apply pw_below_drewN | apply below_drew1 | refine below_set ?_ GE409.out) | exact HB.out)); (case side4 => exact Kd.R_tight rfl HO_410001.out); (case side5 => exact fun k_ e_ => (HO_410001.out.1 k_ e_.symm).1); (case side6 => exact fun k_ e_ => (HO_410001.out.1 k_ e_.symm).2.1); (case side7 => exact fun k_ e_ => (HO_410001.out.1 k_ e_.symm).2.2); (case side8 => exact Kd.R_tight rfl HO_410003.out); (case side9 => exact fun k_ e_ => (HO_410003.out.1 k_ e_.symm).1); (case side10 => exact fun k_ e_ => (HO_410003.out.1 k_ e_.symm).2.1); (case side11 => exact fun k_ e_ => (HO_410003.out.1 k_ e_.symm).2.2); (case side12 => exact Kd.R_tight rfl HO_410005.out); (case side13 => exact fun k_ e_ => (HO_410005.out.1 k_ e_.symm).1); (case side14 => exact fun k_ e_ => (HO_410005.out.1 k_ e_.symm).2.1); (case side15 => exact fun k_ e_ => (HO_410005.out.1 k_ e_.symm).2.2); (case side16 => exact Kd.R_tight rfl HO_410007.out); (case side17 => exact fun k_ e_ => (HO_410007.out.1 k_ e_.symm).1); (case side18 => exact fun k_ e_ => (HO_410007.out.1 k_ e_.symm).2.1); (case side19 => exact fun k_ e_ => (HO_410007.out.1 k_ e_.symm).2.2); rintro e w12 ⟨v430, v434, v438, v442, rfl, ho0, ho1, ho2, ho3, hi, hb, hkp⟩; refine ⟨_, rfl, ?_⟩; have n0_ := Goto.m0 (hi); have n1_ := Goto.m0 (Kd.R_mono (ok' := fun k_ => some k_ ≠ (v434 : Value).ownBlock ∧ some k_ ≠ (v438 : Value).ownBlock ∧ some k_ ≠ (v442 : Value).ownBlock) ho0 (fun k_ hk_ => ⟨hk_.2.1, hk_.2.2.1, hk_.2.2.2⟩)); have n2_ := Goto.m0 (Kd.R_mono (ok' := fun k_ => some k_ ≠ (v430 : Value).ownBlock ∧ some k_ ≠ (v438 : Value).ownBlock ∧ some k_ ≠ (v442 : Value).ownBlock) ho1 (fun k_ hk_ => ⟨hk_.2.1, hk_.2.2.1, hk_.2.2.2⟩)); have n3_ := Goto.m0 (Kd.R_mono (ok' := fun k_ => some k_ ≠ (v430 : Value).ownBlock ∧ some k_ ≠ (v434 : Value).ownBlock ∧ some k_ ≠ (v442 : Value).ownBlock) ho2 (fun k_ hk_ => ⟨hk_.2.1, hk_.2.2.1, hk_.2.2.2⟩)); have n4_ := Goto.m0 (Kd.R_mono (ok' := fun k_ => some k_ ≠ (v430 : Value).ownBlock ∧ some k_ ≠ (v434 : Value).ownBlock ∧ some k_ ≠ (v438 : Value).ownBlock) ho3 (fun k_ hk_ => ⟨hk_.2.1, hk_.2.2.1, hk_.2.2.2⟩)); have n5_ := Goto.m0 (hb); clear BK409; clear HB; clear HO_410001; clear HO_410003; clear HO_410005; clear HO_410007; have BK409 := n0_; have HO431 := n1_; have HO435 := n2_; have HO439 := n3_; have HO443 := n4_; have HB := n5_; clear n0_ n1_ n2_ n3_ n4_ n5_; (try clear hb); (try clear hkp); (try clear ho0); (try clear ho1); (try clear ho2); (try clear ho3); (try simp only [errW_none, errW_some])))
     (try simp only [Act.put, List.setIfInBounds_toArray, List.set_cons_zero, List.set_cons_succ])
     go_cut [48] (fun v48 wc => ∃ (kq : Nat) (x48_10 : Bool), v48 = .bool x48_10 ∧ Aside0 (tontinelaw9_ObjectOrder.j1 kq (wrap64 (Int.tmod a0 40)) (wrap64 (Int.tmod a1 400)) (wrap64 (Int.tmod a2 4)) x11_1 x48_10 t428 t429 t432 t433 t436 t437 t440 t441 = some r) ∧ Aside0 (kq ≤ k1) ∧ Aside0 (Kd.R (Kd.int .i64) 3 wc w.heap.size (fun k_ => some k_ ≠ (v434 : Value).ownBlock ∧ some k_ ≠ (v438 : Value).ownBlock ∧ some k_ ≠ (v442 : Value).ownBlock) v430 t429) ∧ Aside0 (Kd.R (Kd.int .i64) 3 wc w.heap.size (fun k_ => some k_ ≠ (v430 : Value).ownBlock ∧ some k_ ≠ (v438 : Value).ownBlock ∧ some k_ ≠ (v442 : Value).ownBlock) v434 t433) ∧ Aside0 (Kd.R (Kd.int .i64) 3 wc w.heap.size (fun k_ => some k_ ≠ (v430 : Value).ownBlock ∧ some k_ ≠ (v434 : Value).ownBlock ∧ some k_ ≠ (v442 : Value).ownBlock) v438 t437) ∧ Aside0 (Kd.R (Kd.int .i64) 3 wc w.heap.size (fun k_ => some k_ ≠ (v430 : Value).ownBlock ∧ some k_ ≠ (v434 : Value).ownBlock ∧ some k_ ≠ (v438 : Value).ownBlock) v442 t441) ∧ Aside0 (wc.heap[gb409]? = some (.cells #[.int .i64 t428, v430, .int .i64 t432, v434, .int .i64 t436, v438, .int .i64 t440, v442] 79 (0, 0))) ∧ Aside0 (Below w.heap.size w wc))
     case first =>
      have H := HC11.out; clear HC11
      by_cases c13 : t426 = true
      ·
       subst c13
       rw [if_pos rfl] at H
       have H' := Goto.m0 H
       clear H
       go_wp2
       go_meet
       case rel => exact ⟨_, (true), (by first | rfl | (simp; done) | (simp [*]; done) | (congr 1; unfold wrap64; omega)), H', ⟨by have := HK1.out; first | omega | exact Nat.le_refl _⟩, ⟨Goto.rk HO431⟩, ⟨Goto.rk HO435⟩, ⟨Goto.rk HO439⟩, ⟨Goto.rk HO443⟩, ⟨Goto.bx BK409⟩, ⟨Goto.hx HB⟩⟩
      ·
       replace c13 := Bool.eq_false_iff.mpr c13
       subst c13
       rw [if_neg (show ¬ (false = true) by decide)] at H
       rcases t427 with _ | q444
       ·
        have H1 : (tontinelaw9_ObjectOrder.j1 k1 (wrap64 (Int.tmod a0 40)) (wrap64 (Int.tmod a1 400)) (wrap64 (Int.tmod a2 4)) x11_1 false t428 t429 t432 t433 t436 t437 t440 t441) = some r := by rw [if_pos (show (none : Option Int).isNone = true by rfl)] at H; exact H
        clear H; have H := H1; clear H1
        try simp only [errW_none, errW_some]
        have H' := Goto.m0 H
        clear H
        go_wp2
        go_meet
        case rel => exact ⟨_, (false), (by first | rfl | (simp; done) | (simp [*]; done) | (congr 1; unfold wrap64; omega)), H', ⟨by have := HK1.out; first | omega | exact Nat.le_refl _⟩, ⟨Goto.rk HO431⟩, ⟨Goto.rk HO435⟩, ⟨Goto.rk HO439⟩, ⟨Goto.rk HO443⟩, ⟨Goto.bx BK409⟩, ⟨Goto.hx HB⟩⟩
       ·
        have H1 : (tontinelaw9_ObjectOrder.j1 k1 (wrap64 (Int.tmod a0 40)) (wrap64 (Int.tmod a1 400)) (wrap64 (Int.tmod a2 4)) x11_1 true t428 t429 t432 t433 t436 t437 t440 t441) = some r := by rw [if_neg (show ¬ (some q444).isNone = true by simp)] at H; exact H
        clear H; have H := H1; clear H1
        try simp only [errW_none, errW_some]
        have H' := Goto.m0 H
        clear H
        go_wp2
        go_meet
        case rel => exact ⟨_, (true), (by first | rfl | (simp; done) | (simp [*]; done) | (congr 1; unfold wrap64; omega)), H', ⟨by have := HK1.out; first | omega | exact Nat.le_refl _⟩, ⟨Goto.rk HO431⟩, ⟨Goto.rk HO435⟩, ⟨Goto.rk HO439⟩, ⟨Goto.rk HO443⟩, ⟨Goto.bx BK409⟩, ⟨Goto.hx HB⟩⟩
     case rest =>
      clear HC11; try clear c1; try clear c2; try clear p2; try clear q4; try clear c5; try clear c6; try clear p6; try clear c9; try clear c9b0; try clear c13; try clear p2; try clear p6; try clear q444
      obtain ⟨kq, x48_10, rfl, HA, HJ10, HO_410001, HO_410003, HO_410005, HO_410007, BK409, HB⟩ := hcut
      cases kq with
      | zero => exact absurd HA.out (by simp [tontinelaw9_ObjectOrder.j1])
      | succ kj10 =>
       have H := HA.out; clear HA
       simp only [tontinelaw9_ObjectOrder.j1] at H
       by_cases c14 : x48_10 = true
       ·
        subst c14
        rw [if_pos rfl] at H
        exact absurd ((Option.some.inj H).trans HRT.out) (by decide)
       ·
        replace c14 := Bool.eq_false_iff.mpr c14
        subst c14
        rw [if_neg (show ¬ (false = true) by decide)] at H
        have H' := Goto.m0 H
        clear H
        go_wp2
        go_roundg kj10
        case measure => have := HK1.out; have := HJ10.out; omega
        case rel => exact ⟨(wrap64 (x11_1 + 1)), (t428), (t429), (t432), (t433), (t436), (t437), (t440), (t441), (v430), (v434), (v438), (v442), (by first | rfl | (simp; done) | (simp [*]; done) | (congr 1; unfold wrap64; omega)), H', ⟨by have := HK1.out; have := HJ10.out; omega⟩, ⟨Goto.rk HO_410001⟩, ⟨Goto.rk HO_410003⟩, ⟨Goto.rk HO_410005⟩, ⟨Goto.rk HO_410007⟩, ⟨Goto.bx BK409⟩, ⟨Goto.hx HB⟩⟩
    ·
     rw [if_neg c9] at H
     have c9b0 : decide (x11_1 < (wrap64 (Int.tmod a0 40))) = false := decide_eq_false c9
     clear c9
     have H' := Goto.m0 H
     clear H
     go_wp2
     go_loopg [14] k1 (fun kq v14 w' => ∃ (x14_2 : Int) (x410000_2 : Int) (x410001_2 : List Int) (x410002_2 : Int) (x410003_2 : List Int) (x410004_2 : Int) (x410005_2 : List Int) (x410006_2 : Int) (x410007_2 : List Int) (u410001 : Value) (u410003 : Value) (u410005 : Value) (u410007 : Value), v14 = .int .i64 x14_2 ∧ Aside0 (tontinelaw9_ObjectOrder.l1 kq (wrap64 (Int.tmod a0 40)) (wrap64 (Int.tmod a1 400)) (wrap64 (Int.tmod a2 4)) x14_2 x410000_2 x410001_2 x410002_2 x410003_2 x410004_2 x410005_2 x410006_2 x410007_2 = some r) ∧ Aside0 (kq ≤ k1) ∧ Aside0 (Kd.R (Kd.int .i64) 3 w' w.heap.size (fun k_ => some k_ ≠ (u410003 : Value).ownBlock ∧ some k_ ≠ (u410005 : Value).ownBlock ∧ some k_ ≠ (u410007 : Value).ownBlock) u410001 x410001_2) ∧ Aside0 (Kd.R (Kd.int .i64) 3 w' w.heap.size (fun k_ => some k_ ≠ (u410001 : Value).ownBlock ∧ some k_ ≠ (u410005 : Value).ownBlock ∧ some k_ ≠ (u410007 : Value).ownBlock) u410003 x410003_2) ∧ Aside0 (Kd.R (Kd.int .i64) 3 w' w.heap.size (fun k_ => some k_ ≠ (u410001 : Value).ownBlock ∧ some k_ ≠ (u410003 : Value).ownBlock ∧ some k_ ≠ (u410007 : Value).ownBlock) u410005 x410005_2) ∧ Aside0 (Kd.R (Kd.int .i64) 3 w' w.heap.size (fun k_ => some k_ ≠ (u410001 : Value).ownBlock ∧ some k_ ≠ (u410003 : Value).ownBlock ∧ some k_ ≠ (u410005 : Value).ownBlock) u410007 x410007_2) ∧ Aside0 (w'.heap[gb409]? = some (.cells #[.int .i64 x410000_2, u410001, .int .i64 x410002_2, u410003, .int .i64 x410004_2, u410005, .int .i64 x410006_2, u410007] 79 (0, 0))) ∧ Aside0 (Below w.heap.size w w'))
     case atStart => exact ⟨(0), (x410000_1), (x410001_1), (x410002_1), (x410003_1), (x410004_1), (x410005_1), (x410006_1), (x410007_1), (u410001), (u410003), (u410005), (u410007), (by first | rfl | (simp; done) | (simp [*]; done) | (congr 1; unfold wrap64; omega)), H', ⟨Nat.le_refl _⟩, ⟨Goto.rk HO_410001⟩, ⟨Goto.rk HO_410003⟩, ⟨Goto.rk HO_410005⟩, ⟨Goto.rk HO_410007⟩, ⟨Goto.bx BK409⟩, ⟨Goto.hx HB⟩⟩
     case round =>
      clear H'
      try clear c1; try clear c2; try clear p2; try clear q4; try clear c5; try clear c6; try clear p6; try clear c9; try clear c9b0; try clear c13; try clear c14; try clear p2; try clear p6; try clear q4; try clear q444
      obtain ⟨x14_2, x410000_2, x410001_2, x410002_2, x410003_2, x410004_2, x410005_2, x410006_2, x410007_2, u410001, u410003, u410005, u410007, rfl, HA, HK2, HO_410001, HO_410003, HO_410005, HO_410007, BK409, HB⟩ := hrel
      cases gk with
      | zero => exact absurd HA.out (by simp [tontinelaw9_ObjectOrder.l1])
      | succ k2 =>
       have H := HA.out; clear HA
       simp only [tontinelaw9_ObjectOrder.l1] at H
       by_cases c15 : x14_2 < (wrap64 (Int.tmod a1 400))
       ·
        rw [if_pos c15] at H
        have c15b0 : decide (x14_2 < (wrap64 (Int.tmod a1 400))) = true := decide_eq_true c15
        clear c15
        replace H := Option.bind_eq_some_iff.mp H
        obtain ⟨⟨t445, t446, t447, t448, t449, t452, t453, t456, t457, t460, t461⟩, A160, H⟩ := H
        replace H : (if t447.isNone = true then (if (t446 != (decide (x14_2 < (wrap64 (Int.tmod a0 40))))) = true then (tontinelaw9_ObjectOrder.j3 k2 (wrap64 (Int.tmod a0 40)) (wrap64 (Int.tmod a1 400)) (wrap64 (Int.tmod a2 4)) x14_2 true t448 t449 t452 t453 t456 t457 t460 t461) else (if t446 = true then (tontinelaw9_ObjectOrder.j3 k2 (wrap64 (Int.tmod a0 40)) (wrap64 (Int.tmod a1 400)) (wrap64 (Int.tmod a2 4)) x14_2 (t445 != x14_2) t448 t449 t452 t453 t456 t457 t460 t461) else (tontinelaw9_ObjectOrder.j3 k2 (wrap64 (Int.tmod a0 40)) (wrap64 (Int.tmod a1 400)) (wrap64 (Int.tmod a2 4)) x14_2 false t448 t449 t452 t453 t456 t457 t460 t461))) else (tontinelaw9_ObjectOrder.j3 k2 (wrap64 (Int.tmod a0 40)) (wrap64 (Int.tmod a1 400)) (wrap64 (Int.tmod a2 4)) x14_2 true t448 t449 t452 t453 t456 t457 t460 t461)) = some r := H
        have A16 := Goto.m0 A160
        clear A160
        have HC17 := Goto.m0 H
        clear H
        go_upto_region 15 with (first | ((with_reducible refine gate_callee (f := 23) rfl ?_); refine goesL_ (some 57) rfl rfl Try.func23 (by kernel_rfl) rfl #[.pointer (some ⟨gb409, 0, none⟩), .int .i64 (wrap64 (Int.tmod a2 4))] rfl (by (try simp only [List.map_toArray, List.map_cons, List.map_nil]); first | done | rfl | (simp only [List.length_drop, List.length_take]; rfl)) ?_; (with_reducible refine (object_Objects_Signal.calls gb409 x410000_2 (fun k_ => some k_ = (u410001 : Value).ownBlock) u410001 x410001_2 x410002_2 (fun k_ => some k_ = (u410003 : Value).ownBlock) u410003 x410003_2 x410004_2 (fun k_ => some k_ = (u410005 : Value).ownBlock) u410005 x410005_2 x410006_2 (fun k_ => some k_ = (u410007 : Value).ownBlock) u410007 x410007_2 (wrap64 (Int.tmod a2 4)) t445 t446 t447 t448 t449 t452 t453 t456 t457 t460 t461 w _ ?side1 ?side2 ?side3 ?side4 ?side5 ?side6 ?side7 ?side8 ?side9 ?side10 ?side11 ?side12 ?side13 ?side14 ?side15 ?side16 ?side17 ?side18 ?side19 A16.out).mono ?_); (case side1 => exact by (with_reducible repeat first | refine blk_drewN ?_ _ | refine blk_drew ?_ | refine blk_alloc ?_ _); exact BK409.out); (case side2 => exact GE409.out); (case side3 => repeat (first | (with_reducible first | exact HB.out | apply below_alloc | apply pw_below_drewN | apply below_drew1 | refine below_set ?_ GE409.out) | exact HB.out)); (case side4 => exact Kd.R_tight rfl HO_410001.out); (case side5 => exact fun k_ e_ => (HO_410001.out.1 k_ e_.symm).1); (case side6 => exact fun k_ e_ => (HO_410001.out.1 k_ e_.symm).2.1); (case side7 => exact fun k_ e_ => (HO_410001.out.1 k_ e_.symm).2.2); (case side8 => exact Kd.R_tight rfl HO_410003.out); (case side9 => exact fun k_ e_ => (HO_410003.out.1 k_ e_.symm).1); (case side10 => exact fun k_ e_ => (HO_410003.out.1 k_ e_.symm).2.1); (case side11 => exact fun k_ e_ => (HO_410003.out.1 k_ e_.symm).2.2); (case side12 => exact Kd.R_tight rfl HO_410005.out); (case side13 => exact fun k_ e_ => (HO_410005.out.1 k_ e_.symm).1); (case side14 => exact fun k_ e_ => (HO_410005.out.1 k_ e_.symm).2.1); (case side15 => exact fun k_ e_ => (HO_410005.out.1 k_ e_.symm).2.2); (case side16 => exact Kd.R_tight rfl HO_410007.out); (case side17 => exact fun k_ e_ => (HO_410007.out.1 k_ e_.symm).1); (case side18 => exact fun k_ e_ => (HO_410007.out.1 k_ e_.symm).2.1); (case side19 => exact fun k_ e_ => (HO_410007.out.1 k_ e_.symm).2.2); rintro e w18 ⟨v450, v454, v458, v462, rfl, ho0, ho1, ho2, ho3, hi, hb, hkp⟩; refine ⟨_, rfl, ?_⟩; have n0_ := Goto.m0 (hi); have n1_ := Goto.m0 (Kd.R_mono (ok' := fun k_ => some k_ ≠ (v454 : Value).ownBlock ∧ some k_ ≠ (v458 : Value).ownBlock ∧ some k_ ≠ (v462 : Value).ownBlock) ho0 (fun k_ hk_ => ⟨hk_.2.1, hk_.2.2.1, hk_.2.2.2⟩)); have n2_ := Goto.m0 (Kd.R_mono (ok' := fun k_ => some k_ ≠ (v450 : Value).ownBlock ∧ some k_ ≠ (v458 : Value).ownBlock ∧ some k_ ≠ (v462 : Value).ownBlock) ho1 (fun k_ hk_ => ⟨hk_.2.1, hk_.2.2.1, hk_.2.2.2⟩)); have n3_ := Goto.m0 (Kd.R_mono (ok' := fun k_ => some k_ ≠ (v450 : Value).ownBlock ∧ some k_ ≠ (v454 : Value).ownBlock ∧ some k_ ≠ (v462 : Value).ownBlock) ho2 (fun k_ hk_ => ⟨hk_.2.1, hk_.2.2.1, hk_.2.2.2⟩)); have n4_ := Goto.m0 (Kd.R_mono (ok' := fun k_ => some k_ ≠ (v450 : Value).ownBlock ∧ some k_ ≠ (v454 : Value).ownBlock ∧ some k_ ≠ (v458 : Value).ownBlock) ho3 (fun k_ hk_ => ⟨hk_.2.1, hk_.2.2.1, hk_.2.2.2⟩)); have n5_ := Goto.m0 (hb); clear BK409; clear HB; clear HO_410001; clear HO_410003; clear HO_410005; clear HO_410007; have BK409 := n0_; have HO451 := n1_; have HO455 := n2_; have HO459 := n3_; have HO463 := n4_; have HB := n5_; clear n0_ n1_ n2_ n3_ n4_ n5_; (try clear hb); (try clear hkp); (try clear ho0); (try clear ho1); (try clear ho2); (try clear ho3); (try simp only [errW_none, errW_some])))
        (try simp only [Act.put, List.setIfInBounds_toArray, List.set_cons_zero, List.set_cons_succ])
        go_cut [77] (fun v77 wc => ∃ (kq : Nat) (x77_16 : Bool), v77 = .bool x77_16 ∧ Aside0 (tontinelaw9_ObjectOrder.j3 kq (wrap64 (Int.tmod a0 40)) (wrap64 (Int.tmod a1 400)) (wrap64 (Int.tmod a2 4)) x14_2 x77_16 t448 t449 t452 t453 t456 t457 t460 t461 = some r) ∧ Aside0 (kq ≤ k2) ∧ Aside0 (Kd.R (Kd.int .i64) 3 wc w.heap.size (fun k_ => some k_ ≠ (v454 : Value).ownBlock ∧ some k_ ≠ (v458 : Value).ownBlock ∧ some k_ ≠ (v462 : Value).ownBlock) v450 t449) ∧ Aside0 (Kd.R (Kd.int .i64) 3 wc w.heap.size (fun k_ => some k_ ≠ (v450 : Value).ownBlock ∧ some k_ ≠ (v458 : Value).ownBlock ∧ some k_ ≠ (v462 : Value).ownBlock) v454 t453) ∧ Aside0 (Kd.R (Kd.int .i64) 3 wc w.heap.size (fun k_ => some k_ ≠ (v450 : Value).ownBlock ∧ some k_ ≠ (v454 : Value).ownBlock ∧ some k_ ≠ (v462 : Value).ownBlock) v458 t457) ∧ Aside0 (Kd.R (Kd.int .i64) 3 wc w.heap.size (fun k_ => some k_ ≠ (v450 : Value).ownBlock ∧ some k_ ≠ (v454 : Value).ownBlock ∧ some k_ ≠ (v458 : Value).ownBlock) v462 t461) ∧ Aside0 (wc.heap[gb409]? = some (.cells #[.int .i64 t448, v450, .int .i64 t452, v454, .int .i64 t456, v458, .int .i64 t460, v462] 79 (0, 0))) ∧ Aside0 (Below w.heap.size w wc))
        case first =>
         have H := HC17.out; clear HC17
         rcases t447 with _ | q464
         ·
          have H1 : (if (t446 != (decide (x14_2 < (wrap64 (Int.tmod a0 40))))) = true then (tontinelaw9_ObjectOrder.j3 k2 (wrap64 (Int.tmod a0 40)) (wrap64 (Int.tmod a1 400)) (wrap64 (Int.tmod a2 4)) x14_2 true t448 t449 t452 t453 t456 t457 t460 t461) else (if t446 = true then (tontinelaw9_ObjectOrder.j3 k2 (wrap64 (Int.tmod a0 40)) (wrap64 (Int.tmod a1 400)) (wrap64 (Int.tmod a2 4)) x14_2 (t445 != x14_2) t448 t449 t452 t453 t456 t457 t460 t461) else (tontinelaw9_ObjectOrder.j3 k2 (wrap64 (Int.tmod a0 40)) (wrap64 (Int.tmod a1 400)) (wrap64 (Int.tmod a2 4)) x14_2 false t448 t449 t452 t453 t456 t457 t460 t461))) = some r := by rw [if_pos (show (none : Option Int).isNone = true by rfl)] at H; exact H
          clear H; have H := H1; clear H1
          try simp only [errW_none, errW_some]
          by_cases c19 : (t446 != (decide (x14_2 < (wrap64 (Int.tmod a0 40))))) = true
          ·
           rw [if_pos c19] at H
           have c19b0 : (t446 != (decide (x14_2 < (wrap64 (Int.tmod a0 40))))) = true := c19
           (try (have c19b1 : decide (t446 = (decide (x14_2 < (wrap64 (Int.tmod a0 40))))) = false := by simpa using c19))
           (try (have c19b2 : (t446 == (decide (x14_2 < (wrap64 (Int.tmod a0 40))))) = false := by simpa using c19))
           (try (have c19b3 : ¬ (t446 = (decide (x14_2 < (wrap64 (Int.tmod a0 40))))) := by simpa using c19))
           clear c19
           (first | rw [c19b0] | (simp only [i64_w, i32_w]; rw [c19b0]) | skip)
           have H' := Goto.m0 H
           clear H
           go_wp2
           go_meet
           case rel => exact ⟨_, (true), (by first | rfl | (simp; done) | (simp [*]; done) | (congr 1; unfold wrap64; omega)), H', ⟨by have := HK1.out; have := HK2.out; first | omega | exact Nat.le_refl _⟩, ⟨Goto.rk HO451⟩, ⟨Goto.rk HO455⟩, ⟨Goto.rk HO459⟩, ⟨Goto.rk HO463⟩, ⟨Goto.bx BK409⟩, ⟨Goto.hx HB⟩⟩
          ·
           rw [if_neg c19] at H
           have c19b0 : (t446 != (decide (x14_2 < (wrap64 (Int.tmod a0 40))))) = false := by simpa using c19
           (try (have c19b1 : decide (t446 = (decide (x14_2 < (wrap64 (Int.tmod a0 40))))) = true := by simpa using c19))
           (try (have c19b2 : (t446 == (decide (x14_2 < (wrap64 (Int.tmod a0 40))))) = true := by simpa using c19))
           clear c19
           (first | rw [c19b0] | (simp only [i64_w, i32_w]; rw [c19b0]) | skip)
           by_cases c20 : t446 = true
           ·
            subst c20
            rw [if_pos rfl] at H
            have H' := Goto.m0 H
            clear H
            go_wp2
            go_meet
            case rel => exact ⟨_, ((t445 != x14_2)), (by first | rfl | (simp; done) | (simp [*]; done) | (congr 1; unfold wrap64; omega)), H', ⟨by have := HK1.out; have := HK2.out; first | omega | exact Nat.le_refl _⟩, ⟨Goto.rk HO451⟩, ⟨Goto.rk HO455⟩, ⟨Goto.rk HO459⟩, ⟨Goto.rk HO463⟩, ⟨Goto.bx BK409⟩, ⟨Goto.hx HB⟩⟩
           ·
            replace c20 := Bool.eq_false_iff.mpr c20
            subst c20
            rw [if_neg (show ¬ (false = true) by decide)] at H
            have H' := Goto.m0 H
            clear H
            go_wp2
            go_meet
            case rel => exact ⟨_, (false), (by first | rfl | (simp; done) | (simp [*]; done) | (congr 1; unfold wrap64; omega)), H', ⟨by have := HK1.out; have := HK2.out; first | omega | exact Nat.le_refl _⟩, ⟨Goto.rk HO451⟩, ⟨Goto.rk HO455⟩, ⟨Goto.rk HO459⟩, ⟨Goto.rk HO463⟩, ⟨Goto.bx BK409⟩, ⟨Goto.hx HB⟩⟩
         ·
          have H1 : (tontinelaw9_ObjectOrder.j3 k2 (wrap64 (Int.tmod a0 40)) (wrap64 (Int.tmod a1 400)) (wrap64 (Int.tmod a2 4)) x14_2 true t448 t449 t452 t453 t456 t457 t460 t461) = some r := by rw [if_neg (show ¬ (some q464).isNone = true by simp)] at H; exact H
          clear H; have H := H1; clear H1
          try simp only [errW_none, errW_some]
          have H' := Goto.m0 H
          clear H
          go_wp2
          go_meet
          case rel => exact ⟨_, (true), (by first | rfl | (simp; done) | (simp [*]; done) | (congr 1; unfold wrap64; omega)), H', ⟨by have := HK1.out; have := HK2.out; first | omega | exact Nat.le_refl _⟩, ⟨Goto.rk HO451⟩, ⟨Goto.rk HO455⟩, ⟨Goto.rk HO459⟩, ⟨Goto.rk HO463⟩, ⟨Goto.bx BK409⟩, ⟨Goto.hx HB⟩⟩
        case rest =>
         clear HC17; try clear c1; try clear c2; try clear p2; try clear q4; try clear c5; try clear c6; try clear p6; try clear c9; try clear c9b0; try clear c13; try clear c14; try clear c15; try clear c15b0; try clear c19; try clear c19b0; try clear c19b1; try clear c19b2; try clear c20; try clear p2; try clear p6; try clear q4; try clear q444; try clear q464
         obtain ⟨kq, x77_16, rfl, HA, HJ16, HO_410001, HO_410003, HO_410005, HO_410007, BK409, HB⟩ := hcut
         cases kq with
         | zero => exact absurd HA.out (by simp [tontinelaw9_ObjectOrder.j3])
         | succ kj16 =>
          have H := HA.out; clear HA
          simp only [tontinelaw9_ObjectOrder.j3] at H
          by_cases c21 : x77_16 = true
          ·
           subst c21
           rw [if_pos rfl] at H
           exact absurd ((Option.some.inj H).trans HRT.out) (by decide)
          ·
           replace c21 := Bool.eq_false_iff.mpr c21
           subst c21
           rw [if_neg (show ¬ (false = true) by decide)] at H
           have H' := Goto.m0 H
           clear H
           go_wp2
           go_roundg kj16
           case measure => have := HK1.out; have := HK2.out; have := HJ16.out; omega
           case rel => exact ⟨(wrap64 (x14_2 + 1)), (t448), (t449), (t452), (t453), (t456), (t457), (t460), (t461), (v450), (v454), (v458), (v462), (by first | rfl | (simp; done) | (simp [*]; done) | (congr 1; unfold wrap64; omega)), H', ⟨by have := HK1.out; have := HK2.out; have := HJ16.out; omega⟩, ⟨Goto.rk HO_410001⟩, ⟨Goto.rk HO_410003⟩, ⟨Goto.rk HO_410005⟩, ⟨Goto.rk HO_410007⟩, ⟨Goto.bx BK409⟩, ⟨Goto.hx HB⟩⟩
       ·
        rw [if_neg c15] at H
        have c15b0 : decide (x14_2 < (wrap64 (Int.tmod a1 400))) = false := decide_eq_false c15
        clear c15
        replace H := Option.bind_eq_some_iff.mp H
        obtain ⟨⟨t465, t466, t467, t470, t471, t474, t475, t478, t479⟩, A220, H⟩ := H
        replace H : (if t465 = (mn (mx 0 (wrap64 ((wrap64 (Int.tmod a1 400)) - (wrap64 (Int.tmod a0 40))))) 255) then ((object_Objects_Row.f t466 t467 t470 t471 t474 t475 t478 t479 (wrap64 (Int.tmod a2 4))).bind fun bt482 => (if (bt482.1.length : Int) = (mx 0 (wrap64 ((wrap64 (Int.tmod a0 40)) - (wrap64 (Int.tmod a1 400))))) then ((object_Objects_Wait.f k2 bt482.2.1 bt482.2.2.1 bt482.2.2.2.1 bt482.2.2.2.2.1 bt482.2.2.2.2.2.1 bt482.2.2.2.2.2.2.1 bt482.2.2.2.2.2.2.2.1 bt482.2.2.2.2.2.2.2.2 1000 (wrap64 (Int.tmod a2 4))).bind fun bt501 => (if bt501.2.1.isNone = true then (some (bt501.1 == (decide ((wrap64 (Int.tmod a1 400)) > (wrap64 (Int.tmod a0 40)))))) else (some false))) else (some false))) else (some false)) = some r := H
        have A22 := Goto.m0 A220
        clear A220
        obtain ⟨ji23, hji23⟩ : ∃ j_ : Int, (mx 0 (wrap64 ((wrap64 (Int.tmod a1 400)) - (wrap64 (Int.tmod a0 40))))) = j_ := ⟨_, rfl⟩
        replace H : (if t465 = (mn (ji23) 255) then ((object_Objects_Row.f t466 t467 t470 t471 t474 t475 t478 t479 (wrap64 (Int.tmod a2 4))).bind fun bt482 => (if (bt482.1.length : Int) = (mx 0 (wrap64 ((wrap64 (Int.tmod a0 40)) - (wrap64 (Int.tmod a1 400))))) then ((object_Objects_Wait.f k2 bt482.2.1 bt482.2.2.1 bt482.2.2.2.1 bt482.2.2.2.2.1 bt482.2.2.2.2.2.1 bt482.2.2.2.2.2.2.1 bt482.2.2.2.2.2.2.2.1 bt482.2.2.2.2.2.2.2.2 1000 (wrap64 (Int.tmod a2 4))).bind fun bt501 => (if bt501.2.1.isNone = true then (some (bt501.1 == (decide ((wrap64 (Int.tmod a1 400)) > (wrap64 (Int.tmod a0 40)))))) else (some false))) else (some false))) else (some false)) = some r := by first | (rw [hji23] at H; exact H) | (simp only [hji23] at H ⊢; exact H)
        (try rw [hji23] at A22)
        have hji23_ : (if 0 < (wrap64 ((wrap64 (Int.tmod a1 400)) - (wrap64 (Int.tmod a0 40)))) then (wrap64 ((wrap64 (Int.tmod a1 400)) - (wrap64 (Int.tmod a0 40)))) else 0) = ji23 := hji23
        obtain ⟨ji24, hji24⟩ : ∃ j_ : Int, (mn (ji23) 255) = j_ := ⟨_, rfl⟩
        (try rw [hji24] at hji23)
        (try rw [hji24] at hji23w)
        replace H : (if t465 = (ji24) then ((object_Objects_Row.f t466 t467 t470 t471 t474 t475 t478 t479 (wrap64 (Int.tmod a2 4))).bind fun bt482 => (if (bt482.1.length : Int) = (mx 0 (wrap64 ((wrap64 (Int.tmod a0 40)) - (wrap64 (Int.tmod a1 400))))) then ((object_Objects_Wait.f k2 bt482.2.1 bt482.2.2.1 bt482.2.2.2.1 bt482.2.2.2.2.1 bt482.2.2.2.2.2.1 bt482.2.2.2.2.2.2.1 bt482.2.2.2.2.2.2.2.1 bt482.2.2.2.2.2.2.2.2 1000 (wrap64 (Int.tmod a2 4))).bind fun bt501 => (if bt501.2.1.isNone = true then (some (bt501.1 == (decide ((wrap64 (Int.tmod a1 400)) > (wrap64 (Int.tmod a0 40)))))) else (some false))) else (some false))) else (some false)) = some r := by first | (rw [hji24] at H; exact H) | (simp only [hji24] at H ⊢; exact H)
        (try rw [hji24] at A22)
        have hji24_ : (if 255 < (ji23) then 255 else (ji23)) = ji24 := hji24
        by_cases c25 : t465 = (ji24)
        ·
         rw [if_pos c25] at H
         have c25b0 : (t465 == (ji24)) = true := beq_iff_eq.mpr c25
         have c25b1 : (t465 != (ji24)) = false := bne_eq_false_iff_eq.mpr c25
         clear c25
         replace H := Option.bind_eq_some_iff.mp H
         obtain ⟨⟨t482, t485, t486, t489, t490, t493, t494, t497, t498⟩, A260, H⟩ := H
         replace H : (if (t482.length : Int) = (mx 0 (wrap64 ((wrap64 (Int.tmod a0 40)) - (wrap64 (Int.tmod a1 400))))) then ((object_Objects_Wait.f k2 t485 t486 t489 t490 t493 t494 t497 t498 1000 (wrap64 (Int.tmod a2 4))).bind fun bt501 => (if bt501.2.1.isNone = true then (some (bt501.1 == (decide ((wrap64 (Int.tmod a1 400)) > (wrap64 (Int.tmod a0 40)))))) else (some false))) else (some false)) = some r := H
         have A26 := Goto.m0 A260
         clear A260
         obtain ⟨ji27, hji27⟩ : ∃ j_ : Int, (mx 0 (wrap64 ((wrap64 (Int.tmod a0 40)) - (wrap64 (Int.tmod a1 400))))) = j_ := ⟨_, rfl⟩
         (try rw [hji27] at hji23)
         (try rw [hji27] at hji23w)
         (try rw [hji27] at hji24)
         (try rw [hji27] at hji24w)
         replace H : (if (t482.length : Int) = (ji27) then ((object_Objects_Wait.f k2 t485 t486 t489 t490 t493 t494 t497 t498 1000 (wrap64 (Int.tmod a2 4))).bind fun bt501 => (if bt501.2.1.isNone = true then (some (bt501.1 == (decide ((wrap64 (Int.tmod a1 400)) > (wrap64 (Int.tmod a0 40)))))) else (some false))) else (some false)) = some r := by first | (rw [hji27] at H; exact H) | (simp only [hji27] at H ⊢; exact H)
         (try rw [hji27] at A22)
         (try rw [hji27] at A26)
         have hji27_ : (if 0 < (wrap64 ((wrap64 (Int.tmod a0 40)) - (wrap64 (Int.tmod a1 400)))) then (wrap64 ((wrap64 (Int.tmod a0 40)) - (wrap64 (Int.tmod a1 400)))) else 0) = ji27 := hji27
         by_cases c28 : (t482.length : Int) = (ji27)
         ·
          rw [if_pos c28] at H
          have c28b0 : ((t482.length : Int) == (ji27)) = true := beq_iff_eq.mpr c28
          have c28b1 : ((t482.length : Int) != (ji27)) = false := bne_eq_false_iff_eq.mpr c28
          clear c28
          replace H := Option.bind_eq_some_iff.mp H
          obtain ⟨⟨t501, t502, t503, t504, t507, t508, t511, t512, t515, t516⟩, A290, H⟩ := H
          replace H : (if t502.isNone = true then (some (t501 == (decide ((wrap64 (Int.tmod a1 400)) > (wrap64 (Int.tmod a0 40)))))) else (some false)) = some r := H
          have A29 := Goto.m0 A290
          clear A290
          rcases t502 with _ | q519
          ·
           have H1 : (some (t501 == (decide ((wrap64 (Int.tmod a1 400)) > (wrap64 (Int.tmod a0 40)))))) = some r := by rw [if_pos (show (none : Option Int).isNone = true by rfl)] at H; exact H
           clear H; have H := H1; clear H1
           try simp only [errW_none, errW_some]
           obtain rfl := Option.some.inj H
           go_wp2_with (first | ((with_reducible refine gate_callee (f := 24) rfl ?_); refine goesL_ (some 80) rfl rfl Try.func24 (by kernel_rfl) rfl #[.pointer (some ⟨gb409, 0, none⟩), .int .i64 (wrap64 (Int.tmod a2 4))] rfl (by (try simp only [List.map_toArray, List.map_cons, List.map_nil]); first | done | rfl | (simp only [List.length_drop, List.length_take]; rfl)) ?_; (with_reducible refine (object_Objects_Count.calls gb409 x410000_2 (fun k_ => some k_ = (u410001 : Value).ownBlock) u410001 x410001_2 x410002_2 (fun k_ => some k_ = (u410003 : Value).ownBlock) u410003 x410003_2 x410004_2 (fun k_ => some k_ = (u410005 : Value).ownBlock) u410005 x410005_2 x410006_2 (fun k_ => some k_ = (u410007 : Value).ownBlock) u410007 x410007_2 (wrap64 (Int.tmod a2 4)) t465 t466 t467 t470 t471 t474 t475 t478 t479 w _ ?side1 ?side2 ?side3 ?side4 ?side5 ?side6 ?side7 ?side8 ?side9 ?side10 ?side11 ?side12 ?side13 ?side14 ?side15 ?side16 ?side17 ?side18 ?side19 A22.out).mono ?_); (case side1 => exact by (with_reducible repeat first | refine blk_drewN ?_ _ | refine blk_drew ?_ | refine blk_alloc ?_ _); exact BK409.out); (case side2 => exact GE409.out); (case side3 => repeat (first | (with_reducible first | exact HB.out | apply below_alloc | apply pw_below_drewN | apply below_drew1 | refine below_set ?_ GE409.out) | exact HB.out)); (case side4 => exact Kd.R_tight rfl HO_410001.out); (case side5 => exact fun k_ e_ => (HO_410001.out.1 k_ e_.symm).1); (case side6 => exact fun k_ e_ => (HO_410001.out.1 k_ e_.symm).2.1); (case side7 => exact fun k_ e_ => (HO_410001.out.1 k_ e_.symm).2.2); (case side8 => exact Kd.R_tight rfl HO_410003.out); (case side9 => exact fun k_ e_ => (HO_410003.out.1 k_ e_.symm).1); (case side10 => exact fun k_ e_ => (HO_410003.out.1 k_ e_.symm).2.1); (case side11 => exact fun k_ e_ => (HO_410003.out.1 k_ e_.symm).2.2); (case side12 => exact Kd.R_tight rfl HO_410005.out); (case side13 => exact fun k_ e_ => (HO_410005.out.1 k_ e_.symm).1); (case side14 => exact fun k_ e_ => (HO_410005.out.1 k_ e_.symm).2.1); (case side15 => exact fun k_ e_ => (HO_410005.out.1 k_ e_.symm).2.2); (case side16 => exact Kd.R_tight rfl HO_410007.out); (case side17 => exact fun k_ e_ => (HO_410007.out.1 k_ e_.symm).1); (case side18 => exact fun k_ e_ => (HO_410007.out.1 k_ e_.symm).2.1); (case side19 => exact fun k_ e_ => (HO_410007.out.1 k_ e_.symm).2.2); rintro e w30 ⟨v468, v472, v476, v480, rfl, ho0, ho1, ho2, ho3, hi, hb, hkp⟩; refine ⟨_, rfl, ?_⟩; have n0_ := Goto.m0 (hi); have n1_ := Goto.m0 (Kd.R_mono (ok' := fun k_ => some k_ ≠ (v472 : Value).ownBlock ∧ some k_ ≠ (v476 : Value).ownBlock ∧ some k_ ≠ (v480 : Value).ownBlock) ho0 (fun k_ hk_ => ⟨hk_.2.1, hk_.2.2.1, hk_.2.2.2⟩)); have n2_ := Goto.m0 (Kd.R_mono (ok' := fun k_ => some k_ ≠ (v468 : Value).ownBlock ∧ some k_ ≠ (v476 : Value).ownBlock ∧ some k_ ≠ (v480 : Value).ownBlock) ho1 (fun k_ hk_ => ⟨hk_.2.1, hk_.2.2.1, hk_.2.2.2⟩)); have n3_ := Goto.m0 (Kd.R_mono (ok' := fun k_ => some k_ ≠ (v468 : Value).ownBlock ∧ some k_ ≠ (v472 : Value).ownBlock ∧ some k_ ≠ (v480 : Value).ownBlock) ho2 (fun k_ hk_ => ⟨hk_.2.1, hk_.2.2.1, hk_.2.2.2⟩)); have n4_ := Goto.m0 (Kd.R_mono (ok' := fun k_ => some k_ ≠ (v468 : Value).ownBlock ∧ some k_ ≠ (v472 : Value).ownBlock ∧ some k_ ≠ (v476 : Value).ownBlock) ho3 (fun k_ hk_ => ⟨hk_.2.1, hk_.2.2.1, hk_.2.2.2⟩)); have n5_ := Goto.m0 (hb); clear BK409; clear HB; clear HO_410001; clear HO_410003; clear HO_410005; clear HO_410007; have BK409 := n0_; have HO469 := n1_; have HO473 := n2_; have HO477 := n3_; have HO481 := n4_; have HB := n5_; clear n0_ n1_ n2_ n3_ n4_ n5_; (try clear hb); (try clear hkp); (try clear ho0); (try clear ho1); (try clear ho2); (try clear ho3)) | (go_at_call 25; (with_reducible refine (object_Objects_Row.calls gb409 t466 (fun k_ => some k_ = (v468 : Value).ownBlock) v468 t467 t470 (fun k_ => some k_ = (v472 : Value).ownBlock) v472 t471 t474 (fun k_ => some k_ = (v476 : Value).ownBlock) v476 t475 t478 (fun k_ => some k_ = (v480 : Value).ownBlock) v480 t479 (wrap64 (Int.tmod a2 4)) t482 t485 t486 t489 t490 t493 t494 t497 t498 w _ ?side1 ?side2 ?side3 ?side4 ?side5 ?side6 ?side7 ?side8 ?side9 ?side10 ?side11 ?side12 ?side13 ?side14 ?side15 ?side16 ?side17 ?side18 ?side19 A26.out).mono ?_); (case side1 => exact by (with_reducible repeat first | refine blk_drewN ?_ _ | refine blk_drew ?_ | refine blk_alloc ?_ _); exact BK409.out); (case side2 => exact GE409.out); (case side3 => repeat (first | (with_reducible first | exact HB.out | apply below_alloc | apply pw_below_drewN | apply below_drew1 | refine below_set ?_ GE409.out) | exact HB.out)); (case side4 => exact Kd.R_tight rfl HO469.out); (case side5 => exact fun k_ e_ => (HO469.out.1 k_ e_.symm).1); (case side6 => exact fun k_ e_ => (HO469.out.1 k_ e_.symm).2.1); (case side7 => exact fun k_ e_ => (HO469.out.1 k_ e_.symm).2.2); (case side8 => exact Kd.R_tight rfl HO473.out); (case side9 => exact fun k_ e_ => (HO473.out.1 k_ e_.symm).1); (case side10 => exact fun k_ e_ => (HO473.out.1 k_ e_.symm).2.1); (case side11 => exact fun k_ e_ => (HO473.out.1 k_ e_.symm).2.2); (case side12 => exact Kd.R_tight rfl HO477.out); (case side13 => exact fun k_ e_ => (HO477.out.1 k_ e_.symm).1); (case side14 => exact fun k_ e_ => (HO477.out.1 k_ e_.symm).2.1); (case side15 => exact fun k_ e_ => (HO477.out.1 k_ e_.symm).2.2); (case side16 => exact Kd.R_tight rfl HO481.out); (case side17 => exact fun k_ e_ => (HO481.out.1 k_ e_.symm).1); (case side18 => exact fun k_ e_ => (HO481.out.1 k_ e_.symm).2.1); (case side19 => exact fun k_ e_ => (HO481.out.1 k_ e_.symm).2.2); rintro e w31 ⟨v483, v487, v491, v495, v499, rfl, ho0, ho1, ho2, ho3, ho4, hi, hb, hkp⟩; have n0_ := Goto.m0 (hi); have n1_ := Goto.m0 (Kd.R_mono (ok' := fun k_ => some k_ ≠ (v487 : Value).ownBlock ∧ some k_ ≠ (v491 : Value).ownBlock ∧ some k_ ≠ (v495 : Value).ownBlock ∧ some k_ ≠ (v499 : Value).ownBlock) ho0 (fun k_ hk_ => ⟨hk_.2.1, hk_.2.2.1, hk_.2.2.2.1, hk_.2.2.2.2⟩)); have n2_ := Goto.m0 (Kd.R_mono (ok' := fun k_ => some k_ ≠ (v483 : Value).ownBlock ∧ some k_ ≠ (v491 : Value).ownBlock ∧ some k_ ≠ (v495 : Value).ownBlock ∧ some k_ ≠ (v499 : Value).ownBlock) ho1 (fun k_ hk_ => ⟨hk_.2.1, hk_.2.2.1, hk_.2.2.2.1, hk_.2.2.2.2⟩)); have n3_ := Goto.m0 (Kd.R_mono (ok' := fun k_ => some k_ ≠ (v483 : Value).ownBlock ∧ some k_ ≠ (v487 : Value).ownBlock ∧ some k_ ≠ (v495 : Value).ownBlock ∧ some k_ ≠ (v499 : Value).ownBlock) ho2 (fun k_ hk_ => ⟨hk_.2.1, hk_.2.2.1, hk_.2.2.2.1, hk_.2.2.2.2⟩)); have n4_ := Goto.m0 (Kd.R_mono (ok' := fun k_ => some k_ ≠ (v483 : Value).ownBlock ∧ some k_ ≠ (v487 : Value).ownBlock ∧ some k_ ≠ (v491 : Value).ownBlock ∧ some k_ ≠ (v499 : Value).ownBlock) ho3 (fun k_ hk_ => ⟨hk_.2.1, hk_.2.2.1, hk_.2.2.2.1, hk_.2.2.2.2⟩)); have n5_ := Goto.m0 (Kd.R_mono (ok' := fun k_ => some k_ ≠ (v483 : Value).ownBlock ∧ some k_ ≠ (v487 : Value).ownBlock ∧ some k_ ≠ (v491 : Value).ownBlock ∧ some k_ ≠ (v495 : Value).ownBlock) ho4 (fun k_ hk_ => ⟨hk_.2.1, hk_.2.2.1, hk_.2.2.2.1, hk_.2.2.2.2⟩)); have n6_ := Goto.m0 (hb); clear BK409; clear HB; clear HO469; clear HO473; clear HO477; clear HO481; have BK409 := n0_; have HO484 := n1_; have HO488 := n2_; have HO492 := n3_; have HO496 := n4_; have HO500 := n5_; have HB := n6_; clear n0_ n1_ n2_ n3_ n4_ n5_ n6_; (try clear hb); (try clear hkp); (try clear ho0); (try clear ho1); (try clear ho2); (try clear ho3); (try clear ho4); obtain ⟨Ao32, co32, eo32⟩ := Kd.R_slice HO484.out; subst eo32) | ((with_reducible refine gate_callee (f := 22) rfl ?_); refine goesL_ (some 101) rfl rfl Try.func22 (by kernel_rfl) rfl #[.pointer (some ⟨gb409, 0, none⟩), .int .i64 1000, .int .i64 (wrap64 (Int.tmod a2 4))] rfl (by (try simp only [List.map_toArray, List.map_cons, List.map_nil]); first | done | rfl | (simp only [List.length_drop, List.length_take]; rfl)) ?_; (with_reducible refine (object_Objects_Wait.calls k2 gb409 t485 (fun k_ => some k_ = (v487 : Value).ownBlock) v487 t486 t489 (fun k_ => some k_ = (v491 : Value).ownBlock) v491 t490 t493 (fun k_ => some k_ = (v495 : Value).ownBlock) v495 t494 t497 (fun k_ => some k_ = (v499 : Value).ownBlock) v499 t498 1000 (wrap64 (Int.tmod a2 4)) t501 none t503 t504 t507 t508 t511 t512 t515 t516 w _ ?side1 ?side2 ?side3 ?side4 ?side5 ?side6 ?side7 ?side8 ?side9 ?side10 ?side11 ?side12 ?side13 ?side14 ?side15 ?side16 ?side17 ?side18 ?side19 A29.out).mono ?_); (case side1 => exact by (with_reducible repeat first | refine blk_drewN ?_ _ | refine blk_drew ?_ | refine blk_alloc ?_ _); exact BK409.out); (case side2 => exact GE409.out); (case side3 => repeat (first | (with_reducible first | exact HB.out | apply below_alloc | apply pw_below_drewN | apply below_drew1 | refine below_set ?_ GE409.out) | exact HB.out)); (case side4 => exact Kd.R_tight rfl HO488.out); (case side5 => exact fun k_ e_ => (HO488.out.1 k_ e_.symm).2.1); (case side6 => exact fun k_ e_ => (HO488.out.1 k_ e_.symm).2.2.1); (case side7 => exact fun k_ e_ => (HO488.out.1 k_ e_.symm).2.2.2); (case side8 => exact Kd.R_tight rfl HO492.out); (case side9 => exact fun k_ e_ => (HO492.out.1 k_ e_.symm).2.1); (case side10 => exact fun k_ e_ => (HO492.out.1 k_ e_.symm).2.2.1); (case side11 => exact fun k_ e_ => (HO492.out.1 k_ e_.symm).2.2.2); (case side12 => exact Kd.R_tight rfl HO496.out); (case side13 => exact fun k_ e_ => (HO496.out.1 k_ e_.symm).2.1); (case side14 => exact fun k_ e_ => (HO496.out.1 k_ e_.symm).2.2.1); (case side15 => exact fun k_ e_ => (HO496.out.1 k_ e_.symm).2.2.2); (case side16 => exact Kd.R_tight rfl HO500.out); (case side17 => exact fun k_ e_ => (HO500.out.1 k_ e_.symm).2.1); (case side18 => exact fun k_ e_ => (HO500.out.1 k_ e_.symm).2.2.1); (case side19 => exact fun k_ e_ => (HO500.out.1 k_ e_.symm).2.2.2); rintro e w33 ⟨v505, v509, v513, v517, rfl, ho0, ho1, ho2, ho3, hi, hb, hkp⟩; refine ⟨_, rfl, ?_⟩; have n0_ := Goto.m0 (hi); have n1_ := Goto.m0 (Kd.R_mono (ok' := fun k_ => some k_ ≠ (v505 : Value).ownBlock ∧ some k_ ≠ (v509 : Value).ownBlock ∧ some k_ ≠ (v513 : Value).ownBlock ∧ some k_ ≠ (v517 : Value).ownBlock) (Kd.R_keptB ((Kd.R_types HO484.out BK409.out (by decide))) hkp (fun k_ hk_ hs_ => Or.elim hs_ (fun hs_ => Or.elim hs_ (fun e_ => (hk_.1.1) e_) (fun e_ => Or.elim e_ (fun e_ => (hk_.1.2.1) e_) (fun e_ => Or.elim e_ (fun e_ => (hk_.1.2.2.1) e_) (fun e_ => (hk_.1.2.2.2) e_)))) (fun e_ => (hk_.2) e_))) (fun k_ hk_ => ⟨fun e_ => Or.elim (ho0.1 k_ e_.symm).1 (fun hs_ => hk_.2.1 (.inl hs_)) (fun hn_ => Nat.not_le.2 hk_.2.2 hn_), fun e_ => Or.elim (ho1.1 k_ e_.symm).1 (fun hs_ => hk_.2.1 (.inl hs_)) (fun hn_ => Nat.not_le.2 hk_.2.2 hn_), fun e_ => Or.elim (ho2.1 k_ e_.symm).1 (fun hs_ => hk_.2.1 (.inl hs_)) (fun hn_ => Nat.not_le.2 hk_.2.2 hn_), fun e_ => Or.elim (ho3.1 k_ e_.symm).1 (fun hs_ => hk_.2.1 (.inl hs_)) (fun hn_ => Nat.not_le.2 hk_.2.2 hn_)⟩)); have n2_ := Goto.m0 (Kd.R_mono (ok' := fun k_ => some k_ ≠ (v509 : Value).ownBlock ∧ some k_ ≠ (v513 : Value).ownBlock ∧ some k_ ≠ (v517 : Value).ownBlock ∧ some k_ ≠ (.slice Ao32 t482.length co32 : Value).ownBlock) ho0 (fun k_ hk_ => ⟨hk_.2.1, hk_.2.2.1, hk_.2.2.2, Or.elim hk_.1 (fun hs_ => Or.elim hs_ (fun hs_ => fun e_ => ((((Kd.R_types HO484.out BK409.out (by decide))).1 k_ e_.symm).1.1) hs_) (fun hs_ => Or.elim hs_ (fun hs_ => fun e_ => ((((Kd.R_types HO484.out BK409.out (by decide))).1 k_ e_.symm).1.2.1) hs_) (fun hs_ => Or.elim hs_ (fun hs_ => fun e_ => ((((Kd.R_types HO484.out BK409.out (by decide))).1 k_ e_.symm).1.2.2.1) hs_) (fun hs_ => fun e_ => ((((Kd.R_types HO484.out BK409.out (by decide))).1 k_ e_.symm).1.2.2.2) hs_)))) (fun hn_ => (Kd.fresh' (Kd.R_lt (Goto.rk HO484)) k_ hn_))⟩)); have n3_ := Goto.m0 (Kd.R_mono (ok' := fun k_ => some k_ ≠ (v505 : Value).ownBlock ∧ some k_ ≠ (v513 : Value).ownBlock ∧ some k_ ≠ (v517 : Value).ownBlock ∧ some k_ ≠ (.slice Ao32 t482.length co32 : Value).ownBlock) ho1 (fun k_ hk_ => ⟨hk_.2.1, hk_.2.2.1, hk_.2.2.2, Or.elim hk_.1 (fun hs_ => Or.elim hs_ (fun hs_ => fun e_ => ((((Kd.R_types HO484.out BK409.out (by decide))).1 k_ e_.symm).1.1) hs_) (fun hs_ => Or.elim hs_ (fun hs_ => fun e_ => ((((Kd.R_types HO484.out BK409.out (by decide))).1 k_ e_.symm).1.2.1) hs_) (fun hs_ => Or.elim hs_ (fun hs_ => fun e_ => ((((Kd.R_types HO484.out BK409.out (by decide))).1 k_ e_.symm).1.2.2.1) hs_) (fun hs_ => fun e_ => ((((Kd.R_types HO484.out BK409.out (by decide))).1 k_ e_.symm).1.2.2.2) hs_)))) (fun hn_ => (Kd.fresh' (Kd.R_lt (Goto.rk HO484)) k_ hn_))⟩)); have n4_ := Goto.m0 (Kd.R_mono (ok' := fun k_ => some k_ ≠ (v505 : Value).ownBlock ∧ some k_ ≠ (v509 : Value).ownBlock ∧ some k_ ≠ (v517 : Value).ownBlock ∧ some k_ ≠ (.slice Ao32 t482.length co32 : Value).ownBlock) ho2 (fun k_ hk_ => ⟨hk_.2.1, hk_.2.2.1, hk_.2.2.2, Or.elim hk_.1 (fun hs_ => Or.elim hs_ (fun hs_ => fun e_ => ((((Kd.R_types HO484.out BK409.out (by decide))).1 k_ e_.symm).1.1) hs_) (fun hs_ => Or.elim hs_ (fun hs_ => fun e_ => ((((Kd.R_types HO484.out BK409.out (by decide))).1 k_ e_.symm).1.2.1) hs_) (fun hs_ => Or.elim hs_ (fun hs_ => fun e_ => ((((Kd.R_types HO484.out BK409.out (by decide))).1 k_ e_.symm).1.2.2.1) hs_) (fun hs_ => fun e_ => ((((Kd.R_types HO484.out BK409.out (by decide))).1 k_ e_.symm).1.2.2.2) hs_)))) (fun hn_ => (Kd.fresh' (Kd.R_lt (Goto.rk HO484)) k_ hn_))⟩)); have n5_ := Goto.m0 (Kd.R_mono (ok' := fun k_ => some k_ ≠ (v505 : Value).ownBlock ∧ some k_ ≠ (v509 : Value).ownBlock ∧ some k_ ≠ (v513 : Value).ownBlock ∧ some k_ ≠ (.slice Ao32 t482.length co32 : Value).ownBlock) ho3 (fun k_ hk_ => ⟨hk_.2.1, hk_.2.2.1, hk_.2.2.2, Or.elim hk_.1 (fun hs_ => Or.elim hs_ (fun hs_ => fun e_ => ((((Kd.R_types HO484.out BK409.out (by decide))).1 k_ e_.symm).1.1) hs_) (fun hs_ => Or.elim hs_ (fun hs_ => fun e_ => ((((Kd.R_types HO484.out BK409.out (by decide))).1 k_ e_.symm).1.2.1) hs_) (fun hs_ => Or.elim hs_ (fun hs_ => fun e_ => ((((Kd.R_types HO484.out BK409.out (by decide))).1 k_ e_.symm).1.2.2.1) hs_) (fun hs_ => fun e_ => ((((Kd.R_types HO484.out BK409.out (by decide))).1 k_ e_.symm).1.2.2.2) hs_)))) (fun hn_ => (Kd.fresh' (Kd.R_lt (Goto.rk HO484)) k_ hn_))⟩)); have n6_ := Goto.m0 (hb); clear BK409; clear HO484; clear HB; clear HO488; clear HO492; clear HO496; clear HO500; have BK409 := n0_; have HO484 := n1_; have HO506 := n2_; have HO510 := n3_; have HO514 := n4_; have HO518 := n5_; have HB := n6_; clear n0_ n1_ n2_ n3_ n4_ n5_ n6_; (try clear hb); (try clear hkp); (try clear ho0); (try clear ho1); (try clear ho2); (try clear ho3); (try simp only [errW_none, errW_some])))
           go_ret
           exact ⟨by first | rfl | (simp [errW_none, errW_some] <;> rfl) | (simp only [← hji23, ← hji24, ← hji27]; first | rfl | (simp [errW_none, errW_some] <;> rfl)) | (simp [*, errW_none, errW_some] <;> rfl), by repeat (first | (with_reducible first | exact HB.out | apply below_alloc | apply pw_below_drewN | apply below_drew1 | refine below_set ?_ GE409.out) | exact HB.out)⟩
          ·
           have H1 : (some false) = some r := by rw [if_neg (show ¬ (some q519).isNone = true by simp)] at H; exact H
           clear H; have H := H1; clear H1
           try simp only [errW_none, errW_some]
           exact absurd ((Option.some.inj H).trans HRT.out) (by decide)
         ·
          rw [if_neg c28] at H
          have c28b0 : ((t482.length : Int) == (ji27)) = false := beq_eq_false_iff_ne.mpr c28
          have c28b1 : ((t482.length : Int) != (ji27)) = true := bne_iff_ne.mpr c28
          exact absurd ((Option.some.inj H).trans HRT.out) (by decide)
        ·
         rw [if_neg c25] at H
         have c25b0 : (t465 == (ji24)) = false := beq_eq_false_iff_ne.mpr c25
         have c25b1 : (t465 != (ji24)) = true := bne_iff_ne.mpr c25
         exact absurd ((Option.some.inj H).trans HRT.out) (by decide)
 ·
  replace c5 := Bool.eq_false_iff.mpr c5
  subst c5
  rw [if_neg (show ¬ (false = true) by decide)] at H
  exact absurd ((Option.some.inj H).trans HRT.out) (by decide)

/-- THE ONE PURE STATEMENT of tontinelaw9_ObjectOrder: yours. -/
def tontinelaw9_ObjectOrder.Pure : Prop := ∀ (a0 : Int) (a1 : Int) (a2 : Int), (Lit.int .u8 a0).wf = true → (Lit.int .u16 a1).wf = true → (Lit.int .u8 a2).wf = true → ∃ k, tontinelaw9_ObjectOrder.f k a0 a1 a2 = some true
theorem tontinelaw9_ObjectOrder.walk (P : tontinelaw9_ObjectOrder.Pure) (a0 : Int) (a1 : Int) (a2 : Int) (w : World) (w0 : (Lit.int .u8 a0).wf = true) (w1 : (Lit.int .u16 a1).wf = true) (w2 : (Lit.int .u8 a2).wf = true) :
    Calls Try.prog 6 #[.int .u8 a0, .int .u16 a1, .int .u8 a2] w fun e w' => e = .returned (.bool true) ∧ Below w.heap.size w w' := by
 obtain ⟨k, h⟩ := P a0 a1 a2 w0 w1 w2
 refine (tontinelaw9_ObjectOrder.calls k a0 a1 a2 true rfl w h).mono ?_
 rintro e w' ⟨rfl, hd⟩
 exact ⟨rfl, hd⟩

end Go.Proofs.Ytiejhnijfgdapaa.P
