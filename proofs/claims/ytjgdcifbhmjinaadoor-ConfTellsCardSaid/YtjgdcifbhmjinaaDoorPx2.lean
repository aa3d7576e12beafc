/- Printed by a program of this workplace (a turned copy of the kit's optional print), out of the translation; not trusted: Lean checks it. -/
import Derived.Test.YtjgdcifbhmjinaaDoorPx0
namespace Go.Proofs.YtjgdcifbhmjinaaDoor.P
open Go.RowKit Go.Proofs.YtjgdcifbhmjinaaDoorW.PrintWords Go.Proofs.YtjgdcifbhmjinaaDoorW.PrintLast Go.Proofs.YtjgdcifbhmjinaaDoorW.PrintMore
attribute [local go_sem] max2_int min2_int max_two min_two max_three min_three max_four min_four   -- for this text's walks alone
set_option linter.unusedVariables false
set_option linter.unusedSimpArgs false

/-! ### conf_within: function 36 -/
def conf_within.f (a0 : Int) (a1 : Int) (a2 : Int) : Option (Bool) := if a0 ≥ a1 then (some (decide (a0 ≤ a2))) else (some false)
set_option maxHeartbeats 8000000 in
set_option maxRecDepth 100000 in
theorem conf_within.calls (a0 : Int) (a1 : Int) (a2 : Int) (r : Bool) (w : World) (h : conf_within.f a0 a1 a2 = some r) :
    Calls Tryd.prog 36 #[.int .i64 a0, .int .i64 a1, .int .i64 a2] w fun e w' => e = .returned (.bool r) ∧ Drawn0 w w' := by
 have H : (if a0 ≥ a1 then (some (decide (a0 ≤ a2))) else (some false)) = some r := h
 clear h
 by_cases c4 : a0 ≥ a1
 ·
  rw [if_pos c4] at H
  have c4b0 : decide (a1 ≤ a0) = true := decide_eq_true c4
  clear c4
  obtain rfl := Option.some.inj H
  go_enter Tryd.func36, Tryd.ntmps36
  go_wp2
  go_ret
  exact ⟨by first | rfl | (simp; done) | (simp [*]; done), by repeat (first | exact Drawn0.refl _ | apply Drawn0.step)⟩
 ·
  rw [if_neg c4] at H
  have c4b0 : decide (a1 ≤ a0) = false := decide_eq_false c4
  clear c4
  obtain rfl := Option.some.inj H
  go_enter Tryd.func36, Tryd.ntmps36
  go_wp2
  go_ret
  exact ⟨by first | rfl | (simp; done) | (simp [*]; done), by repeat (first | exact Drawn0.refl _ | apply Drawn0.step)⟩

/-! ### label_Is: function 37 -/
def label_Is.f (a0_0 : Int) (a0_1 : Int) : Option (Bool) := if a0_0 ≥ 0 then (some (decide (a0_0 ≤ 255))) else (some false)
set_option maxHeartbeats 8000000 in
set_option maxRecDepth 100000 in
theorem label_Is.calls (a0_0 : Int) (a0_1 : Int) (r : Bool) (w : World) (h : label_Is.f a0_0 a0_1 = some r) :
    Calls Tryd.prog 37 #[.agg #[.int .i64 a0_0, .int .u64 a0_1]] w fun e w' => e = .returned (.bool r) ∧ Below w.heap.size w w' := by
 have hu38 := Tryd.underlying38
 have HB := Goto.m0 (Below.refl w.heap.size w)
 have H : (if a0_0 ≥ 0 then (some (decide (a0_0 ≤ 255))) else (some false)) = some r := h
 clear h
 by_cases c2 : a0_0 ≥ 0
 ·
  rw [if_pos c2] at H
  have c2b0 : decide (0 ≤ a0_0) = true := decide_eq_true c2
  clear c2
  obtain rfl := Option.some.inj H
  go_enter Tryd.func37, Tryd.ntmps37
  go_wp2_with (first | ((with_reducible refine gate_dst (N := 1) rfl ?_); refine box_event ?hg (N := 1) ?hd (cs := #[.int .i64 a0_0, .int .u64 a0_1]) (t := 38) ?hr ?_; (case hd => rfl); (case hg => rfl); (case hr => first | (go_simp; done) | (go_simp; rfl)); intro gb101 hg w3 hbox hb; have BK101 := Goto.m0 (hbox); have GW101 := Goto.gs HB hg; have GE101 := Goto.gs HB hg; replace HB := Goto.hs HB hb; clear hb hbox hg; have hcz4_0 := Goto.bc0 BK101; have hcz4_1 := Goto.bc1 BK101; have hfz4_0 := Goto.bf BK101 0; have hfz4_1 := Goto.bf BK101 1))
  go_ret
  exact ⟨Goto.er, by repeat (first | (with_reducible first | exact HB.out | apply below_alloc | apply pw_below_drewN | apply below_drew1 | refine below_set ?_ GE101.out) | exact HB.out)⟩
 ·
  rw [if_neg c2] at H
  have c2b0 : decide (0 ≤ a0_0) = false := decide_eq_false c2
  clear c2
  obtain rfl := Option.some.inj H
  go_enter Tryd.func37, Tryd.ntmps37
  go_wp2_with (first | ((with_reducible refine gate_dst (N := 1) rfl ?_); refine box_event ?hg (N := 1) ?hd (cs := #[.int .i64 a0_0, .int .u64 a0_1]) (t := 38) ?hr ?_; (case hd => rfl); (case hg => rfl); (case hr => first | (go_simp; done) | (go_simp; rfl)); intro gb101 hg w5 hbox hb; have BK101 := Goto.m0 (hbox); have GW101 := Goto.gs HB hg; have GE101 := Goto.gs HB hg; replace HB := Goto.hs HB hb; clear hb hbox hg; have hcz6_0 := Goto.bc0 BK101; have hcz6_1 := Goto.bc1 BK101; have hfz6_0 := Goto.bf BK101 0; have hfz6_1 := Goto.bf BK101 1))
  go_ret
  exact ⟨Goto.er, by repeat (first | (with_reducible first | exact HB.out | apply below_alloc | apply pw_below_drewN | apply below_drew1 | refine below_set ?_ GE101.out) | exact HB.out)⟩

/-! ### conf_form: function 16 -/
mutual
def conf_form.j0 : Nat → Bool → Int → Int → List (List Int) → List (S40) → Option (Bool)
  | 0, _, _, _, _, _ => none
  | k + 1, x3, x103000, x103001, x103002, x103003 => conf_form.l0 k x3 x103003 (x103003.length : Int) 0
def conf_form.l0 : Nat → Bool → List (S40) → Int → Int → Option (Bool)
  | 0, _, _, _, _ => none
  | k + 1, x3, x21, x22, x23 => if x23 < x22 then (if 0 ≤ x23 then (if x23 < (x21.length : Int) then (if x3 = true then ((label_Is.f ((rd_T40 x21 x23).f0.f0) ((rd_T40 x21 x23).f0.f1)).bind fun t108 => (conf_form.l0 k t108 x21 x22 (wrap64 (x23 + 1)))) else (conf_form.l0 k false x21 x22 (wrap64 (x23 + 1)))) else (none)) else (none)) else (some x3)
end
def conf_form.f (k : Nat) (a0_0 : Int) (a0_1 : Int) (l0_2 : List (List Int)) (l0_3 : List (S40)) : Option (Bool) := (conf_within.f a0_0 1 64).bind fun t103 => (if t103 = true then ((conf_within.f a0_1 1 8).bind fun t104 => (if t104 = true then ((conf_within.f (l0_3.length : Int) 1 6).bind fun t105 => (conf_form.j0 k t105 a0_0 a0_1 l0_2 l0_3)) else (conf_form.j0 k false a0_0 a0_1 l0_2 l0_3))) else (conf_form.j0 k false a0_0 a0_1 l0_2 l0_3))
set_option maxHeartbeats 8000000 in
set_option maxRecDepth 100000 in
theorem conf_form.calls (k : Nat) (a0_0 : Int) (a0_1 : Int) (A0_2 : Option Addr) (c0_2 : Nat) (l0_2 : List (List Int)) (A0_3 : Option Addr) (c0_3 : Nat) (l0_3 : List (S40)) (r : Bool) (w : World) (hr0_2 : Kd.C (Kd.slice 3 (Kd.int .i64)) w A0_2 l0_2.length l0_2) (hc0_2 : l0_2.length ≤ c0_2) (hr0_3 : Kd.C k40 w A0_3 l0_3.length l0_3) (hc0_3 : l0_3.length ≤ c0_3) (h : conf_form.f k a0_0 a0_1 l0_2 l0_3 = some r) :
    Calls Tryd.prog 16 #[.agg #[.int .i64 a0_0, .int .i64 a0_1, .slice A0_2 l0_2.length c0_2, .slice A0_3 l0_3.length c0_3]] w fun e w' => e = .returned (.bool r) ∧ Below w.heap.size w w' := by
 have hu25 := Tryd.underlying25; have hu40 := Tryd.underlying40; have hu38 := Tryd.underlying38
 have HR0_2 := Goto.m0 hr0_2
 have HC0_2 := Goto.m0 hc0_2
 clear hr0_2 hc0_2
 have HR0_3 := Goto.m0 hr0_3
 have HC0_3 := Goto.m0 hc0_3
 clear hr0_3 hc0_3
 have HB := Goto.m0 (Below.refl w.heap.size w)
 have H : ((conf_within.f a0_0 1 64).bind fun t103 => (if t103 = true then ((conf_within.f a0_1 1 8).bind fun t104 => (if t104 = true then ((conf_within.f (l0_3.length : Int) 1 6).bind fun t105 => (conf_form.j0 k t105 a0_0 a0_1 l0_2 l0_3)) else (conf_form.j0 k false a0_0 a0_1 l0_2 l0_3))) else (conf_form.j0 k false a0_0 a0_1 l0_2 l0_3))) = some r := h
 clear h
 have HC2 := Goto.m0 H
 clear H
 go_enter Tryd.func16, Tryd.ntmps16
 go_upto_region 1 with (first | ((with_reducible refine gate_dst (N := 1) rfl ?_); (try (refine gate_guard (by rfl) ?_; dsimp only)); refine box_event ?hg (N := 1) ?hd (cs := #[.int .i64 a0_0, .int .i64 a0_1, .slice A0_2 l0_2.length c0_2, .slice A0_3 l0_3.length c0_3]) (t := 25) ?hr ?_; (case hd => rfl); (case hg => rfl); (case hr => first | (go_simp; done) | (go_simp; rfl)); intro gb102 hg w3 hbox hb; have BK102 := Goto.m0 (hbox); have GW102 := Goto.gs HB hg; have GE102 := Goto.gs HB hg; replace HB := Goto.hs HB hb; clear hb hbox hg))
 (try simp only [Act.put, List.setIfInBounds_toArray, List.set_cons_zero, List.set_cons_succ])
 go_cut [3] (fun v3 wc => ∃ (kq : Nat) (x3_1 : Bool), v3 = .bool x3_1 ∧ Aside0 (conf_form.j0 kq x3_1 a0_0 a0_1 l0_2 l0_3 = some r) ∧ Aside0 (kq ≤ k) ∧ Aside0 (wc.heap[gb102]? = some (.cells #[.int .i64 a0_0, .int .i64 a0_1, (.slice A0_2 l0_2.length c0_2), (.slice A0_3 l0_3.length c0_3)] 25 (0, 0))) ∧ Aside0 (Below w.heap.size w wc))
 case first =>
  have H := HC2.out; clear HC2
  replace H := Option.bind_eq_some_iff.mp H
  obtain ⟨t103, A40, H⟩ := H
  have A4 := Goto.m0 A40
  clear A40
  by_cases c5 : t103 = true
  ·
   subst c5
   rw [if_pos rfl] at H
   replace H := Option.bind_eq_some_iff.mp H
   obtain ⟨t104, A60, H⟩ := H
   have A6 := Goto.m0 A60
   clear A60
   by_cases c7 : t104 = true
   ·
    subst c7
    rw [if_pos rfl] at H
    replace H := Option.bind_eq_some_iff.mp H
    obtain ⟨t105, A80, H⟩ := H
    have A8 := Goto.m0 A80
    clear A80
    have H' := Goto.m0 H
    clear H; have hcz9_0 := Goto.bc0 BK102; have hcz9_1 := Goto.bc1 BK102; have hcz9_2 := Goto.bc2 BK102; have hcz9_3 := Goto.bc3 BK102; have hfz9_0 := Goto.bf BK102 0; have hfz9_1 := Goto.bf BK102 1; have hfz9_2 := Goto.bf BK102 2; have hfz9_3 := Goto.bf BK102 3
    go_wp2_with (first | ((first | (with_reducible refine gate_callee (f := 36) rfl ?_) | (with_reducible refine Goto.gate_calleeF rfl ?_)); (first | refine goesL_ (some 8) rfl rfl Tryd.func36 (by kernel_rfl) rfl #[.int .i64 a0_0, .int .i64 1, .int .i64 64] rfl (by (try simp only [List.map_toArray, List.map_cons, List.map_nil]); first | done | rfl | (simp only [List.length_drop, List.length_take]; rfl)) ?_ | refine Goto.goesF_ (some 8) rfl rfl Tryd.func36 (by kernel_rfl) rfl #[.int .i64 a0_0, .int .i64 1, .int .i64 64] rfl (by (try simp only [List.map_toArray, List.map_cons, List.map_nil]); first | done | rfl | (simp only [List.length_drop, List.length_take]; rfl)) ?_); (with_reducible refine (conf_within.calls a0_0 1 64 true _ A4.out).mono ?_); rintro e w' ⟨rfl, ⟨nd, rfl⟩⟩; refine ⟨_, rfl, ?_⟩) | (go_at_call 36; (with_reducible refine (conf_within.calls a0_1 1 8 true _ A6.out).mono ?_); rintro e w' ⟨rfl, ⟨nd, rfl⟩⟩) | (go_at_call 36; (with_reducible refine (conf_within.calls (l0_3.length : Int) 1 6 t105 _ A8.out).mono ?_); rintro e w' ⟨rfl, ⟨nd, rfl⟩⟩))
    go_meet
    case rel => exact ⟨_, (t105), (by first | rfl | (simp; done) | (simp [*]; done)), H', ⟨by first | omega | exact Nat.le_refl _⟩, ⟨Goto.bx BK102⟩, ⟨Goto.hx HB⟩⟩
   ·
    replace c7 := Bool.eq_false_iff.mpr c7
    subst c7
    rw [if_neg (show ¬ (false = true) by decide)] at H
    have H' := Goto.m0 H
    clear H; have hcz10_0 := Goto.bc0 BK102; have hcz10_1 := Goto.bc1 BK102; have hcz10_2 := Goto.bc2 BK102; have hcz10_3 := Goto.bc3 BK102; have hfz10_0 := Goto.bf BK102 0; have hfz10_1 := Goto.bf BK102 1; have hfz10_2 := Goto.bf BK102 2; have hfz10_3 := Goto.bf BK102 3
    go_wp2_with (first | ((first | (with_reducible refine gate_callee (f := 36) rfl ?_) | (with_reducible refine Goto.gate_calleeF rfl ?_)); (first | refine goesL_ (some 8) rfl rfl Tryd.func36 (by kernel_rfl) rfl #[.int .i64 a0_0, .int .i64 1, .int .i64 64] rfl (by (try simp only [List.map_toArray, List.map_cons, List.map_nil]); first | done | rfl | (simp only [List.length_drop, List.length_take]; rfl)) ?_ | refine Goto.goesF_ (some 8) rfl rfl Tryd.func36 (by kernel_rfl) rfl #[.int .i64 a0_0, .int .i64 1, .int .i64 64] rfl (by (try simp only [List.map_toArray, List.map_cons, List.map_nil]); first | done | rfl | (simp only [List.length_drop, List.length_take]; rfl)) ?_); (with_reducible refine (conf_within.calls a0_0 1 64 true _ A4.out).mono ?_); rintro e w' ⟨rfl, ⟨nd, rfl⟩⟩; refine ⟨_, rfl, ?_⟩) | (go_at_call 36; (with_reducible refine (conf_within.calls a0_1 1 8 false _ A6.out).mono ?_); rintro e w' ⟨rfl, ⟨nd, rfl⟩⟩))
    go_meet
    case rel => exact ⟨_, (false), (by first | rfl | (simp; done) | (simp [*]; done)), H', ⟨by first | omega | exact Nat.le_refl _⟩, ⟨Goto.bx BK102⟩, ⟨Goto.hx HB⟩⟩
  ·
   replace c5 := Bool.eq_false_iff.mpr c5
   subst c5
   rw [if_neg (show ¬ (false = true) by decide)] at H
   have H' := Goto.m0 H
   clear H; have hcz11_0 := Goto.bc0 BK102; have hcz11_1 := Goto.bc1 BK102; have hcz11_2 := Goto.bc2 BK102; have hcz11_3 := Goto.bc3 BK102; have hfz11_0 := Goto.bf BK102 0; have hfz11_1 := Goto.bf BK102 1; have hfz11_2 := Goto.bf BK102 2; have hfz11_3 := Goto.bf BK102 3
   go_wp2_with (first | ((first | (with_reducible refine gate_callee (f := 36) rfl ?_) | (with_reducible refine Goto.gate_calleeF rfl ?_)); (first | refine goesL_ (some 8) rfl rfl Tryd.func36 (by kernel_rfl) rfl #[.int .i64 a0_0, .int .i64 1, .int .i64 64] rfl (by (try simp only [List.map_toArray, List.map_cons, List.map_nil]); first | done | rfl | (simp only [List.length_drop, List.length_take]; rfl)) ?_ | refine Goto.goesF_ (some 8) rfl rfl Tryd.func36 (by kernel_rfl) rfl #[.int .i64 a0_0, .int .i64 1, .int .i64 64] rfl (by (try simp only [List.map_toArray, List.map_cons, List.map_nil]); first | done | rfl | (simp only [List.length_drop, List.length_take]; rfl)) ?_); (with_reducible refine (conf_within.calls a0_0 1 64 false _ A4.out).mono ?_); rintro e w' ⟨rfl, ⟨nd, rfl⟩⟩; refine ⟨_, rfl, ?_⟩))
   go_meet
   case rel => exact ⟨_, (false), (by first | rfl | (simp; done) | (simp [*]; done)), H', ⟨by first | omega | exact Nat.le_refl _⟩, ⟨Goto.bx BK102⟩, ⟨Goto.hx HB⟩⟩
 case rest =>
  clear HC2; try clear c1; try clear p2; try clear c3; try clear c5; try clear c7; try clear hcz10_0; try clear hcz10_1; try clear hcz10_2; try clear hcz10_3; try clear hcz11_0; try clear hcz11_1; try clear hcz11_2; try clear hcz11_3; try clear hcz9_0; try clear hcz9_1; try clear hcz9_2; try clear hcz9_3; try clear hfz10_0; try clear hfz10_1; try clear hfz10_2; try clear hfz10_3; try clear hfz11_0; try clear hfz11_1; try clear hfz11_2; try clear hfz11_3; try clear hfz9_0; try clear hfz9_1; try clear hfz9_2; try clear hfz9_3
  obtain ⟨kq, x3_1, rfl, HA, HJ1, BK102, HB⟩ := hcut
  cases kq with
  | zero => exact absurd HA.out (by simp [conf_form.j0])
  | succ kj1 =>
   have H := HA.out; clear HA
   simp only [conf_form.j0] at H
   have H' := Goto.m0 H
   clear H; have hcz12_0 := Goto.bc0 BK102; have hcz12_1 := Goto.bc1 BK102; have hcz12_2 := Goto.bc2 BK102; have hcz12_3 := Goto.bc3 BK102; have hfz12_0 := Goto.bf BK102 0; have hfz12_1 := Goto.bf BK102 1; have hfz12_2 := Goto.bf BK102 2; have hfz12_3 := Goto.bf BK102 3
   go_wp2
   go_loopg [3, 23] kj1 (fun kq v3 v23 w' => ∃ (x3_2 : Bool) (x23_2 : Int), v3 = .bool x3_2 ∧ v23 = .int .i64 x23_2 ∧ Aside0 (conf_form.l0 kq x3_2 l0_3 (l0_3.length : Int) x23_2 = some r) ∧ Aside0 (kq ≤ kj1) ∧ Aside0 (w'.heap[gb102]? = some (.cells #[.int .i64 a0_0, .int .i64 a0_1, (.slice A0_2 l0_2.length c0_2), (.slice A0_3 l0_3.length c0_3)] 25 (0, 0))) ∧ Aside0 (Below w.heap.size w w'))
   case atStart => exact ⟨(x3_1), (0), (by first | rfl | (simp; done) | (simp [*]; done)), (by first | rfl | (simp; done) | (simp [*]; done)), H', ⟨Nat.le_refl _⟩, ⟨Goto.bx BK102⟩, ⟨Goto.hx HB⟩⟩
   case round =>
    clear H'
    try clear c1; try clear p2; try clear c3; try clear c5; try clear c7; try clear hcz10_0; try clear hcz10_1; try clear hcz10_2; try clear hcz10_3; try clear hcz11_0; try clear hcz11_1; try clear hcz11_2; try clear hcz11_3; try clear hcz12_0; try clear hcz12_1; try clear hcz12_2; try clear hcz12_3; try clear hcz9_0; try clear hcz9_1; try clear hcz9_2; try clear hcz9_3; try clear hfz10_0; try clear hfz10_1; try clear hfz10_2; try clear hfz10_3; try clear hfz11_0; try clear hfz11_1; try clear hfz11_2; try clear hfz11_3; try clear hfz12_0; try clear hfz12_1; try clear hfz12_2; try clear hfz12_3; try clear hfz9_0; try clear hfz9_1; try clear hfz9_2; try clear hfz9_3; try clear p2
    obtain ⟨x3_2, x23_2, rfl, rfl, HA, HK2, BK102, HB⟩ := hrel
    cases gk with
    | zero => exact absurd HA.out (by simp [conf_form.l0])
    | succ k2 =>
     have H := HA.out; clear HA
     simp only [conf_form.l0] at H
     by_cases c13 : x23_2 < (l0_3.length : Int)
     ·
      rw [if_pos c13] at H
      have c13b0 : decide (x23_2 < (l0_3.length : Int)) = true := decide_eq_true c13
      clear c13
      by_cases c14 : 0 ≤ x23_2
      ·
       rw [if_pos c14] at H
       have c14b0 : decide (0 ≤ x23_2) = true := decide_eq_true c14
       clear c14
       by_cases c15 : x23_2 < (l0_3.length : Int)
       ·
        rw [if_pos c15] at H
        have c15b0 : decide (x23_2 < (l0_3.length : Int)) = true := decide_eq_true c15
        clear c15
        by_cases c16 : x3_2 = true
        ·
         subst c16
         rw [if_pos rfl] at H
         replace H := Option.bind_eq_some_iff.mp H
         obtain ⟨t108, A170, H⟩ := H
         have A17 := Goto.m0 A170
         clear A170
         have H' := Goto.m0 H
         clear H
         have p106 : 0 ≤ (x23_2 : Int) := Goto.od
         have q106 : x23_2 < (l0_3.length : Int) := Goto.od
         obtain ⟨ad106, A106_2, c106_2, A106_3, c106_3, e106, hx106_0, hx106_1, hx106_2, hx106_3, hx106_4, hx106_5, hx106_6, hx106_7, hx106_8, hx106_9, hl106_2, hi106_2, hl106_3, hi106_3⟩ := at_T40 HR0_3.out x23_2 p106 q106
         cases e106
         replace hx106_0 := Goto.kc HB.out hx106_0
         replace hx106_1 := Goto.kc HB.out hx106_1
         replace hx106_2 := Goto.kc HB.out hx106_2
         replace hx106_3 := Goto.kc HB.out hx106_3
         replace hx106_4 := Goto.kc HB.out hx106_4
         replace hx106_5 := Goto.kc HB.out hx106_5
         replace hx106_6 := Goto.kc HB.out hx106_6
         replace hx106_7 := Goto.kc HB.out hx106_7
         replace hx106_8 := Goto.kc HB.out hx106_8
         replace hx106_9 := Goto.kc HB.out hx106_9
         have HR106_2 := Goto.m0 hi106_2
         have HC106_2 := Goto.m0 hl106_2
         clear hi106_2 hl106_2
         have HR106_3 := Goto.m0 hi106_3
         have HC106_3 := Goto.m0 hl106_3
         clear hi106_3 hl106_3; replace p106 := eq_true p106; replace q106 := eq_true q106
         go_wp2_with (first | ((with_reducible refine gate_dst (N := 5) rfl ?_); (try (refine gate_guard (by rfl) ?_; dsimp only)); refine box_event ?hg (N := 5) ?hd (cs := #[.int .i64 0, .int .u64 0, .slice none 0 0, .slice none 0 0, .int .i64 0, .int .i64 0, .int .i64 0, .int .i64 0, .int .i64 0, .int .i64 0]) (t := 40) ?hr ?_; (case hd => rfl); (case hg => rfl); (case hr => first | (go_simp; done) | (go_simp; rfl)); intro gb107 hg w18 hbox hb; have BK107 := Goto.m0 (hbox); have GW107 := Goto.gs HB hg; have GE107 := Goto.gs HB hg; have NB102_107 := Goto.nl BK102 hg; have NB107_102 := Goto.nr BK102 hg; replace BK102 := Goto.bb BK102 hb; replace HB := Goto.hs HB hb; clear hb hbox hg; have hnb19 := NB107_102.out; have hnc19 := NB102_107.out; have hcz20_0 := Goto.bc0 BK107; have hcz20_1 := Goto.bc1 BK107; have hcz20_2 := Goto.bc2 BK107; have hcz20_3 := Goto.bc3 BK107; have hcz20_4 := Goto.bc4 BK107; have hcz20_5 := Goto.bc5 BK107; have hcz20_6 := Goto.bc6 BK107; have hcz20_7 := Goto.bc7 BK107; have hcz20_8 := Goto.bc8 BK107; have hcz20_9 := Goto.bc9 BK107; have hfz20_0 := Goto.bf BK107 0; have hfz20_1 := Goto.bf BK107 1; have hfz20_2 := Goto.bf BK107 2; have hfz20_3 := Goto.bf BK107 3; have hfz20_4 := Goto.bf BK107 4; have hfz20_5 := Goto.bf BK107 5; have hfz20_6 := Goto.bf BK107 6; have hfz20_7 := Goto.bf BK107 7; have hfz20_8 := Goto.bf BK107 8; have hfz20_9 := Goto.bf BK107 9) | (go_at_call 37; (with_reducible refine (label_Is.calls ((rd_T40 l0_3 x23_2).f0.f0) ((rd_T40 l0_3 x23_2).f0.f1) t108 _ A17.out).mono ?_); rintro e w21 ⟨rfl, hb⟩; replace BK102 := Goto.bb BK102 hb; replace BK107 := Goto.bp (.cells #[.int .i64 ((rd_T40 l0_3 x23_2).f0.f0), .int .u64 ((rd_T40 l0_3 x23_2).f0.f1), .slice A106_2 ((rd_T40 l0_3 x23_2).f1).length c106_2, .slice A106_3 ((rd_T40 l0_3 x23_2).f2).length c106_3, .int .i64 ((rd_T40 l0_3 x23_2).f3), .int .i64 ((rd_T40 l0_3 x23_2).f4), .int .i64 ((rd_T40 l0_3 x23_2).f5), .int .i64 ((rd_T40 l0_3 x23_2).f6), .int .i64 ((rd_T40 l0_3 x23_2).f7), .int .i64 ((rd_T40 l0_3 x23_2).f8)] 40 (0, 0)) BK107 hb; replace HB := Goto.hs HB hb; (try clear hb); (try clear hb2); (try clear hk); (try clear hi)))
         go_roundg k2
         case measure => have := HJ1.out; have := HK2.out; omega
         case rel => exact ⟨(t108), (wrap64 (x23_2 + 1)), (by first | rfl | (simp; done) | (simp [*]; done)), (by first | rfl | (simp; done) | (simp [*]; done)), H', ⟨by have := HJ1.out; have := HK2.out; omega⟩, ⟨Goto.bx BK102⟩, ⟨Goto.hx HB⟩⟩
        ·
         replace c16 := Bool.eq_false_iff.mpr c16
         subst c16
         rw [if_neg (show ¬ (false = true) by decide)] at H
         have H' := Goto.m0 H
         clear H
         have p106 : 0 ≤ (x23_2 : Int) := Goto.od
         have q106 : x23_2 < (l0_3.length : Int) := Goto.od
         obtain ⟨ad106, A106_2, c106_2, A106_3, c106_3, e106, hx106_0, hx106_1, hx106_2, hx106_3, hx106_4, hx106_5, hx106_6, hx106_7, hx106_8, hx106_9, hl106_2, hi106_2, hl106_3, hi106_3⟩ := at_T40 HR0_3.out x23_2 p106 q106
         cases e106
         replace hx106_0 := Goto.kc HB.out hx106_0
         replace hx106_1 := Goto.kc HB.out hx106_1
         replace hx106_2 := Goto.kc HB.out hx106_2
         replace hx106_3 := Goto.kc HB.out hx106_3
         replace hx106_4 := Goto.kc HB.out hx106_4
         replace hx106_5 := Goto.kc HB.out hx106_5
         replace hx106_6 := Goto.kc HB.out hx106_6
         replace hx106_7 := Goto.kc HB.out hx106_7
         replace hx106_8 := Goto.kc HB.out hx106_8
         replace hx106_9 := Goto.kc HB.out hx106_9
         have HR106_2 := Goto.m0 hi106_2
         have HC106_2 := Goto.m0 hl106_2
         clear hi106_2 hl106_2
         have HR106_3 := Goto.m0 hi106_3
         have HC106_3 := Goto.m0 hl106_3
         clear hi106_3 hl106_3; replace p106 := eq_true p106; replace q106 := eq_true q106
         go_wp2_with (first | ((with_reducible refine gate_dst (N := 5) rfl ?_); (try (refine gate_guard (by rfl) ?_; dsimp only)); refine box_event ?hg (N := 5) ?hd (cs := #[.int .i64 0, .int .u64 0, .slice none 0 0, .slice none 0 0, .int .i64 0, .int .i64 0, .int .i64 0, .int .i64 0, .int .i64 0, .int .i64 0]) (t := 40) ?hr ?_; (case hd => rfl); (case hg => rfl); (case hr => first | (go_simp; done) | (go_simp; rfl)); intro gb107 hg w22 hbox hb; have BK107 := Goto.m0 (hbox); have GW107 := Goto.gs HB hg; have GE107 := Goto.gs HB hg; have NB102_107 := Goto.nl BK102 hg; have NB107_102 := Goto.nr BK102 hg; replace BK102 := Goto.bb BK102 hb; replace HB := Goto.hs HB hb; clear hb hbox hg; have hnb23 := NB107_102.out; have hnc23 := NB102_107.out; have hcz24_0 := Goto.bc0 BK107; have hcz24_1 := Goto.bc1 BK107; have hcz24_2 := Goto.bc2 BK107; have hcz24_3 := Goto.bc3 BK107; have hcz24_4 := Goto.bc4 BK107; have hcz24_5 := Goto.bc5 BK107; have hcz24_6 := Goto.bc6 BK107; have hcz24_7 := Goto.bc7 BK107; have hcz24_8 := Goto.bc8 BK107; have hcz24_9 := Goto.bc9 BK107; have hfz24_0 := Goto.bf BK107 0; have hfz24_1 := Goto.bf BK107 1; have hfz24_2 := Goto.bf BK107 2; have hfz24_3 := Goto.bf BK107 3; have hfz24_4 := Goto.bf BK107 4; have hfz24_5 := Goto.bf BK107 5; have hfz24_6 := Goto.bf BK107 6; have hfz24_7 := Goto.bf BK107 7; have hfz24_8 := Goto.bf BK107 8; have hfz24_9 := Goto.bf BK107 9))
         go_roundg k2
         case measure => have := HJ1.out; have := HK2.out; omega
         case rel => exact ⟨(false), (wrap64 (x23_2 + 1)), (by first | rfl | (simp; done) | (simp [*]; done)), (by first | rfl | (simp; done) | (simp [*]; done)), H', ⟨by have := HJ1.out; have := HK2.out; omega⟩, ⟨Goto.bx BK102⟩, ⟨Goto.hx HB⟩⟩
       ·
        rw [if_neg c15] at H
        exact absurd H (by simp)
      ·
       rw [if_neg c14] at H
       exact absurd H (by simp)
     ·
      rw [if_neg c13] at H
      have c13b0 : decide (x23_2 < (l0_3.length : Int)) = false := decide_eq_false c13
      clear c13
      obtain rfl := Option.some.inj H
      go_wp2
      go_ret
      exact ⟨Goto.er, by repeat (first | (with_reducible first | exact HB.out | apply below_alloc | apply pw_below_drewN | apply below_drew1 | refine below_set ?_ GE102.out) | exact HB.out)⟩

/-! ### slices_Max_int_int: function 38 -/
def slices_Max_int_int.l0 : Nat → List Int → Int → Int → Option (Int)
  | 0, _, _, _ => none
  | k + 1, x0, x3, x4 => if x4 < (x0.length : Int) then (if 0 ≤ x4 then (slices_Max_int_int.l0 k x0 (mx x3 (rd x0 x4)) (wrap64 (x4 + 1))) else (none)) else (some x3)
def slices_Max_int_int.f (k : Nat) (l0 : List Int) : Option (Int) := if (l0.length : Int) < 1 then (none) else (if 0 < (l0.length : Int) then (slices_Max_int_int.l0 k l0 (rd l0 0) 1) else (none))
set_option maxHeartbeats 8000000 in
set_option maxRecDepth 100000 in
theorem slices_Max_int_int.calls (k : Nat) (A0 : Option Addr) (c0 : Nat) (l0 : List Int) (r : Int) (w : World) (hr0 : Kd.C (Kd.int .i64) w A0 l0.length l0) (hc0 : l0.length ≤ c0) (h : slices_Max_int_int.f k l0 = some r) :
    Calls Tryd.prog 38 #[.slice A0 l0.length c0] w fun e w' => e = .returned (.int .i64 r) ∧ Drawn0 w w' := by
 have HR0 := Goto.m0 hr0
 have HC0 := Goto.m0 hc0
 clear hr0 hc0
 have H : (if (l0.length : Int) < 1 then (none) else (if 0 < (l0.length : Int) then (slices_Max_int_int.l0 k l0 (rd l0 0) 1) else (none))) = some r := h
 clear h
 by_cases c2 : (l0.length : Int) < 1
 ·
  rw [if_pos c2] at H
  exact absurd H (by simp)
 ·
  rw [if_neg c2] at H
  have c2b0 : decide ((l0.length : Int) < 1) = false := decide_eq_false c2
  have c2b1 : decide (l0.length < 1) = false := decide_eq_false (by omega)
  clear c2
  by_cases c3 : 0 < (l0.length : Int)
  ·
   rw [if_pos c3] at H
   have c3b0 : decide (0 < (l0.length : Int)) = true := decide_eq_true c3
   have c3b1 : decide (0 < l0.length) = true := decide_eq_true (by omega)
   clear c3
   have H' := Goto.m0 H
   clear H
   have p109 : 0 ≤ (0 : Int) := (by omega)
   have q109 : 0 < (l0.length : Int) := Goto.od
   obtain ⟨ad109, e109, hx109_0⟩ := Kd.at_int HR0.out 0 p109 q109
   cases e109
   have qi109 : (0 < l0.length) = True := eq_true (by omega)
   (try rw [show ((0 : Int)).toNat = 0 from rfl] at hx109_0)
   (try rw [Addr.add_zero'] at hx109_0)
   replace p109 := eq_true p109; replace q109 := eq_true q109
   go_enter Tryd.func38, Tryd.ntmps38
   go_wp2
   go_loopg [3, 4] k (fun kq v3 v4 w' => ∃ (x3_1 : Int) (x4_1 : Int), v3 = .int .i64 x3_1 ∧ v4 = .int .i64 x4_1 ∧ Aside0 (slices_Max_int_int.l0 kq l0 x3_1 x4_1 = some r) ∧ Aside0 (kq ≤ k) ∧ Drawn0 w w')
   case atStart => exact ⟨(rd l0 0), (1), (by first | rfl | (simp; done) | (simp [*]; done)), (by first | rfl | (simp; done) | (simp [*]; done)), H', ⟨Nat.le_refl _⟩, by repeat (first | exact Drawn0.refl _ | apply Drawn0.step)⟩
   case round =>
    clear H'
    try clear p1; try clear q1; try clear hx1; try clear qi1; try clear c2; try clear c2b0; try clear c2b1; try clear p2; try clear c3; try clear c3b0; try clear c3b1; try clear hx109_0; try clear p109; try clear q109
    obtain ⟨x3_1, x4_1, rfl, rfl, HA, HK1, ⟨m1, rfl⟩⟩ := hrel
    cases gk with
    | zero => exact absurd HA.out (by simp [slices_Max_int_int.l0])
    | succ k1 =>
     have H := HA.out; clear HA
     simp only [slices_Max_int_int.l0] at H
     by_cases c4 : x4_1 < (l0.length : Int)
     ·
      rw [if_pos c4] at H
      have c4b0 : decide (x4_1 < (l0.length : Int)) = true := decide_eq_true c4
      clear c4
      by_cases c5 : 0 ≤ x4_1
      ·
       rw [if_pos c5] at H
       have c5b0 : decide (0 ≤ x4_1) = true := decide_eq_true c5
       clear c5
       obtain ⟨ji6, hji6⟩ : ∃ j_ : Int, (mx x3_1 (rd l0 x4_1)) = j_ := ⟨_, rfl⟩
       replace H : (slices_Max_int_int.l0 k1 l0 ji6 (wrap64 (x4_1 + 1))) = some r := by first | (rw [hji6] at H; exact H) | (simp only [hji6] at H ⊢; exact H)
       have hji6_ : (if x3_1 < (rd l0 x4_1) then (rd l0 x4_1) else x3_1) = ji6 := hji6
       have H' := Goto.m0 H
       clear H
       have p110 : 0 ≤ (x4_1 : Int) := Goto.od
       have q110 : x4_1 < (l0.length : Int) := Goto.od
       obtain ⟨ad110, e110, hx110_0⟩ := Kd.at_int HR0.out x4_1 p110 q110
       obtain rfl : ad109 = ad110 := (by injection e110)
       replace p110 := eq_true p110; replace q110 := eq_true q110
       go_wp2
       go_roundg k1
       case measure => have := HK1.out; omega
       case rel => exact ⟨(ji6), (wrap64 (x4_1 + 1)), (by first | rfl | (simp; done) | (simp only [← hji6] <;> (first | rfl | simp)) | (simp [*]; done)), (by first | rfl | (simp; done) | (simp [*]; done)), H', ⟨by have := HK1.out; omega⟩, by repeat (first | exact Drawn0.refl _ | apply Drawn0.step)⟩
      ·
       rw [if_neg c5] at H
       exact absurd H (by simp)
     ·
      rw [if_neg c4] at H
      have c4b0 : decide (x4_1 < (l0.length : Int)) = false := decide_eq_false c4
      clear c4
      obtain rfl := Option.some.inj H
      go_wp2
      go_ret
      exact ⟨by first | rfl | (simp; done) | (simp [*]; done), by repeat (first | exact Drawn0.refl _ | apply Drawn0.step)⟩
  ·
   rw [if_neg c3] at H
   exact absurd H (by simp)

/-! ### slices_Min_int_int: function 39 -/
def slices_Min_int_int.l0 : Nat → List Int → Int → Int → Option (Int)
  | 0, _, _, _ => none
  | k + 1, x0, x3, x4 => if x4 < (x0.length : Int) then (if 0 ≤ x4 then (slices_Min_int_int.l0 k x0 (mn x3 (rd x0 x4)) (wrap64 (x4 + 1))) else (none)) else (some x3)
def slices_Min_int_int.f (k : Nat) (l0 : List Int) : Option (Int) := if (l0.length : Int) < 1 then (none) else (if 0 < (l0.length : Int) then (slices_Min_int_int.l0 k l0 (rd l0 0) 1) else (none))
set_option maxHeartbeats 8000000 in
set_option maxRecDepth 100000 in
theorem slices_Min_int_int.calls (k : Nat) (A0 : Option Addr) (c0 : Nat) (l0 : List Int) (r : Int) (w : World) (hr0 : Kd.C (Kd.int .i64) w A0 l0.length l0) (hc0 : l0.length ≤ c0) (h : slices_Min_int_int.f k l0 = some r) :
    Calls Tryd.prog 39 #[.slice A0 l0.length c0] w fun e w' => e = .returned (.int .i64 r) ∧ Drawn0 w w' := by
 have HR0 := Goto.m0 hr0
 have HC0 := Goto.m0 hc0
 clear hr0 hc0
 have H : (if (l0.length : Int) < 1 then (none) else (if 0 < (l0.length : Int) then (slices_Min_int_int.l0 k l0 (rd l0 0) 1) else (none))) = some r := h
 clear h
 by_cases c2 : (l0.length : Int) < 1
 ·
  rw [if_pos c2] at H
  exact absurd H (by simp)
 ·
  rw [if_neg c2] at H
  have c2b0 : decide ((l0.length : Int) < 1) = false := decide_eq_false c2
  have c2b1 : decide (l0.length < 1) = false := decide_eq_false (by omega)
  clear c2
  by_cases c3 : 0 < (l0.length : Int)
  ·
   rw [if_pos c3] at H
   have c3b0 : decide (0 < (l0.length : Int)) = true := decide_eq_true c3
   have c3b1 : decide (0 < l0.length) = true := decide_eq_true (by omega)
   clear c3
   have H' := Goto.m0 H
   clear H
   have p111 : 0 ≤ (0 : Int) := (by omega)
   have q111 : 0 < (l0.length : Int) := Goto.od
   obtain ⟨ad111, e111, hx111_0⟩ := Kd.at_int HR0.out 0 p111 q111
   cases e111
   have qi111 : (0 < l0.length) = True := eq_true (by omega)
   (try rw [show ((0 : Int)).toNat = 0 from rfl] at hx111_0)
   (try rw [Addr.add_zero'] at hx111_0)
   replace p111 := eq_true p111; replace q111 := eq_true q111
   go_enter Tryd.func39, Tryd.ntmps39
   go_wp2
   go_loopg [3, 4] k (fun kq v3 v4 w' => ∃ (x3_1 : Int) (x4_1 : Int), v3 = .int .i64 x3_1 ∧ v4 = .int .i64 x4_1 ∧ Aside0 (slices_Min_int_int.l0 kq l0 x3_1 x4_1 = some r) ∧ Aside0 (kq ≤ k) ∧ Drawn0 w w')
   case atStart => exact ⟨(rd l0 0), (1), (by first | rfl | (simp; done) | (simp [*]; done)), (by first | rfl | (simp; done) | (simp [*]; done)), H', ⟨Nat.le_refl _⟩, by repeat (first | exact Drawn0.refl _ | apply Drawn0.step)⟩
   case round =>
    clear H'
    try clear p1; try clear q1; try clear hx1; try clear qi1; try clear c2; try clear c2b0; try clear c2b1; try clear p2; try clear c3; try clear c3b0; try clear c3b1; try clear hx111_0; try clear p111; try clear q111
    obtain ⟨x3_1, x4_1, rfl, rfl, HA, HK1, ⟨m1, rfl⟩⟩ := hrel
    cases gk with
    | zero => exact absurd HA.out (by simp [slices_Min_int_int.l0])
    | succ k1 =>
     have H := HA.out; clear HA
     simp only [slices_Min_int_int.l0] at H
     by_cases c4 : x4_1 < (l0.length : Int)
     ·
      rw [if_pos c4] at H
      have c4b0 : decide (x4_1 < (l0.length : Int)) = true := decide_eq_true c4
      clear c4
      by_cases c5 : 0 ≤ x4_1
      ·
       rw [if_pos c5] at H
       have c5b0 : decide (0 ≤ x4_1) = true := decide_eq_true c5
       clear c5
       obtain ⟨ji6, hji6⟩ : ∃ j_ : Int, (mn x3_1 (rd l0 x4_1)) = j_ := ⟨_, rfl⟩
       replace H : (slices_Min_int_int.l0 k1 l0 ji6 (wrap64 (x4_1 + 1))) = some r := by first | (rw [hji6] at H; exact H) | (simp only [hji6] at H ⊢; exact H)
       have hji6_ : (if (rd l0 x4_1) < x3_1 then (rd l0 x4_1) else x3_1) = ji6 := hji6
       have H' := Goto.m0 H
       clear H
       have p112 : 0 ≤ (x4_1 : Int) := Goto.od
       have q112 : x4_1 < (l0.length : Int) := Goto.od
       obtain ⟨ad112, e112, hx112_0⟩ := Kd.at_int HR0.out x4_1 p112 q112
       obtain rfl : ad111 = ad112 := (by injection e112)
       replace p112 := eq_true p112; replace q112 := eq_true q112
       go_wp2
       go_roundg k1
       case measure => have := HK1.out; omega
       case rel => exact ⟨(ji6), (wrap64 (x4_1 + 1)), (by first | rfl | (simp; done) | (simp only [← hji6] <;> (first | rfl | simp)) | (simp [*]; done)), (by first | rfl | (simp; done) | (simp [*]; done)), H', ⟨by have := HK1.out; omega⟩, by repeat (first | exact Drawn0.refl _ | apply Drawn0.step)⟩
      ·
       rw [if_neg c5] at H
       exact absurd H (by simp)
     ·
      rw [if_neg c4] at H
      have c4b0 : decide (x4_1 < (l0.length : Int)) = false := decide_eq_false c4
      clear c4
      obtain rfl := Option.some.inj H
      go_wp2
      go_ret
      exact ⟨by first | rfl | (simp; done) | (simp [*]; done), by repeat (first | exact Drawn0.refl _ | apply Drawn0.step)⟩
  ·
   rw [if_neg c3] at H
   exact absurd H (by simp)

/-! ### conf_shares: function 17 -/
def conf_shares.l0 : Nat → List (List Int) → Int → Int → Int → Int → List (List Int) → List (S40) → Option (Bool)
  | 0, _, _, _, _, _, _, _ => none
  | k + 1, x11, x12, x13, x114000, x114001, x114002, x114003 => if x13 < x12 then (if 0 ≤ x13 then (if x13 < (x11.length : Int) then (if ((rd_L3 x11 x13).length : Int) = (x114003.length : Int) then ((slices_Max_int_int.f k (rd_L3 x11 x13)).bind fun t116 => (if t116 < 1 then (some false) else (if t116 > 1000 then (some false) else ((slices_Min_int_int.f k (rd_L3 x11 x13)).bind fun t117 => (if t117 < 0 then (some false) else (conf_shares.l0 k x11 x12 (wrap64 (x13 + 1)) x114000 x114001 x114002 x114003)))))) else (some false)) else (none)) else (none)) else (some true)
def conf_shares.f (k : Nat) (a0_0 : Int) (a0_1 : Int) (l0_2 : List (List Int)) (l0_3 : List (S40)) : Option (Bool) := (conf_within.f (l0_2.length : Int) 1 3).bind fun t114 => (if t114 = true then (conf_shares.l0 k l0_2 (l0_2.length : Int) 0 a0_0 a0_1 l0_2 l0_3) else (some false))
set_option maxHeartbeats 8000000 in
set_option maxRecDepth 100000 in
theorem conf_shares.calls (k : Nat) (a0_0 : Int) (a0_1 : Int) (A0_2 : Option Addr) (c0_2 : Nat) (l0_2 : List (List Int)) (A0_3 : Option Addr) (c0_3 : Nat) (l0_3 : List (S40)) (r : Bool) (w : World) (hr0_2 : Kd.C (Kd.slice 3 (Kd.int .i64)) w A0_2 l0_2.length l0_2) (hc0_2 : l0_2.length ≤ c0_2) (hr0_3 : Kd.C k40 w A0_3 l0_3.length l0_3) (hc0_3 : l0_3.length ≤ c0_3) (h : conf_shares.f k a0_0 a0_1 l0_2 l0_3 = some r) :
    Calls Tryd.prog 17 #[.agg #[.int .i64 a0_0, .int .i64 a0_1, .slice A0_2 l0_2.length c0_2, .slice A0_3 l0_3.length c0_3]] w fun e w' => e = .returned (.bool r) ∧ Below w.heap.size w w' := by
 have hu25 := Tryd.underlying25
 have HR0_2 := Goto.m0 hr0_2
 have HC0_2 := Goto.m0 hc0_2
 clear hr0_2 hc0_2
 have HR0_3 := Goto.m0 hr0_3
 have HC0_3 := Goto.m0 hc0_3
 clear hr0_3 hc0_3
 have HB := Goto.m0 (Below.refl w.heap.size w)
 have H : ((conf_within.f (l0_2.length : Int) 1 3).bind fun t114 => (if t114 = true then (conf_shares.l0 k l0_2 (l0_2.length : Int) 0 a0_0 a0_1 l0_2 l0_3) else (some false))) = some r := h
 clear h
 replace H := Option.bind_eq_some_iff.mp H
 obtain ⟨t114, A20, H⟩ := H
 have A2 := Goto.m0 A20
 clear A20
 by_cases c3 : t114 = true
 ·
  subst c3
  rw [if_pos rfl] at H
  have H' := Goto.m0 H
  clear H
  go_enter Tryd.func17, Tryd.ntmps17
  go_wp2_with (first | ((with_reducible refine gate_dst (N := 1) rfl ?_); refine box_event ?hg (N := 1) ?hd (cs := #[.int .i64 a0_0, .int .i64 a0_1, .slice A0_2 l0_2.length c0_2, .slice A0_3 l0_3.length c0_3]) (t := 25) ?hr ?_; (case hd => rfl); (case hg => rfl); (case hr => first | (go_simp; done) | (go_simp; rfl)); intro gb113 hg w4 hbox hb; have BK113 := Goto.m0 (hbox); have GW113 := Goto.gs HB hg; have GE113 := Goto.gs HB hg; replace HB := Goto.hs HB hb; clear hb hbox hg; have hcz5_0 := Goto.bc0 BK113; have hcz5_1 := Goto.bc1 BK113; have hcz5_2 := Goto.bc2 BK113; have hcz5_3 := Goto.bc3 BK113; have hfz5_0 := Goto.bf BK113 0; have hfz5_1 := Goto.bf BK113 1; have hfz5_2 := Goto.bf BK113 2; have hfz5_3 := Goto.bf BK113 3) | ((first | (with_reducible refine gate_callee (f := 36) rfl ?_) | (with_reducible refine Goto.gate_calleeF rfl ?_)); (first | refine goesL_ (some 8) rfl rfl Tryd.func36 (by kernel_rfl) rfl #[.int .i64 (l0_2.length : Int), .int .i64 1, .int .i64 3] rfl (by (try simp only [List.map_toArray, List.map_cons, List.map_nil]); first | done | rfl | (simp only [List.length_drop, List.length_take]; rfl)) ?_ | refine Goto.goesF_ (some 8) rfl rfl Tryd.func36 (by kernel_rfl) rfl #[.int .i64 (l0_2.length : Int), .int .i64 1, .int .i64 3] rfl (by (try simp only [List.map_toArray, List.map_cons, List.map_nil]); first | done | rfl | (simp only [List.length_drop, List.length_take]; rfl)) ?_); (with_reducible refine (conf_within.calls (l0_2.length : Int) 1 3 true _ A2.out).mono ?_); rintro e w' ⟨rfl, ⟨nd, rfl⟩⟩; refine ⟨_, rfl, ?_⟩))
  go_loopg [13] k (fun kq v13 w' => ∃ (x13_1 : Int), v13 = .int .i64 x13_1 ∧ Aside0 (conf_shares.l0 kq l0_2 (l0_2.length : Int) x13_1 a0_0 a0_1 l0_2 l0_3 = some r) ∧ Aside0 (kq ≤ k) ∧ Aside0 (w'.heap[gb113]? = some (.cells #[.int .i64 a0_0, .int .i64 a0_1, (.slice A0_2 l0_2.length c0_2), (.slice A0_3 l0_3.length c0_3)] 25 (0, 0))) ∧ Aside0 (Below w.heap.size w w'))
  case atStart => exact ⟨(0), (by first | rfl | (simp; done) | (simp [*]; done)), H', ⟨Nat.le_refl _⟩, ⟨Goto.bx BK113⟩, ⟨Goto.hx HB⟩⟩
  case round =>
   clear H'
   try clear c1; try clear p2; try clear c3; try clear hcz5_0; try clear hcz5_1; try clear hcz5_2; try clear hcz5_3; try clear hfz5_0; try clear hfz5_1; try clear hfz5_2; try clear hfz5_3
   obtain ⟨x13_1, rfl, HA, HK1, BK113, HB⟩ := hrel
   cases gk with
   | zero => exact absurd HA.out (by simp [conf_shares.l0])
   | succ k1 =>
    have H := HA.out; clear HA
    simp only [conf_shares.l0] at H
    by_cases c6 : x13_1 < (l0_2.length : Int)
    ·
     rw [if_pos c6] at H
     have c6b0 : decide (x13_1 < (l0_2.length : Int)) = true := decide_eq_true c6
     clear c6
     by_cases c7 : 0 ≤ x13_1
     ·
      rw [if_pos c7] at H
      have c7b0 : decide (0 ≤ x13_1) = true := decide_eq_true c7
      clear c7
      by_cases c8 : x13_1 < (l0_2.length : Int)
      ·
       rw [if_pos c8] at H
       have c8b0 : decide (x13_1 < (l0_2.length : Int)) = true := decide_eq_true c8
       clear c8
       by_cases c9 : ((rd_L3 l0_2 x13_1).length : Int) = (l0_3.length : Int)
       ·
        rw [if_pos c9] at H
        have c9b0 : (((rd_L3 l0_2 x13_1).length : Int) == (l0_3.length : Int)) = true := beq_iff_eq.mpr c9
        have c9b1 : (((rd_L3 l0_2 x13_1).length : Int) != (l0_3.length : Int)) = false := bne_eq_false_iff_eq.mpr c9
        have c9b2 : ((rd_L3 l0_2 x13_1).length == l0_3.length) = true := by first | simpa using c9 | (simp at c9 ⊢; omega)
        clear c9
        replace H := Option.bind_eq_some_iff.mp H
        obtain ⟨t116, A100, H⟩ := H
        have A10 := Goto.m0 A100
        clear A100
        by_cases c11 : t116 < 1
        ·
         rw [if_pos c11] at H
         have c11b0 : decide (t116 < 1) = true := decide_eq_true c11
         clear c11
         obtain rfl := Option.some.inj H
         have p115 : 0 ≤ (x13_1 : Int) := Goto.od
         have q115 : x13_1 < (l0_2.length : Int) := Goto.od
         obtain ⟨ad115, A115_0, c115_0, e115, hx115_0, hl115_0, hi115_0⟩ := at_L3 HR0_2.out x13_1 p115 q115
         cases e115
         replace hx115_0 := Goto.kc HB.out hx115_0
         have HR115_0 := Goto.m0 hi115_0
         have HC115_0 := Goto.m0 hl115_0
         clear hi115_0 hl115_0; replace p115 := eq_true p115; replace q115 := eq_true q115; have hcz12_0 := Goto.bc0 BK113; have hcz12_1 := Goto.bc1 BK113
         have hcz12_2 := Goto.bc2 BK113
         have hcz12_3 := Goto.bc3 BK113; have hfz12_0 := Goto.bf BK113 0; have hfz12_1 := Goto.bf BK113 1; have hfz12_2 := Goto.bf BK113 2; have hfz12_3 := Goto.bf BK113 3
         go_wp2_with (first | (go_at_call 38; (with_reducible refine (slices_Max_int_int.calls k1 _ _ (rd_L3 l0_2 x13_1) t116 _ ?side1 ?side2 A10.out).mono ?_); (case side1 => repeat (first | exact (Kd.C_below HR115_0.out HB.out) | (with_reducible refine Kd.C_alloc ?_ _) | (with_reducible refine Kd.C_drewN ?_ _) | (with_reducible refine Kd.C_drew ?_))); (case side2 => exact HC115_0.out); rintro e w' ⟨rfl, ⟨nd, rfl⟩⟩))
         go_ret
         exact ⟨Goto.er, by repeat (first | (with_reducible first | exact HB.out | apply below_alloc | apply pw_below_drewN | apply below_drew1 | refine below_set ?_ GE113.out) | exact HB.out)⟩
        ·
         rw [if_neg c11] at H
         have c11b0 : decide (t116 < 1) = false := decide_eq_false c11
         clear c11
         by_cases c13 : t116 > 1000
         ·
          rw [if_pos c13] at H
          have c13b0 : decide (1000 < t116) = true := decide_eq_true c13
          clear c13
          obtain rfl := Option.some.inj H
          have p115 : 0 ≤ (x13_1 : Int) := Goto.od
          have q115 : x13_1 < (l0_2.length : Int) := Goto.od
          obtain ⟨ad115, A115_0, c115_0, e115, hx115_0, hl115_0, hi115_0⟩ := at_L3 HR0_2.out x13_1 p115 q115
          cases e115
          replace hx115_0 := Goto.kc HB.out hx115_0
          have HR115_0 := Goto.m0 hi115_0
          have HC115_0 := Goto.m0 hl115_0
          clear hi115_0 hl115_0; replace p115 := eq_true p115; replace q115 := eq_true q115; have hcz14_0 := Goto.bc0 BK113; have hcz14_1 := Goto.bc1 BK113
          have hcz14_2 := Goto.bc2 BK113
          have hcz14_3 := Goto.bc3 BK113; have hfz14_0 := Goto.bf BK113 0; have hfz14_1 := Goto.bf BK113 1; have hfz14_2 := Goto.bf BK113 2; have hfz14_3 := Goto.bf BK113 3
          go_wp2_with (first | (go_at_call 38; (with_reducible refine (slices_Max_int_int.calls k1 _ _ (rd_L3 l0_2 x13_1) t116 _ ?side1 ?side2 A10.out).mono ?_); (case side1 => repeat (first | exact (Kd.C_below HR115_0.out HB.out) | (with_reducible refine Kd.C_alloc ?_ _) | (with_reducible refine Kd.C_drewN ?_ _) | (with_reducible refine Kd.C_drew ?_))); (case side2 => exact HC115_0.out); rintro e w' ⟨rfl, ⟨nd, rfl⟩⟩))
          go_ret
          exact ⟨Goto.er, by repeat (first | (with_reducible first | exact HB.out | apply below_alloc | apply pw_below_drewN | apply below_drew1 | refine below_set ?_ GE113.out) | exact HB.out)⟩
         ·
          rw [if_neg c13] at H
          have c13b0 : decide (1000 < t116) = false := decide_eq_false c13
          clear c13
          replace H := Option.bind_eq_some_iff.mp H
          obtain ⟨t117, A150, H⟩ := H
          have A15 := Goto.m0 A150
          clear A150
          by_cases c16 : t117 < 0
          ·
           rw [if_pos c16] at H
           have c16b0 : decide (t117 < 0) = true := decide_eq_true c16
           clear c16
           obtain rfl := Option.some.inj H
           have p115 : 0 ≤ (x13_1 : Int) := Goto.od
           have q115 : x13_1 < (l0_2.length : Int) := Goto.od
           obtain ⟨ad115, A115_0, c115_0, e115, hx115_0, hl115_0, hi115_0⟩ := at_L3 HR0_2.out x13_1 p115 q115
           cases e115
           replace hx115_0 := Goto.kc HB.out hx115_0
           have HR115_0 := Goto.m0 hi115_0
           have HC115_0 := Goto.m0 hl115_0
           clear hi115_0 hl115_0; replace p115 := eq_true p115; replace q115 := eq_true q115; have hcz17_0 := Goto.bc0 BK113; have hcz17_1 := Goto.bc1 BK113
           have hcz17_2 := Goto.bc2 BK113
           have hcz17_3 := Goto.bc3 BK113; have hfz17_0 := Goto.bf BK113 0; have hfz17_1 := Goto.bf BK113 1; have hfz17_2 := Goto.bf BK113 2; have hfz17_3 := Goto.bf BK113 3
           go_wp2_with (first | (go_at_call 38; (with_reducible refine (slices_Max_int_int.calls k1 _ _ (rd_L3 l0_2 x13_1) t116 _ ?side1 ?side2 A10.out).mono ?_); (case side1 => repeat (first | exact (Kd.C_below HR115_0.out HB.out) | (with_reducible refine Kd.C_alloc ?_ _) | (with_reducible refine Kd.C_drewN ?_ _) | (with_reducible refine Kd.C_drew ?_))); (case side2 => exact HC115_0.out); rintro e w' ⟨rfl, ⟨nd, rfl⟩⟩) | (go_at_call 39; (with_reducible refine (slices_Min_int_int.calls k1 _ _ (rd_L3 l0_2 x13_1) t117 _ ?side1 ?side2 A15.out).mono ?_); (case side1 => repeat (first | exact (Kd.C_below HR115_0.out (Goto.hx HB)) | (with_reducible refine Kd.C_alloc ?_ _) | (with_reducible refine Kd.C_drewN ?_ _) | (with_reducible refine Kd.C_drew ?_))); (case side2 => exact HC115_0.out); rintro e w' ⟨rfl, ⟨nd, rfl⟩⟩))
           go_ret
           exact ⟨Goto.er, by repeat (first | (with_reducible first | exact HB.out | apply below_alloc | apply pw_below_drewN | apply below_drew1 | refine below_set ?_ GE113.out) | exact HB.out)⟩
          ·
           rw [if_neg c16] at H
           have c16b0 : decide (t117 < 0) = false := decide_eq_false c16
           clear c16
           have H' := Goto.m0 H
           clear H
           have p115 : 0 ≤ (x13_1 : Int) := Goto.od
           have q115 : x13_1 < (l0_2.length : Int) := Goto.od
           obtain ⟨ad115, A115_0, c115_0, e115, hx115_0, hl115_0, hi115_0⟩ := at_L3 HR0_2.out x13_1 p115 q115
           cases e115
           replace hx115_0 := Goto.kc HB.out hx115_0
           have HR115_0 := Goto.m0 hi115_0
           have HC115_0 := Goto.m0 hl115_0
           clear hi115_0 hl115_0; replace p115 := eq_true p115; replace q115 := eq_true q115; have hcz18_0 := Goto.bc0 BK113; have hcz18_1 := Goto.bc1 BK113
           have hcz18_2 := Goto.bc2 BK113
           have hcz18_3 := Goto.bc3 BK113; have hfz18_0 := Goto.bf BK113 0; have hfz18_1 := Goto.bf BK113 1; have hfz18_2 := Goto.bf BK113 2; have hfz18_3 := Goto.bf BK113 3
           go_wp2_with (first | (go_at_call 38; (with_reducible refine (slices_Max_int_int.calls k1 _ _ (rd_L3 l0_2 x13_1) t116 _ ?side1 ?side2 A10.out).mono ?_); (case side1 => repeat (first | exact (Kd.C_below HR115_0.out HB.out) | (with_reducible refine Kd.C_alloc ?_ _) | (with_reducible refine Kd.C_drewN ?_ _) | (with_reducible refine Kd.C_drew ?_))); (case side2 => exact HC115_0.out); rintro e w' ⟨rfl, ⟨nd, rfl⟩⟩) | (go_at_call 39; (with_reducible refine (slices_Min_int_int.calls k1 _ _ (rd_L3 l0_2 x13_1) t117 _ ?side1 ?side2 A15.out).mono ?_); (case side1 => repeat (first | exact (Kd.C_below HR115_0.out (Goto.hx HB)) | (with_reducible refine Kd.C_alloc ?_ _) | (with_reducible refine Kd.C_drewN ?_ _) | (with_reducible refine Kd.C_drew ?_))); (case side2 => exact HC115_0.out); rintro e w' ⟨rfl, ⟨nd, rfl⟩⟩))
           go_roundg k1
           case measure => have := HK1.out; omega
           case rel => exact ⟨(wrap64 (x13_1 + 1)), (by first | rfl | (simp; done) | (simp [*]; done)), H', ⟨by have := HK1.out; omega⟩, ⟨Goto.bx BK113⟩, ⟨Goto.hx HB⟩⟩
       ·
        rw [if_neg c9] at H
        have c9b0 : (((rd_L3 l0_2 x13_1).length : Int) == (l0_3.length : Int)) = false := beq_eq_false_iff_ne.mpr c9
        have c9b1 : (((rd_L3 l0_2 x13_1).length : Int) != (l0_3.length : Int)) = true := bne_iff_ne.mpr c9
        have c9b2 : ((rd_L3 l0_2 x13_1).length == l0_3.length) = false := by first | simpa using c9 | (simp at c9 ⊢; omega)
        obtain rfl := Option.some.inj H
        have p115 : 0 ≤ (x13_1 : Int) := Goto.od
        have q115 : x13_1 < (l0_2.length : Int) := Goto.od
        obtain ⟨ad115, A115_0, c115_0, e115, hx115_0, hl115_0, hi115_0⟩ := at_L3 HR0_2.out x13_1 p115 q115
        cases e115
        replace hx115_0 := Goto.kc HB.out hx115_0
        have HR115_0 := Goto.m0 hi115_0
        have HC115_0 := Goto.m0 hl115_0
        clear hi115_0 hl115_0; replace p115 := eq_true p115; replace q115 := eq_true q115; have hcz19_0 := Goto.bc0 BK113; have hcz19_1 := Goto.bc1 BK113
        have hcz19_2 := Goto.bc2 BK113
        have hcz19_3 := Goto.bc3 BK113; have hfz19_0 := Goto.bf BK113 0; have hfz19_1 := Goto.bf BK113 1; have hfz19_2 := Goto.bf BK113 2; have hfz19_3 := Goto.bf BK113 3
        go_wp2
        go_ret
        exact ⟨Goto.er, by repeat (first | (with_reducible first | exact HB.out | apply below_alloc | apply pw_below_drewN | apply below_drew1 | refine below_set ?_ GE113.out) | exact HB.out)⟩
      ·
       rw [if_neg c8] at H
       exact absurd H (by simp)
     ·
      rw [if_neg c7] at H
      exact absurd H (by simp)
    ·
     rw [if_neg c6] at H
     have c6b0 : decide (x13_1 < (l0_2.length : Int)) = false := decide_eq_false c6
     clear c6
     obtain rfl := Option.some.inj H
     go_wp2
     go_ret
     exact ⟨Goto.er, by repeat (first | (with_reducible first | exact HB.out | apply below_alloc | apply pw_below_drewN | apply below_drew1 | refine below_set ?_ GE113.out) | exact HB.out)⟩
 ·
  replace c3 := Bool.eq_false_iff.mpr c3
  subst c3
  rw [if_neg (show ¬ (false = true) by decide)] at H
  obtain rfl := Option.some.inj H
  go_enter Tryd.func17, Tryd.ntmps17
  go_wp2_with (first | ((with_reducible refine gate_dst (N := 1) rfl ?_); refine box_event ?hg (N := 1) ?hd (cs := #[.int .i64 a0_0, .int .i64 a0_1, .slice A0_2 l0_2.length c0_2, .slice A0_3 l0_3.length c0_3]) (t := 25) ?hr ?_; (case hd => rfl); (case hg => rfl); (case hr => first | (go_simp; done) | (go_simp; rfl)); intro gb113 hg w20 hbox hb; have BK113 := Goto.m0 (hbox); have GW113 := Goto.gs HB hg; have GE113 := Goto.gs HB hg; replace HB := Goto.hs HB hb; clear hb hbox hg; have hcz21_0 := Goto.bc0 BK113; have hcz21_1 := Goto.bc1 BK113; have hcz21_2 := Goto.bc2 BK113; have hcz21_3 := Goto.bc3 BK113; have hfz21_0 := Goto.bf BK113 0; have hfz21_1 := Goto.bf BK113 1; have hfz21_2 := Goto.bf BK113 2; have hfz21_3 := Goto.bf BK113 3) | ((first | (with_reducible refine gate_callee (f := 36) rfl ?_) | (with_reducible refine Goto.gate_calleeF rfl ?_)); (first | refine goesL_ (some 8) rfl rfl Tryd.func36 (by kernel_rfl) rfl #[.int .i64 (l0_2.length : Int), .int .i64 1, .int .i64 3] rfl (by (try simp only [List.map_toArray, List.map_cons, List.map_nil]); first | done | rfl | (simp only [List.length_drop, List.length_take]; rfl)) ?_ | refine Goto.goesF_ (some 8) rfl rfl Tryd.func36 (by kernel_rfl) rfl #[.int .i64 (l0_2.length : Int), .int .i64 1, .int .i64 3] rfl (by (try simp only [List.map_toArray, List.map_cons, List.map_nil]); first | done | rfl | (simp only [List.length_drop, List.length_take]; rfl)) ?_); (with_reducible refine (conf_within.calls (l0_2.length : Int) 1 3 false _ A2.out).mono ?_); rintro e w' ⟨rfl, ⟨nd, rfl⟩⟩; refine ⟨_, rfl, ?_⟩))
  go_ret
  exact ⟨Goto.er, by repeat (first | (with_reducible first | exact HB.out | apply below_alloc | apply pw_below_drewN | apply below_drew1 | refine below_set ?_ GE113.out) | exact HB.out)⟩

/-! ### conf_quotas: function 18 -/
def conf_quotas.f (a0_0 : Int) (a0_1 : Int) (l0_2 : List (List Int)) (l0_3 : List Int) (a0_4 : Int) (a0_5 : Int) (a0_6 : Int) (a0_7 : Int) (a0_8 : Int) (a0_9 : Int) : Option (Bool) := (conf_within.f a0_5 1 8).bind fun t119 => (if t119 = true then ((conf_within.f a0_6 0 4).bind fun t120 => (if t120 = true then ((conf_within.f a0_7 1 16).bind fun t121 => (if t121 = true then ((conf_within.f a0_8 0 8).bind fun t122 => (if t122 = true then ((conf_within.f a0_9 1 8).bind fun t123 => (some t123)) else (some false))) else (some false))) else (some false))) else (some false))
set_option maxHeartbeats 8000000 in
set_option maxRecDepth 100000 in
theorem conf_quotas.calls (a0_0 : Int) (a0_1 : Int) (A0_2 : Option Addr) (c0_2 : Nat) (l0_2 : List (List Int)) (A0_3 : Option Addr) (c0_3 : Nat) (l0_3 : List Int) (a0_4 : Int) (a0_5 : Int) (a0_6 : Int) (a0_7 : Int) (a0_8 : Int) (a0_9 : Int) (r : Bool) (w : World) (hr0_2 : Kd.C (Kd.slice 3 (Kd.int .i64)) w A0_2 l0_2.length l0_2) (hc0_2 : l0_2.length ≤ c0_2) (hr0_3 : Kd.C (Kd.int .i64) w A0_3 l0_3.length l0_3) (hc0_3 : l0_3.length ≤ c0_3) (h : conf_quotas.f a0_0 a0_1 l0_2 l0_3 a0_4 a0_5 a0_6 a0_7 a0_8 a0_9 = some r) :
    Calls Tryd.prog 18 #[.agg #[.int .i64 a0_0, .int .u64 a0_1, .slice A0_2 l0_2.length c0_2, .slice A0_3 l0_3.length c0_3, .int .i64 a0_4, .int .i64 a0_5, .int .i64 a0_6, .int .i64 a0_7, .int .i64 a0_8, .int .i64 a0_9]] w fun e w' => e = .returned (.bool r) ∧ Below w.heap.size w w' := by
 have hu40 := Tryd.underlying40
 have HR0_2 := Goto.m0 hr0_2
 have HC0_2 := Goto.m0 hc0_2
 clear hr0_2 hc0_2
 have HR0_3 := Goto.m0 hr0_3
 have HC0_3 := Goto.m0 hc0_3
 clear hr0_3 hc0_3
 have HB := Goto.m0 (Below.refl w.heap.size w)
 have H : ((conf_within.f a0_5 1 8).bind fun t119 => (if t119 = true then ((conf_within.f a0_6 0 4).bind fun t120 => (if t120 = true then ((conf_within.f a0_7 1 16).bind fun t121 => (if t121 = true then ((conf_within.f a0_8 0 8).bind fun t122 => (if t122 = true then ((conf_within.f a0_9 1 8).bind fun t123 => (some t123)) else (some false))) else (some false))) else (some false))) else (some false))) = some r := h
 clear h
 replace H := Option.bind_eq_some_iff.mp H
 obtain ⟨t119, A20, H⟩ := H
 have A2 := Goto.m0 A20
 clear A20
 by_cases c3 : t119 = true
 ·
  subst c3
  rw [if_pos rfl] at H
  replace H := Option.bind_eq_some_iff.mp H
  obtain ⟨t120, A40, H⟩ := H
  have A4 := Goto.m0 A40
  clear A40
  by_cases c5 : t120 = true
  ·
   subst c5
   rw [if_pos rfl] at H
   replace H := Option.bind_eq_some_iff.mp H
   obtain ⟨t121, A60, H⟩ := H
   have A6 := Goto.m0 A60
   clear A60
   by_cases c7 : t121 = true
   ·
    subst c7
    rw [if_pos rfl] at H
    replace H := Option.bind_eq_some_iff.mp H
    obtain ⟨t122, A80, H⟩ := H
    have A8 := Goto.m0 A80
    clear A80
    by_cases c9 : t122 = true
    ·
     subst c9
     rw [if_pos rfl] at H
     replace H := Option.bind_eq_some_iff.mp H
     obtain ⟨t123, A100, H⟩ := H
     have A10 := Goto.m0 A100
     clear A100
     obtain rfl := Option.some.inj H
     go_enter Tryd.func18, Tryd.ntmps18
     go_wp2_with (first | ((with_reducible refine gate_dst (N := 1) rfl ?_); refine box_event ?hg (N := 1) ?hd (cs := #[.int .i64 a0_0, .int .u64 a0_1, .slice A0_2 l0_2.length c0_2, .slice A0_3 l0_3.length c0_3, .int .i64 a0_4, .int .i64 a0_5, .int .i64 a0_6, .int .i64 a0_7, .int .i64 a0_8, .int .i64 a0_9]) (t := 40) ?hr ?_; (case hd => rfl); (case hg => rfl); (case hr => first | (go_simp; done) | (go_simp; rfl)); intro gb118 hg w11 hbox hb; have BK118 := Goto.m0 (hbox); have GW118 := Goto.gs HB hg; have GE118 := Goto.gs HB hg; replace HB := Goto.hs HB hb; clear hb hbox hg; have hcz12_0 := Goto.bc0 BK118; have hcz12_1 := Goto.bc1 BK118; have hcz12_2 := Goto.bc2 BK118; have hcz12_3 := Goto.bc3 BK118; have hcz12_4 := Goto.bc4 BK118; have hcz12_5 := Goto.bc5 BK118; have hcz12_6 := Goto.bc6 BK118; have hcz12_7 := Goto.bc7 BK118; have hcz12_8 := Goto.bc8 BK118; have hcz12_9 := Goto.bc9 BK118; have hfz12_0 := Goto.bf BK118 0; have hfz12_1 := Goto.bf BK118 1; have hfz12_2 := Goto.bf BK118 2; have hfz12_3 := Goto.bf BK118 3; have hfz12_4 := Goto.bf BK118 4; have hfz12_5 := Goto.bf BK118 5; have hfz12_6 := Goto.bf BK118 6; have hfz12_7 := Goto.bf BK118 7; have hfz12_8 := Goto.bf BK118 8; have hfz12_9 := Goto.bf BK118 9) | ((first | (with_reducible refine gate_callee (f := 36) rfl ?_) | (with_reducible refine Goto.gate_calleeF rfl ?_)); (first | refine goesL_ (some 5) rfl rfl Tryd.func36 (by kernel_rfl) rfl #[.int .i64 a0_5, .int .i64 1, .int .i64 8] rfl (by (try simp only [List.map_toArray, List.map_cons, List.map_nil]); first | done | rfl | (simp only [List.length_drop, List.length_take]; rfl)) ?_ | refine Goto.goesF_ (some 5) rfl rfl Tryd.func36 (by kernel_rfl) rfl #[.int .i64 a0_5, .int .i64 1, .int .i64 8] rfl (by (try simp only [List.map_toArray, List.map_cons, List.map_nil]); first | done | rfl | (simp only [List.length_drop, List.length_take]; rfl)) ?_); (with_reducible refine (conf_within.calls a0_5 1 8 true _ A2.out).mono ?_); rintro e w' ⟨rfl, ⟨nd, rfl⟩⟩; refine ⟨_, rfl, ?_⟩) | (go_at_call 36; (with_reducible refine (conf_within.calls a0_6 0 4 true _ A4.out).mono ?_); rintro e w' ⟨rfl, ⟨nd, rfl⟩⟩) | (go_at_call 36; (with_reducible refine (conf_within.calls a0_7 1 16 true _ A6.out).mono ?_); rintro e w' ⟨rfl, ⟨nd, rfl⟩⟩) | (go_at_call 36; (with_reducible refine (conf_within.calls a0_8 0 8 true _ A8.out).mono ?_); rintro e w' ⟨rfl, ⟨nd, rfl⟩⟩) | (go_at_call 36; (with_reducible refine (conf_within.calls a0_9 1 8 t123 _ A10.out).mono ?_); rintro e w' ⟨rfl, ⟨nd, rfl⟩⟩))
     go_ret
     exact ⟨Goto.er, by repeat (first | (with_reducible first | exact HB.out | apply below_alloc | apply pw_below_drewN | apply below_drew1 | refine below_set ?_ GE118.out) | exact HB.out)⟩
    ·
     replace c9 := Bool.eq_false_iff.mpr c9
     subst c9
     rw [if_neg (show ¬ (false = true) by decide)] at H
     obtain rfl := Option.some.inj H
     go_enter Tryd.func18, Tryd.ntmps18
     go_wp2_with (first | ((with_reducible refine gate_dst (N := 1) rfl ?_); refine box_event ?hg (N := 1) ?hd (cs := #[.int .i64 a0_0, .int .u64 a0_1, .slice A0_2 l0_2.length c0_2, .slice A0_3 l0_3.length c0_3, .int .i64 a0_4, .int .i64 a0_5, .int .i64 a0_6, .int .i64 a0_7, .int .i64 a0_8, .int .i64 a0_9]) (t := 40) ?hr ?_; (case hd => rfl); (case hg => rfl); (case hr => first | (go_simp; done) | (go_simp; rfl)); intro gb118 hg w13 hbox hb; have BK118 := Goto.m0 (hbox); have GW118 := Goto.gs HB hg; have GE118 := Goto.gs HB hg; replace HB := Goto.hs HB hb; clear hb hbox hg; have hcz14_0 := Goto.bc0 BK118; have hcz14_1 := Goto.bc1 BK118; have hcz14_2 := Goto.bc2 BK118; have hcz14_3 := Goto.bc3 BK118; have hcz14_4 := Goto.bc4 BK118; have hcz14_5 := Goto.bc5 BK118; have hcz14_6 := Goto.bc6 BK118; have hcz14_7 := Goto.bc7 BK118; have hcz14_8 := Goto.bc8 BK118; have hcz14_9 := Goto.bc9 BK118; have hfz14_0 := Goto.bf BK118 0; have hfz14_1 := Goto.bf BK118 1; have hfz14_2 := Goto.bf BK118 2; have hfz14_3 := Goto.bf BK118 3; have hfz14_4 := Goto.bf BK118 4; have hfz14_5 := Goto.bf BK118 5; have hfz14_6 := Goto.bf BK118 6; have hfz14_7 := Goto.bf BK118 7; have hfz14_8 := Goto.bf BK118 8; have hfz14_9 := Goto.bf BK118 9) | ((first | (with_reducible refine gate_callee (f := 36) rfl ?_) | (with_reducible refine Goto.gate_calleeF rfl ?_)); (first | refine goesL_ (some 5) rfl rfl Tryd.func36 (by kernel_rfl) rfl #[.int .i64 a0_5, .int .i64 1, .int .i64 8] rfl (by (try simp only [List.map_toArray, List.map_cons, List.map_nil]); first | done | rfl | (simp only [List.length_drop, List.length_take]; rfl)) ?_ | refine Goto.goesF_ (some 5) rfl rfl Tryd.func36 (by kernel_rfl) rfl #[.int .i64 a0_5, .int .i64 1, .int .i64 8] rfl (by (try simp only [List.map_toArray, List.map_cons, List.map_nil]); first | done | rfl | (simp only [List.length_drop, List.length_take]; rfl)) ?_); (with_reducible refine (conf_within.calls a0_5 1 8 true _ A2.out).mono ?_); rintro e w' ⟨rfl, ⟨nd, rfl⟩⟩; refine ⟨_, rfl, ?_⟩) | (go_at_call 36; (with_reducible refine (conf_within.calls a0_6 0 4 true _ A4.out).mono ?_); rintro e w' ⟨rfl, ⟨nd, rfl⟩⟩) | (go_at_call 36; (with_reducible refine (conf_within.calls a0_7 1 16 true _ A6.out).mono ?_); rintro e w' ⟨rfl, ⟨nd, rfl⟩⟩) | (go_at_call 36; (with_reducible refine (conf_within.calls a0_8 0 8 false _ A8.out).mono ?_); rintro e w' ⟨rfl, ⟨nd, rfl⟩⟩))
     go_ret
     exact ⟨Goto.er, by repeat (first | (with_reducible first | exact HB.out | apply below_alloc | apply pw_below_drewN | apply below_drew1 | refine below_set ?_ GE118.out) | exact HB.out)⟩
   ·
    replace c7 := Bool.eq_false_iff.mpr c7
    subst c7
    rw [if_neg (show ¬ (false = true) by decide)] at H
    obtain rfl := Option.some.inj H
    go_enter Tryd.func18, Tryd.ntmps18
    go_wp2_with (first | ((with_reducible refine gate_dst (N := 1) rfl ?_); refine box_event ?hg (N := 1) ?hd (cs := #[.int .i64 a0_0, .int .u64 a0_1, .slice A0_2 l0_2.length c0_2, .slice A0_3 l0_3.length c0_3, .int .i64 a0_4, .int .i64 a0_5, .int .i64 a0_6, .int .i64 a0_7, .int .i64 a0_8, .int .i64 a0_9]) (t := 40) ?hr ?_; (case hd => rfl); (case hg => rfl); (case hr => first | (go_simp; done) | (go_simp; rfl)); intro gb118 hg w15 hbox hb; have BK118 := Goto.m0 (hbox); have GW118 := Goto.gs HB hg; have GE118 := Goto.gs HB hg; replace HB := Goto.hs HB hb; clear hb hbox hg; have hcz16_0 := Goto.bc0 BK118; have hcz16_1 := Goto.bc1 BK118; have hcz16_2 := Goto.bc2 BK118; have hcz16_3 := Goto.bc3 BK118; have hcz16_4 := Goto.bc4 BK118; have hcz16_5 := Goto.bc5 BK118; have hcz16_6 := Goto.bc6 BK118; have hcz16_7 := Goto.bc7 BK118; have hcz16_8 := Goto.bc8 BK118; have hcz16_9 := Goto.bc9 BK118; have hfz16_0 := Goto.bf BK118 0; have hfz16_1 := Goto.bf BK118 1; have hfz16_2 := Goto.bf BK118 2; have hfz16_3 := Goto.bf BK118 3; have hfz16_4 := Goto.bf BK118 4; have hfz16_5 := Goto.bf BK118 5; have hfz16_6 := Goto.bf BK118 6; have hfz16_7 := Goto.bf BK118 7; have hfz16_8 := Goto.bf BK118 8; have hfz16_9 := Goto.bf BK118 9) | ((first | (with_reducible refine gate_callee (f := 36) rfl ?_) | (with_reducible refine Goto.gate_calleeF rfl ?_)); (first | refine goesL_ (some 5) rfl rfl Tryd.func36 (by kernel_rfl) rfl #[.int .i64 a0_5, .int .i64 1, .int .i64 8] rfl (by (try simp only [List.map_toArray, List.map_cons, List.map_nil]); first | done | rfl | (simp only [List.length_drop, List.length_take]; rfl)) ?_ | refine Goto.goesF_ (some 5) rfl rfl Tryd.func36 (by kernel_rfl) rfl #[.int .i64 a0_5, .int .i64 1, .int .i64 8] rfl (by (try simp only [List.map_toArray, List.map_cons, List.map_nil]); first | done | rfl | (simp only [List.length_drop, List.length_take]; rfl)) ?_); (with_reducible refine (conf_within.calls a0_5 1 8 true _ A2.out).mono ?_); rintro e w' ⟨rfl, ⟨nd, rfl⟩⟩; refine ⟨_, rfl, ?_⟩) | (go_at_call 36; (with_reducible refine (conf_within.calls a0_6 0 4 true _ A4.out).mono ?_); rintro e w' ⟨rfl, ⟨nd, rfl⟩⟩) | (go_at_call 36; (with_reducible refine (conf_within.calls a0_7 1 16 false _ A6.out).mono ?_); rintro e w' ⟨rfl, ⟨nd, rfl⟩⟩))
    go_ret
    exact ⟨Goto.er, by repeat (first | (with_reducible first | exact HB.out | apply below_alloc | apply pw_below_drewN | apply below_drew1 | refine below_set ?_ GE118.out) | exact HB.out)⟩
  ·
   replace c5 := Bool.eq_false_iff.mpr c5
   subst c5
   rw [if_neg (show ¬ (false = true) by decide)] at H
   obtain rfl := Option.some.inj H
   go_enter Tryd.func18, Tryd.ntmps18
   go_wp2_with (first | ((with_reducible refine gate_dst (N := 1) rfl ?_); refine box_event ?hg (N := 1) ?hd (cs := #[.int .i64 a0_0, .int .u64 a0_1, .slice A0_2 l0_2.length c0_2, .slice A0_3 l0_3.length c0_3, .int .i64 a0_4, .int .i64 a0_5, .int .i64 a0_6, .int .i64 a0_7, .int .i64 a0_8, .int .i64 a0_9]) (t := 40) ?hr ?_; (case hd => rfl); (case hg => rfl); (case hr => first | (go_simp; done) | (go_simp; rfl)); intro gb118 hg w17 hbox hb; have BK118 := Goto.m0 (hbox); have GW118 := Goto.gs HB hg; have GE118 := Goto.gs HB hg; replace HB := Goto.hs HB hb; clear hb hbox hg; have hcz18_0 := Goto.bc0 BK118; have hcz18_1 := Goto.bc1 BK118; have hcz18_2 := Goto.bc2 BK118; have hcz18_3 := Goto.bc3 BK118; have hcz18_4 := Goto.bc4 BK118; have hcz18_5 := Goto.bc5 BK118; have hcz18_6 := Goto.bc6 BK118; have hcz18_7 := Goto.bc7 BK118; have hcz18_8 := Goto.bc8 BK118; have hcz18_9 := Goto.bc9 BK118; have hfz18_0 := Goto.bf BK118 0; have hfz18_1 := Goto.bf BK118 1; have hfz18_2 := Goto.bf BK118 2; have hfz18_3 := Goto.bf BK118 3; have hfz18_4 := Goto.bf BK118 4; have hfz18_5 := Goto.bf BK118 5; have hfz18_6 := Goto.bf BK118 6; have hfz18_7 := Goto.bf BK118 7; have hfz18_8 := Goto.bf BK118 8; have hfz18_9 := Goto.bf BK118 9) | ((first | (with_reducible refine gate_callee (f := 36) rfl ?_) | (with_reducible refine Goto.gate_calleeF rfl ?_)); (first | refine goesL_ (some 5) rfl rfl Tryd.func36 (by kernel_rfl) rfl #[.int .i64 a0_5, .int .i64 1, .int .i64 8] rfl (by (try simp only [List.map_toArray, List.map_cons, List.map_nil]); first | done | rfl | (simp only [List.length_drop, List.length_take]; rfl)) ?_ | refine Goto.goesF_ (some 5) rfl rfl Tryd.func36 (by kernel_rfl) rfl #[.int .i64 a0_5, .int .i64 1, .int .i64 8] rfl (by (try simp only [List.map_toArray, List.map_cons, List.map_nil]); first | done | rfl | (simp only [List.length_drop, List.length_take]; rfl)) ?_); (with_reducible refine (conf_within.calls a0_5 1 8 true _ A2.out).mono ?_); rintro e w' ⟨rfl, ⟨nd, rfl⟩⟩; refine ⟨_, rfl, ?_⟩) | (go_at_call 36; (with_reducible refine (conf_within.calls a0_6 0 4 false _ A4.out).mono ?_); rintro e w' ⟨rfl, ⟨nd, rfl⟩⟩))
   go_ret
   exact ⟨Goto.er, by repeat (first | (with_reducible first | exact HB.out | apply below_alloc | apply pw_below_drewN | apply below_drew1 | refine below_set ?_ GE118.out) | exact HB.out)⟩
 ·
  replace c3 := Bool.eq_false_iff.mpr c3
  subst c3
  rw [if_neg (show ¬ (false = true) by decide)] at H
  obtain rfl := Option.some.inj H
  go_enter Tryd.func18, Tryd.ntmps18
  go_wp2_with (first | ((with_reducible refine gate_dst (N := 1) rfl ?_); refine box_event ?hg (N := 1) ?hd (cs := #[.int .i64 a0_0, .int .u64 a0_1, .slice A0_2 l0_2.length c0_2, .slice A0_3 l0_3.length c0_3, .int .i64 a0_4, .int .i64 a0_5, .int .i64 a0_6, .int .i64 a0_7, .int .i64 a0_8, .int .i64 a0_9]) (t := 40) ?hr ?_; (case hd => rfl); (case hg => rfl); (case hr => first | (go_simp; done) | (go_simp; rfl)); intro gb118 hg w19 hbox hb; have BK118 := Goto.m0 (hbox); have GW118 := Goto.gs HB hg; have GE118 := Goto.gs HB hg; replace HB := Goto.hs HB hb; clear hb hbox hg; have hcz20_0 := Goto.bc0 BK118; have hcz20_1 := Goto.bc1 BK118; have hcz20_2 := Goto.bc2 BK118; have hcz20_3 := Goto.bc3 BK118; have hcz20_4 := Goto.bc4 BK118; have hcz20_5 := Goto.bc5 BK118; have hcz20_6 := Goto.bc6 BK118; have hcz20_7 := Goto.bc7 BK118; have hcz20_8 := Goto.bc8 BK118; have hcz20_9 := Goto.bc9 BK118; have hfz20_0 := Goto.bf BK118 0; have hfz20_1 := Goto.bf BK118 1; have hfz20_2 := Goto.bf BK118 2; have hfz20_3 := Goto.bf BK118 3; have hfz20_4 := Goto.bf BK118 4; have hfz20_5 := Goto.bf BK118 5; have hfz20_6 := Goto.bf BK118 6; have hfz20_7 := Goto.bf BK118 7; have hfz20_8 := Goto.bf BK118 8; have hfz20_9 := Goto.bf BK118 9) | ((first | (with_reducible refine gate_callee (f := 36) rfl ?_) | (with_reducible refine Goto.gate_calleeF rfl ?_)); (first | refine goesL_ (some 5) rfl rfl Tryd.func36 (by kernel_rfl) rfl #[.int .i64 a0_5, .int .i64 1, .int .i64 8] rfl (by (try simp only [List.map_toArray, List.map_cons, List.map_nil]); first | done | rfl | (simp only [List.length_drop, List.length_take]; rfl)) ?_ | refine Goto.goesF_ (some 5) rfl rfl Tryd.func36 (by kernel_rfl) rfl #[.int .i64 a0_5, .int .i64 1, .int .i64 8] rfl (by (try simp only [List.map_toArray, List.map_cons, List.map_nil]); first | done | rfl | (simp only [List.length_drop, List.length_take]; rfl)) ?_); (with_reducible refine (conf_within.calls a0_5 1 8 false _ A2.out).mono ?_); rintro e w' ⟨rfl, ⟨nd, rfl⟩⟩; refine ⟨_, rfl, ?_⟩))
  go_ret
  exact ⟨Goto.er, by repeat (first | (with_reducible first | exact HB.out | apply below_alloc | apply pw_below_drewN | apply below_drew1 | refine below_set ?_ GE118.out) | exact HB.out)⟩

/-! ### label_Leq: function 47 -/
def label_Leq.f (a0_0 : Int) (a0_1 : Int) (a1_0 : Int) (a1_1 : Int) : Option (Bool) := if a0_0 ≤ a1_0 then (some ((Go.bits .andNot .u64 a0_1 a1_1) == 0)) else (some false)
set_option maxHeartbeats 8000000 in
set_option maxRecDepth 100000 in
theorem label_Leq.calls (a0_0 : Int) (a0_1 : Int) (a1_0 : Int) (a1_1 : Int) (r : Bool) (w : World) (h : label_Leq.f a0_0 a0_1 a1_0 a1_1 = some r) :
    Calls Tryd.prog 47 #[.agg #[.int .i64 a0_0, .int .u64 a0_1], .agg #[.int .i64 a1_0, .int .u64 a1_1]] w fun e w' => e = .returned (.bool r) ∧ Below w.heap.size w w' := by
 have hu38 := Tryd.underlying38
 have HB := Goto.m0 (Below.refl w.heap.size w)
 have H : (if a0_0 ≤ a1_0 then (some ((Go.bits .andNot .u64 a0_1 a1_1) == 0)) else (some false)) = some r := h
 clear h
 by_cases c3 : a0_0 ≤ a1_0
 ·
  rw [if_pos c3] at H
  have c3b0 : decide (a0_0 ≤ a1_0) = true := decide_eq_true c3
  clear c3
  obtain rfl := Option.some.inj H
  go_enter Tryd.func47, Tryd.ntmps47
  go_wp2_with (first | ((with_reducible refine gate_dst (N := 2) rfl ?_); refine box_event ?hg (N := 2) ?hd (cs := #[.int .i64 a0_0, .int .u64 a0_1]) (t := 38) ?hr ?_; (case hd => rfl); (case hg => rfl); (case hr => first | (go_simp; done) | (go_simp; rfl)); intro gb124 hg w4 hbox hb; have BK124 := Goto.m0 (hbox); have GW124 := Goto.gs HB hg; have GE124 := Goto.gs HB hg; replace HB := Goto.hs HB hb; clear hb hbox hg) | ((with_reducible refine gate_dst (N := 3) rfl ?_); refine box_event ?hg (N := 3) ?hd (cs := #[.int .i64 a1_0, .int .u64 a1_1]) (t := 38) ?hr ?_; (case hd => rfl); (case hg => rfl); (case hr => first | (go_simp; done) | (go_simp; rfl)); intro gb125 hg w5 hbox hb; have BK125 := Goto.m0 (hbox); have GW125 := Goto.gs HB hg; have GE125 := Goto.gs HB hg; have NB124_125 := Goto.nl BK124 hg; have NB125_124 := Goto.nr BK124 hg; replace BK124 := Goto.bb BK124 hb; replace HB := Goto.hs HB hb; clear hb hbox hg; have hnb6 := NB124_125.out; have hnc6 := NB125_124.out; have hcz7_0 := Goto.bc0 BK124; have hcz7_1 := Goto.bc1 BK124; have hfz7_0 := Goto.bf BK124 0; have hfz7_1 := Goto.bf BK124 1; have hcz8_0 := Goto.bc0 BK125; have hcz8_1 := Goto.bc1 BK125; have hfz8_0 := Goto.bf BK125 0; have hfz8_1 := Goto.bf BK125 1))
  go_ret
  exact ⟨Goto.er, by repeat (first | (with_reducible first | exact HB.out | apply below_alloc | apply pw_below_drewN | apply below_drew1 | refine below_set ?_ GE124.out | refine below_set ?_ GE125.out) | exact HB.out)⟩
 ·
  rw [if_neg c3] at H
  have c3b0 : decide (a0_0 ≤ a1_0) = false := decide_eq_false c3
  clear c3
  obtain rfl := Option.some.inj H
  go_enter Tryd.func47, Tryd.ntmps47
  go_wp2_with (first | ((with_reducible refine gate_dst (N := 2) rfl ?_); refine box_event ?hg (N := 2) ?hd (cs := #[.int .i64 a0_0, .int .u64 a0_1]) (t := 38) ?hr ?_; (case hd => rfl); (case hg => rfl); (case hr => first | (go_simp; done) | (go_simp; rfl)); intro gb124 hg w9 hbox hb; have BK124 := Goto.m0 (hbox); have GW124 := Goto.gs HB hg; have GE124 := Goto.gs HB hg; replace HB := Goto.hs HB hb; clear hb hbox hg) | ((with_reducible refine gate_dst (N := 3) rfl ?_); refine box_event ?hg (N := 3) ?hd (cs := #[.int .i64 a1_0, .int .u64 a1_1]) (t := 38) ?hr ?_; (case hd => rfl); (case hg => rfl); (case hr => first | (go_simp; done) | (go_simp; rfl)); intro gb125 hg w10 hbox hb; have BK125 := Goto.m0 (hbox); have GW125 := Goto.gs HB hg; have GE125 := Goto.gs HB hg; have NB124_125 := Goto.nl BK124 hg; have NB125_124 := Goto.nr BK124 hg; replace BK124 := Goto.bb BK124 hb; replace HB := Goto.hs HB hb; clear hb hbox hg; have hnb11 := NB124_125.out; have hnc11 := NB125_124.out; have hcz12_0 := Goto.bc0 BK124; have hcz12_1 := Goto.bc1 BK124; have hfz12_0 := Goto.bf BK124 0; have hfz12_1 := Goto.bf BK124 1; have hcz13_0 := Goto.bc0 BK125; have hcz13_1 := Goto.bc1 BK125; have hfz13_0 := Goto.bf BK125 0; have hfz13_1 := Goto.bf BK125 1))
  go_ret
  exact ⟨Goto.er, by repeat (first | (with_reducible first | exact HB.out | apply below_alloc | apply pw_below_drewN | apply below_drew1 | refine below_set ?_ GE124.out | refine below_set ?_ GE125.out) | exact HB.out)⟩

end Go.Proofs.YtjgdcifbhmjinaaDoor.P
